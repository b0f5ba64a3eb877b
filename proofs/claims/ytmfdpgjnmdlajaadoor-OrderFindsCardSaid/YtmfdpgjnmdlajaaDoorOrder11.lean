/-
  WHAT IS PROVED: contracts of functions, and the plain law, for this proof. No further conditions.
-/
import Derived.Test.YtmfdpgjnmdlajaaDoorOrder10
set_option linter.unusedVariables false
set_option linter.unusedSimpArgs false
set_option maxRecDepth 8000
namespace Go.D
open Go Go.Proofs

theorem getP_left {A F : List Int} {y : Int} {j : Nat} (h : j < A.length) : (A ++ y :: F)[j]? = A[j]? := List.getElem?_append_left h
theorem getP_mid {A F : List Int} {y : Int} : (A ++ y :: F)[A.length]? = some y := by
  rw [List.getElem?_append_right (Nat.le_refl _)]; simp
theorem getP_right {A F : List Int} {y : Int} {j : Nat} (h : A.length < j) : (A ++ y :: F)[j]? = F[j - (A.length + 1)]? := by
  rw [List.getElem?_append_right (by omega), show j - A.length = (j - (A.length + 1)) + 1 by omega, List.getElem?_cons_succ]
/-- Where an element stands when t of the pairs are turned about. -/
def turnI (p n t j : Nat) : Nat := if p ≤ j ∧ (j < p + t ∨ n - t ≤ j) then p + n - 1 - j else j
theorem turn_end {A F G : List Int} {y : Int} {t : Nat} (hl : G.length = A.length + 1 + F.length) (ht : F.length ≤ 2 * t + 1) (htl : t ≤ F.length) (h : ∀ j, j < G.length → G[j]? = (A ++ y :: F)[turnI (A.length + 1) G.length t j]?) : G = A ++ y :: F.reverse := by
  refine List.ext_getElem? (fun j => ?_)
  by_cases hj : j < G.length
  · rw [h j hj]
    unfold turnI
    by_cases h1 : j < A.length
    · rw [if_neg (by omega), getP_left h1, getP_left h1]
    · by_cases h2 : j = A.length
      · subst h2
        rw [if_neg (by omega), getP_mid, getP_mid]
      · rw [getP_right (A := A) (F := F.reverse) (by omega), List.getElem?_reverse (by omega)]
        split
        · rename_i h3
          rw [getP_right (by omega)]
          congr 1
          omega
        · rename_i h3
          rw [getP_right (by omega)]
          congr 1
          omega
  · rw [List.getElem?_eq_none (by omega), List.getElem?_eq_none (by simp; omega)]

theorem Next_spec35 (s : Slc) (o : List Int) (w : World) (h : IntsAt w s o) (hnd : o.Nodup) (hl : o.length ≤ 2 ^ 20) :
    Calls Tryd.prog fn_tidewaterref35_Next ⟨[s.v]⟩ w fun x w' => ∃ b : Bool, x = .returned (.bool b) ∧ Ext (ownB s) w w' ∧
      (b = false → ∀ q : List Int, q.Perm o → ¬ lexLt o q) ∧
      (b = true → ∃ o', IntsAt w' s o' ∧ o'.Perm o ∧ lexLt o o' ∧ ∀ q : List Int, q.Perm o → lexLt o q → ¬ lexLt q o') := by
  have hsl := h.sl
  refine tidewaterref35_Next_ok _ ?_
  unfold tidewaterref35_Next
  refine ⟨inR64 (by omega), fun i w2 => Keep w w2 ∧ ((i < 0 ∧ ∀ q : List Int, q.Perm o → ¬ lexLt o q) ∨ ∃ (A : List Int) (x d : Int) (D : List Int), o = A ++ x :: d :: D ∧ i = (A.length : Int) ∧ (d :: D).Pairwise (fun a b => b < a) ∧ x < d), ?_, ?_⟩
  · refine ⟨fun i w2 => Keep w w2 ∧ ((o = [] ∧ i = -2) ∨ ∃ k : Nat, k < o.length ∧ i = (k : Int) - 1 ∧ (o.drop k).Pairwise (fun a b => b < a)), fun i _ => (i + 2).toNat, ⟨Ext.refl _ _, ?_⟩, ?_⟩
    · cases ho : o with
      | nil => left; rw [ho] at hsl; exact ⟨rfl, by rw [hsl]; rfl⟩
      | cons a o' =>
        right
        rw [← ho]
        have h1 : 0 < o.length := by rw [ho]; simp
        refine ⟨o.length - 1, by omega, by omega, ?_⟩
        rw [drop_cons (by omega), show o.length - 1 + 1 = o.length by omega, List.drop_length]
        simp
    rintro i w6 ⟨k6, hi⟩
    intros
    refine BIf_dec (fun h0 => ?_) (fun h0 => ?_)
    · rcases hi with ⟨_, h1⟩ | ⟨k, hk, rfl, hp⟩
      · omega
      have hk1 : 1 ≤ k := by omega
      have hd := h.keep k6.drew
      obtain ⟨a, ha, hc⟩ := hd.get (i := k - 1) (by omega)
      obtain ⟨a2, ha2, hc2⟩ := hd.get (i := k) hk
      refine needSome_mk ha ⟨h0, by omega, _, by rw [show Int.toNat ((k : Int) - 1) = k - 1 by omega]; exact hc, inR64 (by omega), needSome_mk ha2 ⟨by omega, by omega, _, by rw [show Int.toNat ((k : Int) - 1 + 1) = k by omega]; exact hc2, BIf_dec (fun h2 => ?_) (fun h2 => ?_)⟩⟩
      · refine ⟨inR64 (by omega), ⟨k6.drew, .inr ⟨k - 1, by omega, by omega, ?_⟩⟩, by first | (dsimp only; omega) | omega⟩
        rw [drop_cons (k := k - 1) (by omega), show k - 1 + 1 = k by omega]
        refine List.pairwise_cons.2 ⟨fun z hz => ?_, hp⟩
        rw [drop_cons hk] at hz hp
        rcases List.mem_cons.1 hz with rfl | hz
        · exact h2
        · have := (List.pairwise_cons.1 hp).1 z hz; omega
      · refine ⟨k6.drew, .inr ⟨o.take (k - 1), o[k - 1], o[k], o.drop (k + 1), ?_, by simp; omega, by rw [← drop_cons hk]; exact hp, ?_⟩⟩
        · rw [← drop_cons hk]
          have := drop_cons (l := o) (k := k - 1) (by omega)
          rw [show k - 1 + 1 = k by omega] at this
          rw [← this, List.take_append_drop]
        · have hne : o[k - 1] ≠ o[k] := (List.pairwise_iff_getElem.1 hnd) (k - 1) k (by omega) hk (by omega)
          omega
    · refine ⟨k6.drew, .inl ⟨by omega, ?_⟩⟩
      rcases hi with ⟨rfl, h1⟩ | ⟨k, hk, rfl, hp⟩
      · intro q hq; cases q <;> exact fun h => h
      · have : k = 0 := by omega
        subst this
        intro q hq
        exact desc_max hp hq
  · rintro i w28 ⟨k28, hi⟩
    intros
    refine BIf_dec (fun h0 => ?_) (fun h0 => ?_)
    · rcases hi with ⟨_, hno⟩ | ⟨A, x, d, D, ho, rfl, hp, hxd⟩
      · exact ⟨_, rfl, k28.mono (fun _ h => h.elim), fun _ => hno, fun hh => by cases hh⟩
      · omega
    rcases hi with ⟨hneg, _⟩ | ⟨A, x, d, D, ho, rfl, hp, hxd⟩
    · omega
    have hlen : o.length = A.length + 1 + (d :: D).length := by rw [ho]; simp; omega
    obtain ⟨E, hE⟩ : ∃ E : List Int, E = d :: D := ⟨_, rfl⟩
    have hE0 : ∀ (h : 0 < E.length), E[0] = d := fun h => by subst hE; rfl
    have hElen : 0 < E.length := by rw [hE]; simp
    rw [← hE] at hlen hp ho
    have hgx : ∀ (hj : A.length < o.length), o[A.length] = x := fun hj => by
      have := getP_mid (A := A) (F := E) (y := x)
      rw [← ho, List.getElem?_eq_getElem hj] at this
      exact Option.some.inj this
    have hgE : ∀ (m : Nat) (hm : m < E.length) (hj : A.length + 1 + m < o.length), o[A.length + 1 + m] = E[m] := fun m hm hj => by
      have := getP_right (A := A) (F := E) (y := x) (j := A.length + 1 + m) (by omega)
      rw [← ho, List.getElem?_eq_getElem hj, show A.length + 1 + m - (A.length + 1) = m by omega, List.getElem?_eq_getElem hm] at this
      exact Option.some.inj this
    have hxE : x ∉ E := by
      rw [ho] at hnd
      have := (List.pairwise_append.1 hnd).2.1
      exact (List.nodup_cons.1 this).1
    refine ⟨inR64 (by omega), fun kk w2 => Keep w w2 ∧ ∃ m : Nat, m < E.length ∧ kk = ((A.length + 1 + m : Nat) : Int) ∧ ∀ z ∈ E.drop (m + 1), z < x, fun kk _ => kk.toNat, ⟨k28, E.length - 1, by omega, by omega, fun z hz => by rw [show E.length - 1 + 1 = E.length by omega, List.drop_length] at hz; cases hz⟩, ?_⟩
    rintro kk w48 ⟨k48, m, hm, rfl, hz⟩
    intros
    have hd := h.keep k48.drew
    obtain ⟨a, ha, hc⟩ := hd.get (i := A.length + 1 + m) (by omega)
    obtain ⟨a2, ha2, hc2⟩ := hd.get (i := A.length) (by omega)
    obtain rfl : a = a2 := by rw [ha] at ha2; exact Option.some.inj ha2
    rw [hgE m hm] at hc
    rw [hgx] at hc2
    have hi1 : Int.toNat ((A.length + 1 + m : Nat) : Int) = A.length + 1 + m := by omega
    have hi2 : Int.toNat ((A.length : Nat) : Int) = A.length := by omega
    refine needSome_mk ha ⟨by omega, by omega, _, by rw [hi1]; exact hc, needSome_mk ha ⟨by omega, by omega, _, by rw [hi2]; exact hc2, BIf_dec (fun h1 => ?_) (fun h1 => ?_)⟩⟩
    · have hm0 : m ≠ 0 := by
        rintro rfl
        rw [hE0 hElen] at h1
        omega
      refine ⟨inR64 (by omega), ⟨k48.drew, m - 1, by omega, by omega, fun z hz2 => ?_⟩, by first | (dsimp only; omega) | omega⟩
      rw [show m - 1 + 1 = m by omega, drop_cons hm] at hz2
      rcases List.mem_cons.1 hz2 with rfl | hz2
      · exact h1
      · exact hz z hz2
    -- the two that change places
    have hxy : x < E[m] := by
      have : x ≠ E[m] := fun hh => hxE (hh ▸ List.getElem_mem hm)
      omega
    obtain ⟨D1, hD1⟩ : ∃ D1, D1 = E.take m := ⟨_, rfl⟩
    obtain ⟨D2, hD2⟩ : ∃ D2, D2 = E.drop (m + 1) := ⟨_, rfl⟩
    generalize hy : E[m] = y at *
    have hEs : E = D1 ++ y :: D2 := by rw [hD1, hD2, ← hy, ← drop_cons hm, List.take_append_drop]
    have hD1l : D1.length = m := by rw [hD1, List.length_take]; omega
    rw [← hD2] at hz
    obtain ⟨g1, g2, g3⟩ := next_lex (hEs ▸ hp) hxy hz A
    rw [← hEs, ← ho] at g1 g2 g3
    have kdd := k48.drew.drew
    have hdd := h.keep kdd
    refine needSome_mk ha ⟨by omega, by omega, y, ?_, needSome_mk ha ⟨by omega, by omega, x, ?_, needSome_mk ha ⟨by omega, by omega, ?_⟩⟩⟩
    · obtain ⟨a3, ha3, hc3⟩ := hdd.get (i := A.length + 1 + m) (by omega)
      rw [ha] at ha3; cases ha3
      rw [hi1, hc3, hgE m hm, hy]
    · obtain ⟨a3, ha3, hc3⟩ := hdd.get (i := A.length) (by omega)
      rw [ha] at ha3; cases ha3
      rw [hi2, hc3, hgx]
    obtain ⟨c1, c2⟩ := hdd.set (i := A.length) (by omega) y ha
    rw [hi2]
    refine ⟨c1, fun w69 hw69 => ?_⟩
    obtain ⟨i69, x69, z69⟩ := c2 w69 hw69
    obtain ⟨c3, c4⟩ := i69.set (i := A.length + 1 + m) (by simp; omega) x ha
    refine needSome_mk ha ⟨by omega, by omega, by rw [hi1]; exact c3, fun w71 hw71 => ?_⟩
    rw [hi1] at hw71
    obtain ⟨i71, x71, z71⟩ := c4 w71 hw71
    obtain ⟨F, hF⟩ : ∃ F, F = D1 ++ x :: D2 := ⟨_, rfl⟩
    have hFl : F.length = E.length := by rw [hF, hEs]; simp
    have hset : (o.set A.length y).set (A.length + 1 + m) x = A ++ y :: F := by
      rw [ho, hEs, hF, List.set_append, if_neg (by omega), Nat.sub_self, List.set_cons_zero, List.set_append, if_neg (by omega), show A.length + 1 + m - A.length = m + 1 by omega, List.set_cons_succ, List.set_append, if_neg (by omega), hD1l, Nat.sub_self, List.set_cons_zero]
    rw [hset] at i71
    have X71 : Ext (ownB s) w w71 := Ext.trans kdd (x69.trans x71 (fun _ h => h) (fun _ h => .inl h)) (fun _ h => h.elim) (fun _ h => .inl h)
    rw [← hF] at g1 g2 g3
    refine ⟨inR64 (by omega), inR64 (by omega), ?_⟩
    refine ⟨fun ia ib w2 => ∃ (t : Nat) (G : List Int), ia = ((A.length + 1 + t : Nat) : Int) ∧ ib = (o.length : Int) - 1 - (t : Int) ∧ t ≤ F.length ∧ 2 * t ≤ F.length + 1 ∧ IntsAt w2 s G ∧ G.length = A.length + 1 + F.length ∧ Ext (ownB s) w w2 ∧ ∀ j, j < G.length → G[j]? = (A ++ y :: F)[turnI (A.length + 1) G.length t j]?, fun ia ib _ => (ib - ia + 2).toNat,
      ⟨0, A ++ y :: F, by omega, by omega, by omega, by omega, i71, by simp; omega, X71, fun j hj => by rw [turnI, if_neg (by omega)]⟩, ?_⟩
    rintro ia ib w76 ⟨t, G, rfl, rfl, ht1, ht2, iG, hGl, xG, hG⟩
    intros
    have hGo : G.length = o.length := by omega
    have hsG : s.l = G.length := by omega
    refine BIf_dec (fun h2 => ?_) (fun h2 => ?_)
    · have hj1 : Int.toNat ((A.length + 1 + t : Nat) : Int) = A.length + 1 + t := by omega
      have hj2 : Int.toNat ((o.length : Int) - 1 - (t : Int)) = o.length - 1 - t := by omega
      have iGd := iG.keep (Ext.drew none0 w76)
      obtain ⟨b1, hb1, hc1⟩ := iGd.get (i := o.length - 1 - t) (by omega)
      obtain ⟨b2, hb2, hc2⟩ := iGd.get (i := A.length + 1 + t) (by omega)
      rw [ha] at hb1 hb2; cases hb1; cases hb2
      obtain ⟨d1, d2⟩ := iGd.set (i := A.length + 1 + t) (by omega) (G[o.length - 1 - t]'(by omega)) ha
      refine needSome_mk ha ⟨by omega, by omega, _, by rw [hj2]; exact hc1, needSome_mk ha ⟨by omega, by omega, _, by rw [hj1]; exact hc2, needSome_mk ha ⟨by omega, by omega, by rw [hj1]; exact d1, fun w103 hw103 => ?_⟩⟩⟩
      rw [hj1] at hw103
      obtain ⟨i103, x103, z103⟩ := d2 w103 hw103
      obtain ⟨d3, d4⟩ := i103.set (i := o.length - 1 - t) (by simp; omega) (G[A.length + 1 + t]'(by omega)) ha
      refine needSome_mk ha ⟨by omega, by omega, by rw [hj2]; exact d3, fun w105 hw105 => ?_⟩
      rw [hj2] at hw105
      obtain ⟨i105, x105, z105⟩ := d4 w105 hw105
      refine ⟨inR64 (by omega), inR64 (by omega), ⟨t + 1, _, by omega, by omega, by omega, by omega, i105, by simp; omega, ?_, ?_⟩, by first | (dsimp only; omega) | omega⟩
      · exact (Ext.trans xG (Ext.drew none0 _) (fun _ h => h) (fun _ h => h.elim)).trans (x103.trans x105 (fun _ h => h) (fun _ h => .inl h)) (fun _ h => h) (fun _ h => .inl h)
      · intro j hj
        have hjG : j < G.length := by simpa using hj
        simp only [List.length_set] at hj ⊢
        rw [List.getElem?_set, List.getElem?_set]
        simp only [List.length_set]
        by_cases e1 : o.length - 1 - t = j
        · rw [if_pos e1, if_pos (by omega)]
          have := hG (A.length + 1 + t) (by omega)
          rw [List.getElem?_eq_getElem (by omega)] at this
          rw [this]
          congr 1
          unfold turnI
          split <;> split <;> omega
        · rw [if_neg e1]
          by_cases e2 : A.length + 1 + t = j
          · rw [if_pos e2, if_pos (by omega)]
            have := hG (o.length - 1 - t) (by omega)
            rw [List.getElem?_eq_getElem (by omega)] at this
            rw [this]
            congr 1
            unfold turnI
            split <;> split <;> omega
          · rw [if_neg e2, hG j hjG]
            congr 1
            unfold turnI
            split <;> split <;> omega
    · have hGe := turn_end hGl (by omega) ht1 hG
      rw [hGe] at iG
      exact ⟨true, rfl, xG, fun hh => (by cases hh), fun _ => ⟨_, iG, g1, g2, g3⟩⟩
end Go.D
