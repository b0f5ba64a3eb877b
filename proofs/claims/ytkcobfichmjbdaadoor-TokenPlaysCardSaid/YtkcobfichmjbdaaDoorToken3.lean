/-
  WHAT IS PROVED: contracts of functions, and the plain law, for this proof. No further conditions.
-/
import Derived.Test.YtkcobfichmjbdaaDoorToken2
set_option linter.unusedVariables false
set_option linter.unusedSimpArgs false
namespace Go.D
open Go Go.Proofs

abbrev rdBack : Rd (Int × (Slc × List Int)) := Rd.pair (Rd.int .i64) Rd.ints
theorem rdBack_get {w : World} {s : Slc} {xs : List (Int × (Slc × List Int))} (h : rowsR rdBack w s xs) {i : Nat} (hi : i < xs.length) :
    ∃ a, s.p = some a ∧ rowAt w (a.add (i * 2)) 0 [.int .i64 xs[i].1, xs[i].2.1.v] ∧ intsAt w xs[i].2.1 xs[i].2.2 ∧ xs[i].2.1.c ≤ maxLen ∧ xs[i].2.1.l ≤ xs[i].2.1.c := by
  obtain ⟨a, cs, h1, ⟨c1, c2, rfl, h2, h3⟩, h6⟩ := h.2.2.2 i hi
  obtain ⟨rfl, _⟩ := h2
  obtain ⟨rfl, h7, _, h9, h10⟩ := h3
  exact ⟨a, h1, h6, h7, h10, h9⟩

def badB (nx : Int) (b : Int × List Int) : Bool := !(decide (0 ≤ b.1 ∧ b.1 ≤ 12) && (fallsL b.2 nx && decide (b.2.length ≤ 4)))
def newR (ep nx : Int) (bs : List (Int × List Int)) : Option Nat :=
  if ep < 0 ∨ 1073741824 < ep then some 13 else if nx < 0 ∨ 4096 < nx then some 0 else if bs.any (badB nx) || !risesL (bs.map (·.1)) (-1) then some 3 else none
def newL (bs : List (Int × List Int)) : Nat → List Int := bs.foldl (fun f b => updS f b.1.toNat b.2) (fun _ => [])
theorem newL_snoc (bs : List (Int × List Int)) (b : Int × List Int) : newL (bs ++ [b]) = updS (newL bs) b.1.toNat b.2 := by simp [newL]

theorem New13_spec (A : Nat → Addr) (ep nx : Int) (s : Slc) (xs : List (Int × (Slc × List Int))) (w : World) (hx : rowsR rdBack w s xs) (hl : ∀ x ∈ xs, x.2.2.length ≤ 2 ^ 30) (hxl : xs.length ≤ 2 ^ 20) (n0 : Nat) (hE : LE5 A n0 w) :
    Calls Tryd.prog fn_token_New ⟨[.int .i64 ep, .int .i64 nx, s.v]⟩ w fun x w' => Keep w w' ∧ match newR ep nx (xs.map fun x => (x.1, x.2.2)) with
      | some k => x = .returned (.tuple ⟨[.pointer none, errV A (errG.getD k 0)]⟩)
      | none => ∃ r F sl, x = .returned (.tuple ⟨[.pointer (some ⟨r, 0, none⟩), .nilIface]⟩) ∧ SeqAt 4 w' r F ep nx sl (newL (xs.map fun x => (x.1, x.2.2))) ∧ w.heap.size ≤ r ∧ ∀ k, F k → w.heap.size ≤ k ∧ k < w'.heap.size := by
  have hsl := hx.1
  obtain ⟨bs, hbs⟩ : ∃ bs, bs = xs.map (fun x => (x.1, x.2.2)) := ⟨_, rfl⟩
  rw [← hbs]
  refine token_New_ok _ _ _ ?_
  unfold token_New
  have kd : Keep w w.drew := Ext.drew _ _
  refine ⟨fun w2 => w2 = w ∧ ¬ (ep < 0 ∨ 1073741824 < ep) ∧ ¬ (nx < 0 ∨ 4096 < nx), ⟨fun b w2 => w2 = w ∧ b = decide (ep < 0 ∨ 1073741824 < ep), BIf_dec (fun h1 => ⟨rfl, by rw [decide_eq_true (.inl h1)]⟩) (fun h1 => ⟨rfl, ?_⟩), ?_⟩, ?_⟩
  · rw [decide_eq_decide]; omega
  · rintro b w7 ⟨rfl, rfl⟩
    intros
    refine BIf_dec (fun h1 => ⟨_, (hE.keep kd).at 13 (by decide), kd, ?_⟩) (fun h1 => BIf_dec (fun h2 => ⟨_, (hE.keep kd).at 0 (by decide), kd, ?_⟩) (fun h2 => BIf_dec (fun h3 => ⟨_, (hE.keep kd).at 0 (by decide), kd, ?_⟩) (fun h3 => ⟨rfl, h1, by omega⟩)))
    · rw [newR, if_pos h1]
    · rw [newR, if_neg h1, if_pos (.inl h2)]
    · rw [newR, if_neg h1, if_pos (.inr h3)]
  · rintro w17 ⟨rfl, hep, hnx⟩
    intros
    have hR : newR ep nx bs = if bs.any (badB nx) || !risesL (bs.map (·.1)) (-1) then some 3 else none := by rw [newR, if_neg hep, if_neg hnx]
    rw [hR]
    have bad : (bs.any (badB nx) || !risesL (bs.map (·.1)) (-1)) = true → ∀ w2, Keep w17 w2 → ∃ v, w2.cell? ⟨gl_ErrForm, 0, none⟩ = some v ∧ (Keep w17 w2 ∧ match (if (bs.any (badB nx) || !risesL (bs.map (·.1)) (-1)) = true then some 3 else none : Option Nat) with
        | some k => Ending.returned (Value.tuple ⟨[.pointer none, v]⟩) = .returned (.tuple ⟨[.pointer none, errV A (errG.getD k 0)]⟩)
        | none => ∃ r F sl, Ending.returned (Value.tuple ⟨[.pointer none, v]⟩) = .returned (.tuple ⟨[.pointer (some ⟨r, 0, none⟩), .nilIface]⟩) ∧ SeqAt 4 w2 r F ep nx sl (newL bs) ∧ w17.heap.size ≤ r ∧ ∀ k, F k → w17.heap.size ≤ k ∧ k < w2.heap.size) := by
      intro hb w2 k2
      refine ⟨_, (hE.keep k2).at 3 (by decide), k2, ?_⟩
      rw [if_pos hb]
    refine newS_mk (fun r36 w37 hr36 hb36 k37 hs37 => ?_)
    refine ⟨fun streams i w42 => ∃ (k : Nat) (F : Nat → Prop) (sl : Nat → Slc), i = k ∧ k ≤ xs.length ∧ Keep w17 w42 ∧ Own w42 streams 1 (((bs.take k).map (·.1)).map intV) ∧ (∀ b, ownB streams b → w17.heap.size ≤ b ∧ b ≠ r36 ∧ ¬ F b) ∧
      (∀ b, F b → w17.heap.size ≤ b ∧ b < w42.heap.size) ∧ SeqAt 4 w42 r36 F ep nx sl (newL (bs.take k)) ∧ ∀ b ∈ bs.take k, badB nx b = false, fun _ i _ => ((xs.length : Int) - i).toNat, ⟨0, fun _ => False, fun _ => ⟨none, 0, 0⟩, rfl, by omega, k37, Own.nil _ _, (by rintro b ⟨a, ha, _⟩; cases ha), fun _ h => h.elim, ?_, by simp⟩, ?_⟩
    · exact ⟨ObjAt.new' hb36, fun x hx => ⟨nil_ints _, (by rintro k ⟨a, ha, _⟩; cases ha), by simp [newL], Nat.le_refl _⟩, fun h => h⟩
    rintro streams i w42 ⟨k, F, sl, rfl, hk, kp, hst, hstb, hF, hS, hok⟩
    intros
    have hbl : bs.length = xs.length := by rw [hbs]; simp
    have hstl := hst.ints.1
    simp only [List.length_map, List.length_take] at hstl
    refine BIf_dec (fun hlt => ?_) (fun hlt => ?_)
    · have hkx : k < xs.length := by omega
      obtain ⟨a, ha, hrow, hint, hcm, hlc⟩ := rdBack_get (rowsR_keep hx kp) hkx
      obtain ⟨_, _, _, hint0, _⟩ := rdBack_get hx hkx
      have hlk := hl _ (List.getElem_mem hkx)
      have hbk : bs.take (k + 1) = bs.take k ++ [(xs[k].1, xs[k].2.2)] := by
        rw [List.take_succ_eq_append_getElem (by omega)]; simp [hbs]
      have hmem : (xs[k].1, xs[k].2.2) ∈ bs := by rw [hbs]; exact List.mem_map.2 ⟨xs[k], List.getElem_mem hkx, rfl⟩
      refine needSome_mk ha ⟨by omega, hlt, _, _, by rw [show Int.toNat (k : Int) * 2 = k * 2 by omega]; exact hrow, ?_⟩
      generalize xs[k] = x at hrow hint hint0 hcm hlc hlk hbk hmem ⊢
      refine var_mk rfl rfl (fun r79 w81 hr79 o79 k81 hs81 => ⟨x.1, o79.cell 0 (by simp), newS_mk (fun r83 w84 hr83 hb83 k84 hs84 => ?_)⟩)
      have k42_84 := k81.trans k84
      have hsrc : srcAt w84 1 (.slc ⟨some ⟨r83, 0, none⟩, 1, 1⟩) ([x.1].map intV) := srcAt_slc (Own.new (sz := 1) (n := 1) hb83 (.inl (by simp)) rfl).cells rfl
      refine appendS_own (hst.keep k42_84) (by omega) rfl hsrc (one_ints [x.1]) (by simp only [Src.n]; omega) (fun s85 w86 g1 g2 g3 g4 => ?_)
      rw [← List.map_append] at g1
      have z42 := kp.size
      have z84 := k42_84.size
      have z86 := g2.size
      have olt := OwnLt hst
      have kp86 : Keep w17 w86 := (kp.trans k42_84).ext g2 (fun b hb => (hstb b hb).1)
      have hr36lt : r36 < w42.heap.size := hS.o.lt
      have S86 := (hS.keep k42_84).ext g2 (fun hh => (hstb r36 hh).2.1 rfl) (fun b hb hh => (hstb b hh).2.2 hb)
      have o86 := (o79.keep k84).ext g2 (fun hh => by have := olt r79 hh; omega)
      have hs85 : ∀ b, ownB s85 b → w17.heap.size ≤ b ∧ b ≠ r36 ∧ ¬ F b := fun b hb => by
        rcases g3 b hb with h1 | h1
        · exact hstb b h1
        · exact ⟨by omega, by omega, fun h2 => by have := (hF b h2).2; omega⟩
      have hs85lt := OwnLt g1
      refine ⟨x.1, o86.cell 0 (by simp), (stream_spec x.1 w86).mono ?_⟩
      rintro e w89 ⟨rfl, rfl⟩
      refine ⟨_, rfl, BIf_ndec (fun h1 => ?_) (fun h1 => ?_)⟩
      · refine bad ?_ _ kp86.drew
        rw [Bool.or_eq_true_iff]; left
        rw [List.any_eq_true]
        exact ⟨_, hmem, by rw [badB, decide_eq_false h1]; rfl⟩
      have hint89 : intsAt w89 x.2.1 x.2.2 := by
        by_cases h0 : x.2.2 = []
        · rw [h0] at hint ⊢; exact ⟨hint.1, .inl rfl⟩
        · refine intsAt_ext (intsAt_keep hint k42_84) g2 (fun b hb hh => ?_)
          have := intsAt_lt hint0 h0 b hb
          have := (hstb b hh).1
          omega
      refine ⟨x.2.1, o86.cell 1 (by simp), (falls_spec x.2.1 x.2.2 nx w89 hint89 (by omega)).mono ?_⟩
      rintro e w94 ⟨rfl, rfl⟩
      refine ⟨_, rfl, BIf_mk (fun h2 => ?_) (fun h2 => ?_)⟩
      · refine bad ?_ _ kp86.drew
        rw [Bool.or_eq_true_iff]; left
        rw [List.any_eq_true]
        have h2 : (fallsL x.2.2 nx && decide (x.2.2.length ≤ 4)) = false := by rw [Bool.not_eq_true'] at h2; exact h2
        exact ⟨_, hmem, by rw [badB]; dsimp only; rw [h2, Bool.and_false]; rfl⟩
      have h2 : (fallsL x.2.2 nx && decide (x.2.2.length ≤ 4)) = true := by simpa using h2
      have h24 : x.2.2.length ≤ 4 := of_decide_eq_true (Bool.and_eq_true_iff.1 h2).2
      have hgood : badB nx (x.1, x.2.2) = false := by rw [badB, decide_eq_true h1]; dsimp only; rw [h2]; rfl
      have kd94 : Keep w94 w94.drew := Ext.drew _ _
      have od := o86.keep kd94
      refine ⟨x.1, od.cell 0 (by simp), x.2.1, od.cell 1 (by simp), (CloneI_spec x.2.1 x.2.2 w94.drew (intsAt_keep hint89 kd94) (by omega)).mono ?_⟩
      rintro e w100 ⟨t, rfl, ht, htc, hft, htlt, k100'⟩
      have k100 := kd94.trans k100'
      obtain ⟨y, hy⟩ : ∃ y : Nat, x.1 = (y : Int) := ⟨x.1.toNat, by omega⟩
      have hy13 : y < 13 := by omega
      have ey : Int.toNat x.1 * 1 = y := by omega
      have zd : w94.drew.heap.size = w94.heap.size := rfl
      obtain ⟨F', hF'⟩ : ∃ F' : Nat → Prop, F' = fun b => F b ∨ ownB t b := ⟨_, rfl⟩
      have S100 := (S86.keep k100).wide (G := F') (fun b hb => by rw [hF']; exact .inl hb) (by
        rw [hF']; rintro (h3 | h3)
        · exact hS.f h3
        · have := hft r36 h3; omega)
      obtain ⟨z1, z2⟩ := S100.setS hy13 ht (fun b hb => by rw [hF']; exact .inr hb) h24 htc
      refine ⟨t, rfl, ⟨x.1, (od.keep k100').cell 0 (by simp), rfl⟩, by omega, by omega, ?_⟩
      rw [ey, add_lit]
      refine ⟨z1, fun w103 hw => ?_⟩
      obtain ⟨S103, e103⟩ := z2 w103 hw
      have z103 := e103.size
      have z100 := k100'.size
      refine ⟨inR64 (by omega), ⟨k + 1, F', updS sl y t, rfl, hkx, (kp86.trans k100).ext e103 (fun b hb => by omega), ?_, fun b hb => ?_, fun b hb => ?_, ?_, ?_⟩, by dsimp only; omega⟩
      · rw [hbk, List.map_append]
        exact (g1.keep k100).ext e103 (fun b hb hh => (hs85 b hb).2.1 hh)
      · refine ⟨(hs85 b hb).1, (hs85 b hb).2.1, ?_⟩
        rw [hF']; rintro (h3 | h3)
        · exact (hs85 b hb).2.2 h3
        · have := hft b h3; have := hs85lt b hb; omega
      · rw [hF'] at hb
        rcases hb with h3 | h3
        · have := hF b h3; omega
        · have := hft b h3; have := htlt b h3; omega
      · rw [hbk, newL_snoc]
        have : Int.toNat (x.1, x.2.2).1 = y := by show Int.toNat x.1 = y; omega
        rw [this]; exact S103
      · intro b hb
        rw [hbk] at hb
        rcases List.mem_append.1 hb with hb | hb
        · exact hok b hb
        · rw [List.mem_singleton.1 hb]; exact hgood
    · have hkl : k = xs.length := by omega
      rw [List.take_of_length_le (by omega)] at hst hS hok
      refine (rises_spec streams _ w42 hst.ints (by simp; omega)).mono ?_
      rintro e w105 ⟨rfl, rfl⟩
      have hnb : bs.any (badB nx) = false := by
        rw [List.any_eq_false]
        intro b hb; rw [hok b hb]; simp
      refine ⟨_, rfl, BIf_mk (fun h1 => ?_) (fun h1 => ?_)⟩
      · refine bad ?_ _ kp.drew
        rw [hnb, Bool.false_or]; exact h1
      · have h1 : risesL (bs.map (·.1)) (-1) = true := by simpa using h1
        refine ⟨kp, ?_⟩
        rw [hnb, h1]
        exact ⟨r36, F, sl, rfl, hS, by omega, hF⟩

theorem newL_nil : newL [] = fun _ => [] := rfl
/-- A new one without addresses. -/
theorem New13_nil (ep nx : Int) (w : World) (A : Nat → Addr) (n0 : Nat) (hE : LE5 A n0 w) (he : 0 ≤ ep ∧ ep ≤ 1073741824) (hn : 0 ≤ nx ∧ nx ≤ 4096) :
    Calls Tryd.prog fn_token_New ⟨[.int .i64 ep, .int .i64 nx, (Slc.v ⟨none, 0, 0⟩)]⟩ w fun x w' => Keep w w' ∧ ∃ r F sl, x = .returned (.tuple ⟨[.pointer (some ⟨r, 0, none⟩), .nilIface]⟩) ∧ SeqAt 4 w' r F ep nx sl (fun _ => []) ∧ w.heap.size ≤ r ∧ ∀ k, F k → w.heap.size ≤ k ∧ k < w'.heap.size := by
  have h := New13_spec A ep nx ⟨none, 0, 0⟩ [] w ⟨rfl, Nat.le_refl _, Nat.zero_le _, fun i h => by simp at h⟩ (fun x h => by cases h) (by simp) n0 hE
  refine h.mono ?_
  rintro x w' ⟨k, hm⟩
  have e : newR ep nx (([] : List (Int × (Slc × List Int))).map fun x => (x.1, x.2.2)) = none := by
    rw [newR, if_neg (by omega), if_neg (by omega)]; rfl
  rw [e] at hm
  exact ⟨k, hm⟩
end Go.D
