/-
  WHAT IS PROVED: contracts of functions, and the plain law, for this proof. No further conditions.
-/
import Derived.Test.YtecmadidakoppaaDoorPlan4
import Derived.Test.YtecmadidakoppaaDoorVCref10
import Derived.Test.YtecmadidakoppaaDoorInB
set_option linter.unusedVariables false
set_option linter.unusedSimpArgs false
namespace Go.D
open Go Go.Proofs

theorem refRight10_spec (ep : Int) (s : Slc) (cs : List (List Int)) (w : World) (h : Chs w s cs) (hcl : cs.length ≤ 1000) :
    Calls Tryd.prog fn_tidewaterref10_Right ⟨[.agg ⟨[.int .i64 ep, s.v]⟩]⟩ w fun e w' => ∃ b : Bool, e = .returned (.bool b) ∧ (b = true ↔ RightP ep cs) ∧ Keep w w' := by
  have hsl := h.1
  refine tidewaterref10_Right_ok _ _ ?_
  unfold tidewaterref10_Right
  refine newS_mk (fun r3 w4 hr3 hb3 k4 hs4 => ?_)
  have o4 := ObjAt.new' hb3
  have no : ∀ {w2 : World}, Keep w w2 → ¬ RightP ep cs → ∃ b : Bool, Ending.returned (Value.bool false) = .returned (.bool b) ∧ (b = true ↔ RightP ep cs) ∧ Keep w w2 :=
    fun k hn => ⟨false, rfl, ⟨fun h => (by cases h), fun hh => (hn hh).elim⟩, k⟩
  refine ⟨fun w2 => w2 = w4 ∧ (0 ≤ ep ∧ ep ≤ 1073741824) ∧ 1 ≤ cs.length ∧ cs.length ≤ 3, ?_, ?_⟩
  · refine ⟨_, o4.cell 0 (by simp), BIf_dec (fun h1 => no k4 (fun hh => by have := hh.1; omega)) (fun h1 => ⟨_, o4.cell 0 (by simp), BIf_dec (fun h2 => no k4 (fun hh => by have := hh.1; omega)) (fun h2 => ⟨s, o4.cell 1 (by simp), BIf_dec (fun h3 => no k4 (fun hh => by have := hh.2.1; omega)) (fun h3 => ⟨s, o4.cell 1 (by simp), BIf_dec (fun h5 => no k4 (fun hh => by have := hh.2.1; omega)) (fun h5 => ⟨rfl, by omega, by omega, by omega⟩)⟩)⟩)⟩)⟩
  · rintro w10 ⟨rfl, hep, hc1, hc3⟩
    intros
    refine newS_mk (fun r32 w33 hr32 hb32 k32 hs32 => ?_)
    have k33 := k4.trans k32
    have z4 := k4.size
    have o33 := o4.keep k32
    refine ⟨s, o33.cell 1 (by simp), ?_⟩
    refine ⟨fun seen i w2 => ∃ k : Nat, i = k ∧ k ≤ cs.length ∧ IntsAt w2 seen (cs.take k).flatten ∧ Fresh w seen ∧ Keep w w2 ∧ (∀ c ∈ cs.take k, chainOk c) ∧ (cs.take k).flatten.Nodup, fun _ i _ => ((cs.length : Int) - i).toNat,
      ⟨0, rfl, by omega, IntsAt.new hb32, Fresh.at (by omega), k33, fun c hc => by simp at hc, by simp⟩, ?_⟩
    rintro seen i w39 ⟨k, rfl, hk, hi, hf, k39, hok, hnd⟩
    intros
    refine BIf_dec (fun h1 => ?_) (fun h1 => ?_)
    · have hkl : k < cs.length := by omega
      obtain ⟨a, t, ha, hc, ht, htc⟩ := h.row hkl
      have htl := ht.1
      have hmem : cs[k] ∈ cs := List.getElem_mem hkl
      have hsplit : cs.flatten = (cs.take k).flatten ++ (cs[k] ++ (cs.drop (k + 1)).flatten) := by
        conv => lhs; rw [← List.take_append_drop k cs, List.drop_eq_getElem_cons hkl]
        rw [List.flatten_append, List.flatten_cons]
      generalize hck : cs[k] = c at *
      refine needSome_mk ha ⟨by omega, h1, t, by rw [Int.toNat_natCast]; exact k39.cell hc, fun w2 => w2 = w39 ∧ 1 ≤ c.length ∧ c.length ≤ 3, ?_, ?_⟩
      · refine BIf_dec (fun h2 => no k39 (fun hh => by have := hh.2.2.1 c hmem; have := this.1; omega)) (fun h2 => BIf_dec (fun h3 => no k39 (fun hh => by have := hh.2.2.1 c hmem; have := this.2.1; omega)) (fun h3 => ⟨rfl, by omega, by omega⟩))
      · rintro w80 ⟨rfl, hl1, hl3⟩
        intros
        refine ⟨fun seen i w2 => ∃ j : Nat, i = j ∧ j ≤ c.length ∧ IntsAt w2 seen ((cs.take k).flatten ++ c.take j) ∧ Fresh w seen ∧ Keep w w2 ∧ unitsOk (c.take j) ∧ ((cs.take k).flatten ++ c.take j).Nodup, fun _ i _ => ((c.length : Int) - i).toNat,
          ⟨0, rfl, by omega, by simpa using hi, hf, k39, fun u hu => by simp at hu, by simpa using hnd⟩, ?_⟩
        rintro seen i w94 ⟨j, rfl, hj, hi2, hf2, k94, hu, hnd2⟩
        intros
        have hfl := flat_le 3 (cs.take k) (fun c hc => (hok c hc).2.1)
        have htk : (cs.take k).length ≤ 3 := by rw [List.length_take]; omega
        refine BIf_dec (fun h2 => ?_) (fun h2 => ?_)
        · have hjl : j < c.length := by omega
          obtain ⟨p, hp, hcp⟩ := intsAt_cell (intsAt_keep ht k94) hjl
          have hcj : c[j] ∈ c := List.getElem_mem hjl
          have hpre : (cs.take k).flatten ++ (c.take j ++ [c[j]]) <+: cs.flatten := by
            rw [hsplit, ← List.take_succ_eq_append_getElem hjl]
            refine ⟨c.drop (j + 1) ++ (cs.drop (k + 1)).flatten, ?_⟩
            rw [List.append_assoc, ← List.append_assoc (c.take (j + 1)), List.take_append_drop]
          have hcjl : (c.take j).length ≤ 3 := by rw [List.length_take]; omega
          have hlen : ((cs.take k).flatten ++ c.take j).length ≤ 20 := by rw [List.length_append]; omega
          generalize hu2 : c[j] = u at *
          refine needSome_mk hp ⟨by omega, h2, u, by rw [show Int.toNat (j : Int) * 1 = j by omega]; exact hcp, BIf_dec (fun h3 => no k94 (fun hh => by have := (hh.2.2.1 c hmem).2.2 u hcj; omega)) (fun h3 => BIf_dec (fun h5 => no k94 (fun hh => by have := (hh.2.2.1 c hmem).2.2 u hcj; omega)) (fun h5 => ?_))⟩
          refine (In_spec seen _ u w94 hi2.ints (by omega)).mono ?_
          rintro e w119 ⟨rfl, rfl⟩
          refine ⟨_, rfl, BIf_dec (fun h6 => no k94 (fun hh => ?_)) (fun h6 => ?_)⟩
          · have hn := hpre.sublist.nodup hh.2.2.2
            rw [← List.append_assoc] at hn
            exact (List.nodup_append.1 hn).2.2 u h6 u (by simp) rfl
          · refine hi2.push hf2 k94 (by omega) (fun s' w' g1 g2 g3 g4 g5 => ?_)
            refine ⟨inR64 (by omega), ⟨j + 1, rfl, hjl, ?_, g2, g3, ?_, ?_⟩, by first | (dsimp only; omega) | omega⟩
            · rw [List.take_succ_eq_append_getElem hjl, hu2, ← List.append_assoc]; exact g1
            · intro x hx
              rw [List.take_succ_eq_append_getElem hjl, hu2] at hx
              rcases List.mem_append.1 hx with h | h
              · exact hu x h
              · rw [List.mem_singleton] at h; omega
            · rw [List.take_succ_eq_append_getElem hjl, hu2, ← List.append_assoc]
              refine List.nodup_append.2 ⟨hnd2, by simp, fun x hx y hy => ?_⟩
              rw [List.mem_singleton] at hy
              rintro rfl
              exact h6 (hy ▸ hx)
        · have hjl : j = c.length := by omega
          subst hjl
          rw [List.take_length] at hi2 hu hnd2
          refine ⟨inR64 (by omega), ⟨k + 1, rfl, hkl, ?_, hf2, k94, ?_, ?_⟩, by first | (dsimp only; omega) | omega⟩
          · rw [total_take cs k hkl, hck]; exact hi2
          · intro x hx
            rw [List.take_succ_eq_append_getElem hkl, hck] at hx
            rcases List.mem_append.1 hx with h | h
            · exact hok x h
            · rw [List.mem_singleton] at h; subst h; exact ⟨hl1, hl3, hu⟩
          · rw [total_take cs k hkl, hck]; exact hnd2
    · have hkn : k = cs.length := by omega
      subst hkn
      rw [List.take_length] at hok hnd
      exact ⟨true, rfl, ⟨fun _ => ⟨hep, ⟨hc1, hc3⟩, hok, hnd⟩, fun _ => rfl⟩, k39⟩

/-! ### the units, by definition -/
def blk (cs : List (List Int)) (u : Int) : List Int := (cs.filter fun c => decide (u ∈ c)).map fun _ => u
def ul (cs : List (List Int)) (n : Nat) : List Int := (List.range n).flatMap fun (u : Nat) => blk cs (u : Int)
theorem ul_succ (cs : List (List Int)) (n : Nat) : ul cs (n + 1) = ul cs n ++ blk cs (n : Int) := by
  unfold ul
  rw [List.range_succ, List.flatMap_append]
  simp
theorem blk_succ {cs : List (List Int)} {k : Nat} {u : Int} (hk : k < cs.length) : blk (cs.take (k + 1)) u = blk (cs.take k) u ++ (if u ∈ cs[k] then [u] else []) := by
  unfold blk
  rw [List.take_succ_eq_append_getElem hk, List.filter_append, List.map_append]
  congr 1
  by_cases h : u ∈ cs[k]
  · simp [h]
  · simp [h]
theorem blk_mem {cs : List (List Int)} {u x : Int} : x ∈ blk cs u ↔ x = u ∧ u ∈ cs.flatten := by
  unfold blk
  rw [List.mem_map]
  constructor
  · rintro ⟨c, hc, rfl⟩
    rw [List.mem_filter] at hc
    exact ⟨rfl, List.mem_flatten.2 ⟨c, hc.1, by simpa using hc.2⟩⟩
  · rintro ⟨rfl, hf⟩
    obtain ⟨c, hc, hu⟩ := List.mem_flatten.1 hf
    exact ⟨c, List.mem_filter.2 ⟨hc, by simpa using hu⟩, rfl⟩
theorem blk_len {u : Int} : ∀ {cs : List (List Int)}, cs.flatten.Nodup → (blk cs u).length ≤ 1
  | [], _ => by simp [blk]
  | c :: cs, h => by
    rw [List.flatten_cons, List.nodup_append] at h
    have ih := blk_len (u := u) h.2.1
    have e : blk (c :: cs) u = (if u ∈ c then [u] else []) ++ blk cs u := by
      unfold blk
      by_cases hu : u ∈ c
      · simp [hu]
      · simp [hu]
    rw [e]
    by_cases hu : u ∈ c
    · have : blk cs u = [] := by
        cases hb : blk cs u with
        | nil => rfl
        | cons x l =>
          exfalso
          have hx : x ∈ blk cs u := by rw [hb]; simp
          obtain ⟨rfl, hf⟩ := blk_mem.1 hx
          exact h.2.2 x hu x hf rfl
      rw [this]; simp [hu]
    · simp [hu]; exact ih
theorem ul_law {cs : List (List Int)} (hn : cs.flatten.Nodup) : ∀ (n : Nat), (ul cs n).Pairwise (· < ·) ∧ ∀ x, x ∈ ul cs n ↔ (0 ≤ x ∧ x < (n : Int)) ∧ x ∈ cs.flatten
  | 0 => ⟨by simp [ul], fun x => by simp [ul]; omega⟩
  | n + 1 => by
    obtain ⟨h1, h2⟩ := ul_law hn n
    have hl := blk_len (u := (n : Int)) hn
    rw [ul_succ]
    constructor
    · refine List.pairwise_append.2 ⟨h1, ?_, fun a ha b hb => ?_⟩
      · cases hb : blk cs (n : Int) with
        | nil => simp
        | cons x l =>
          rw [hb] at hl
          have : l = [] := by simpa using hl
          subst this; simp
      · have := (h2 a).1 ha
        obtain ⟨rfl, _⟩ := blk_mem.1 hb
        omega
    · intro x
      rw [List.mem_append, h2, blk_mem]
      constructor
      · rintro (⟨h3, h4⟩ | ⟨rfl, h4⟩)
        · exact ⟨by omega, h4⟩
        · exact ⟨by omega, h4⟩
      · rintro ⟨h3, h4⟩
        by_cases hx : x = (n : Int)
        · subst hx; exact .inr ⟨rfl, h4⟩
        · exact .inl ⟨by omega, h4⟩
theorem ul_units {ep : Int} {cs : List (List Int)} (hr : RightP ep cs) {l : List Int} (hs : l.Pairwise (· < ·)) (hm : ∀ x, x ∈ l ↔ x ∈ cs.flatten) : l = ul cs 12 := by
  obtain ⟨h1, h2⟩ := ul_law hr.2.2.2 12
  refine strict_eq hs h1 (fun x => ?_)
  rw [hm, h2]
  refine ⟨fun h => ⟨?_, h⟩, fun h => h.2⟩
  obtain ⟨c, hc, hx⟩ := List.mem_flatten.1 h
  exact (hr.2.2.1 c hc).2.2 x hx
theorem blk_le (cs : List (List Int)) (u : Int) : (blk cs u).length ≤ cs.length := by
  unfold blk; rw [List.length_map]; exact List.length_filter_le _ _
theorem ul_le (cs : List (List Int)) : ∀ n, (ul cs n).length ≤ n * cs.length
  | 0 => by simp [ul]
  | n + 1 => by
    have h1 := ul_le cs n
    have h2 := blk_le cs (n : Int)
    rw [ul_succ, List.length_append, Nat.add_mul]; omega
theorem refUnits10_spec (ep : Int) (s : Slc) (cs : List (List Int)) (w : World) (h : Chs w s cs) (hcl : cs.length ≤ 1000) (hll : ∀ c ∈ cs, c.length ≤ 1000) :
    Calls Tryd.prog fn_tidewaterref10_Units ⟨[.agg ⟨[.int .i64 ep, s.v]⟩]⟩ w fun e w' => ∃ t : Slc, e = .returned t.v ∧ IntsAt w' t (ul cs 12) ∧ Keep w w' := by
  have hsl := h.1
  refine tidewaterref10_Units_ok _ _ ?_
  unfold tidewaterref10_Units
  refine newS_mk (fun r3 w4 hr3 hb3 k4 hs4 => newS_mk (fun r5 w6 hr5 hb5 k5 hs5 => ?_))
  have z4 := k4.size
  have k6 := k4.trans k5
  have o6 := (ObjAt.new' hb3).keep k5
  have o4 := ObjAt.new' hb3
  refine ⟨fun out u w2 => ∃ n : Nat, u = n ∧ n ≤ 12 ∧ IntsAt w2 out (ul cs n) ∧ Fresh w4 out ∧ Keep w4 w2, fun _ u _ => ((12 : Int) - u).toNat, ⟨0, rfl, by omega, by simpa [ul] using IntsAt.new hb5, Fresh.at (by omega), k5⟩, ?_⟩
  rintro out u w11 ⟨n, rfl, hn, hi, hf, k11⟩
  intros
  refine BIf_dec (fun h1 => ?_) (fun h1 => ?_)
  · refine ⟨s, (o4.keep k11).cell 1 (by simp), ?_⟩
    refine ⟨fun out i w2 => ∃ k : Nat, i = k ∧ k ≤ cs.length ∧ IntsAt w2 out (ul cs n ++ blk (cs.take k) (n : Int)) ∧ Fresh w4 out ∧ Keep w4 w2, fun _ i _ => ((cs.length : Int) - i).toNat, ⟨0, rfl, by omega, by simpa [blk] using hi, hf, k11⟩, ?_⟩
    rintro out i w37 ⟨k, rfl, hk, hi2, hf2, k37⟩
    intros
    refine BIf_dec (fun h2 => ?_) (fun h2 => ?_)
    · have hkl : k < cs.length := by omega
      obtain ⟨a, t, ha, hc, ht, htc⟩ := (h.keep (k4.trans k37)).row hkl
      have hcl2 := hll _ (List.getElem_mem hkl)
      refine needSome_mk ha ⟨by omega, h2, t, by rw [Int.toNat_natCast]; exact hc, ?_⟩
      refine (In_spec t _ (n : Int) w37 ht (by omega)).mono ?_
      rintro e w53 ⟨rfl, rfl⟩
      have hle := ul_le cs n
      have hle2 := blk_le (cs.take k) (n : Int)
      have hle3 : (cs.take k).length ≤ 1000 := by rw [List.length_take]; omega
      have hle4 : n * cs.length ≤ 12 * 1000 := Nat.mul_le_mul hn hcl
      refine ⟨_, rfl, BIf_dec (fun h3 => ?_) (fun h3 => ?_)⟩
      · refine hi2.push hf2 k37 (by rw [List.length_append]; omega) (fun s' w' g1 g2 g3 g4 g5 => ?_)
        refine ⟨inR64 (by omega), ⟨k + 1, rfl, hkl, ?_, g2, g3⟩, by first | (dsimp only; omega) | omega⟩
        rw [blk_succ hkl, if_pos h3, ← List.append_assoc]; exact g1
      · refine ⟨inR64 (by omega), ⟨k + 1, rfl, hkl, ?_, hf2, k37⟩, by first | (dsimp only; omega) | omega⟩
        rw [blk_succ hkl, if_neg h3, List.append_nil]; exact hi2
    · have hkn : k = cs.length := by omega
      subst hkn
      rw [List.take_length, ← ul_succ] at hi2
      exact ⟨inR64 (by omega), ⟨n + 1, rfl, by omega, hi2, hf2, k37⟩, by first | (dsimp only; omega) | omega⟩
  · have hn12 : n = 12 := by omega
    subst hn12
    exact ⟨out, rfl, hi, k4.trans k11⟩

theorem refTail10_spec (ep : Int) (s ts : Slc) (cs : List (List Int)) (l : List Int) (w : World) (h : Chs w s cs) (hc3 : cs.length ≤ 3) (ht : intsAt w ts l) (hll : l.length ≤ 1000) :
    Calls Tryd.prog fn_tidewaterref10_Tail ⟨[.agg ⟨[.int .i64 ep, s.v]⟩, ts.v]⟩ w fun e w' => e = .returned (.int .i64 (tl cs.length l (min cs.length l.length))) ∧ Keep w w' := by
  have hsl := h.1
  have htl := ht.1
  refine tidewaterref10_Tail_ok _ _ _ ?_
  unfold tidewaterref10_Tail
  refine newS_mk (fun r4 w5 hr4 hb4 k5 hs4 => ?_)
  have o5 := ObjAt.new' hb4
  refine ⟨s, o5.cell 1 (by simp), ?_⟩
  refine ⟨fun out i w2 => ∃ k : Nat, i = k ∧ k ≤ min cs.length l.length ∧ out = tl cs.length l k ∧ Keep w w2, fun _ i _ => ((cs.length : Int) - i).toNat, ⟨0, rfl, by omega, rfl, k5⟩, ?_⟩
  rintro out i w11 ⟨k, rfl, hk, rfl, k11⟩
  intros
  refine ⟨fun w2 => w2 = w11 ∧ k < cs.length ∧ k < l.length, ?_, ?_⟩
  · refine BIf_dec (fun h1 => BIf_dec (fun h2 => ⟨rfl, by omega, by omega⟩) (fun h2 => ⟨?_, k11⟩)) (fun h1 => ⟨?_, k11⟩)
    · rw [show min cs.length l.length = k by omega]
    · rw [show min cs.length l.length = k by omega]
  · rintro w51 ⟨rfl, h1, h2⟩
    intros
    obtain ⟨a, ha, hc⟩ := intsAt_cell (intsAt_keep ht k11) h2
    have e1 : l.getD k 0 = l[k] := by simp [List.getD, h2]
    have hbd := tl_bd cs.length hc3 l k (by omega)
    refine needSome_mk ha ⟨by omega, by omega, _, by rw [show Int.toNat (k : Int) * 1 = k by omega]; exact hc, ?_⟩
    refine ⟨fun t w2 => w2 = w51 ∧ t = if 4096 < l[k] then 4096 else l[k], BIf_dec (fun h3 => ⟨rfl, by rw [if_pos h3]⟩) (fun h3 => ⟨rfl, by rw [if_neg h3]⟩), ?_⟩
    rintro t w65 ⟨rfl, hte⟩
    intros
    have hs : tl cs.length l (k + 1) = if 0 < l[k] then (if tl cs.length l k < (t - 1) * (cs.length : Int) + k + 1 then (t - 1) * (cs.length : Int) + k + 1 else tl cs.length l k) else tl cs.length l k := by
      rw [tl, stepT, e1, hte]
    have ht4 : t ≤ 4096 := by rw [hte]; split <;> omega
    have hpos : 0 < t ↔ 0 < l[k] := by rw [hte]; split <;> omega
    refine BIf_dec (fun h3 => ?_) (fun h3 => ?_)
    · have hm : (t - 1) * ((s.l : Nat) : Int) ≤ 4096 * 3 := by
        refine Int.le_trans (Int.mul_le_mul_of_nonneg_right (show t - 1 ≤ (4096 : Int) by omega) (by omega)) ?_
        omega
      have hm0 : 0 ≤ (t - 1) * ((s.l : Nat) : Int) := Int.mul_nonneg (by omega) (by omega)
      rw [hsl] at hm hm0 ⊢
      rw [if_pos (hpos.1 h3)] at hs
      refine ⟨inR64 (by omega), inR64 (by omega), inR64 (by omega), inR64 (by omega), BIf_dec (fun h5 => ?_) (fun h5 => ?_)⟩
      · rw [if_pos h5] at hs
        exact ⟨inR64 (by omega), inR64 (by omega), inR64 (by omega), inR64 (by omega), inR64 (by omega), ⟨k + 1, rfl, by omega, hs.symm, k11⟩, by first | (dsimp only; omega) | omega⟩
      · rw [if_neg h5] at hs
        exact ⟨inR64 (by omega), ⟨k + 1, rfl, by omega, hs.symm, k11⟩, by first | (dsimp only; omega) | omega⟩
    · rw [if_neg (fun hh => h3 (hpos.2 hh))] at hs
      exact ⟨inR64 (by omega), ⟨k + 1, rfl, by omega, hs.symm, k11⟩, by first | (dsimp only; omega) | omega⟩
end Go.D
