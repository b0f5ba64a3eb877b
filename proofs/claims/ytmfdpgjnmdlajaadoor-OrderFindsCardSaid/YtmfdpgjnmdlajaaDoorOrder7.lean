/-
  WHAT IS PROVED: contracts of functions, and the plain law, for this proof. No further conditions.
-/
import Derived.Test.YtmfdpgjnmdlajaaDoorOrder6
import Derived.Test.YtmfdpgjnmdlajaaDoorVClaw35
set_option linter.unusedVariables false
set_option linter.unusedSimpArgs false
set_option maxRecDepth 8000
namespace Go.D
open Go Go.Proofs

theorem evC_len (e : Ev) : (evC e).length = 7 := rfl
theorem EvAt.own {w : World} {s : Slc} {xs : List Ev} (h : Own w s 7 (xs.flatMap evC)) : EvAt w s xs := by
  have h1 := h.1
  rw [flat_len evC 7 evC_len] at h1
  exact ⟨by omega, h.le (by omega), fun i hi => flat_row evC 7 evC_len h hi (by omega)⟩
abbrev rdEv : Rd (Int × Int × Int × List UInt8 × List UInt8 × List UInt8 × Bool) := Rd.pair (Rd.int .i64) (Rd.pair (Rd.int .i64) (Rd.pair (Rd.int .i64) (Rd.pair Rd.str (Rd.pair Rd.str (Rd.pair Rd.str Rd.bool)))))
abbrev EvT := Int × Int × Int × List UInt8 × List UInt8 × List UInt8 × Bool
def evOf (x : EvT) : Ev := ⟨x.1, x.2.1, x.2.2.1, x.2.2.2.1, x.2.2.2.2.1, x.2.2.2.2.2.1, x.2.2.2.2.2.2⟩
theorem EvAt.rows {w : World} {s : Slc} {xs : List EvT} (h : rowsR rdEv w s xs) : EvAt w s (xs.map evOf) := by
  refine ⟨by have := h.1; simpa using this, h.2.1, fun i hi => ?_⟩
  have hi2 : i < xs.length := by simpa using hi
  obtain ⟨a, cs, ha, hc, hrow⟩ := h.2.2.2 i hi2
  obtain ⟨_, _, rfl, ⟨rfl, _⟩, _, _, rfl, ⟨rfl, _⟩, _, _, rfl, ⟨rfl, _⟩, _, _, rfl, ⟨rfl, _⟩, _, _, rfl, ⟨rfl, _⟩, _, _, rfl, ⟨rfl, _⟩, rfl⟩ := hc
  exact ⟨a, ha, by rw [List.getElem_map]; exact hrow⟩

theorem of_spec (s : Slc) (L : List Ev) (most : Nat) (w : World) (h : EvAt w s L) (hm : most ≤ 2 ^ 20) :
    Calls Tryd.prog fn_tidewaterlaw35_of ⟨[s.v, .int .i64 (most : Int)]⟩ w fun x w' => ∃ (t : Slc) (b : Bool), x = .returned (.tuple ⟨[t.v, .bool b]⟩) ∧ Keep w w' ∧ (b = true → L.length ≤ most ∧ Own w' t 7 (L.flatMap evC) ∧ Fresh w t) := by
  have hsl := h.1
  refine tidewaterlaw35_of_ok _ _ ?_
  unfold tidewaterlaw35_of
  refine BIf_dec (fun h1 => ⟨_, _, rfl, Ext.refl _ _, fun hh => by cases hh⟩) (fun h1 => newS_mk (fun r3 w4 hr3 hb3 k3 hs3 => ?_))
  refine ⟨fun out i w2 => ∃ k : Nat, i = k ∧ k ≤ L.length ∧ Own w2 out 7 ((L.take k).flatMap evC) ∧ Fresh w out ∧ Keep w w2, fun _ i _ => ((L.length : Int) - i).toNat, ⟨0, rfl, by omega, Own.new (sz := 7) (n := 0) hb3 (.inl (by simp)) rfl, Fresh.at (by omega), k3⟩, ?_⟩
  rintro out i w9 ⟨k, rfl, hk, ho, hf, k9⟩
  intros
  refine BIf_dec (fun h2 => ?_) (fun h2 => ?_)
  · have hkl : k < L.length := by omega
    obtain ⟨a, _, ha, hrow⟩ := (h.keep k9).row (n := (k : Int)) (by omega) (by omega)
    refine needSome_mk ha ⟨by omega, h2, _, _, _, _, _, _, _, hrow, ?_⟩
    simp only [Int.toNat_natCast]
    refine var_mk (cs := evC L[k]) rfl rfl (fun r45 w47 hr45 o45 k45 hs45 => ?_)
    have k47 := k9.trans k45
    refine ⟨_, o45.cell 3 (by simp [evC]), BIf_dec (fun _ => ⟨_, _, rfl, k47, fun hh => by cases hh⟩) (fun _ => ⟨_, o45.cell 4 (by simp [evC]), BIf_dec (fun _ => ⟨_, _, rfl, k47, fun hh => by cases hh⟩) (fun _ => ⟨_, o45.cell 5 (by simp [evC]), BIf_dec (fun _ => ⟨_, _, rfl, k47, fun hh => by cases hh⟩) (fun _ => ?_)⟩)⟩)⟩
    refine ⟨_, _, _, _, _, _, _, o45.row, newS_mk (fun r58 w59 hr58 hb58 k58 hs58 => ?_)⟩
    have hb58' : Own w59 ⟨some ⟨r58, 0, none⟩, 1, 1⟩ 7 (evC L[k]) := Own.new (sz := 7) (n := 1) hb58 (.inl (by simp)) rfl
    have hol : out.l = k := by have := ho.1; rw [flat_len evC 7 evC_len, List.length_take] at this; omega
    refine appendS_own ((ho.keep k45).keep k58) (by omega) rfl (srcAt_slc hb58'.cells rfl) (fun v hv => by simp [evC] at hv; rcases hv with rfl | rfl | rfl | rfl | rfl | rfl | rfl <;> rfl) (by simp only [Src.n]; omega) (fun s' w' g1 g2 g3 g4 => ?_)
    have kk : Keep w w' := (k47.trans k58).ext g2 (fun j hj => hf j hj)
    refine ⟨inR64 (by omega), ⟨k + 1, rfl, hkl, ?_, fun j hj => (g3 j hj).elim (fun h => hf j h) (fun h => by have := k47.size; have := k58.size; omega), kk⟩, by first | (dsimp only; omega) | omega⟩
    rw [take_succ_get hkl, List.flatMap_append]
    simpa using g1
  · have hkl : k = L.length := by omega
    subst hkl
    rw [List.take_length] at ho
    exact ⟨_, _, rfl, k9, fun _ => ⟨by omega, ho, hf⟩⟩

def al1 : List Ev := [⟨0, 0, 4, [97], [120], [], true⟩, ⟨1, 1, 1, [97], [120], [], false⟩]
def al2 : List Ev := [⟨0, 0, 4, [97], [120], [], true⟩, ⟨0, 0, 1, [97], [120], [], false⟩]
theorem al1_none : findP al1 = .error 17 := by rfl
theorem al2_some : findP al2 = .ok [1, 0] := by rfl

theorem alive35_spec (A : Nat → Addr) (w : World) (hE0 : Errs A w) : Calls Tryd.prog fn_tidewaterlaw35_alive ⟨[]⟩ w fun e w' => e = .returned (.bool true) ∧ Keep w w' := by
  have hE := hE0.b
  have hG := hE.g.sub (H := ordG) (by decide)
  refine tidewaterlaw35_alive_ok ?_
  unfold tidewaterlaw35_alive
  refine newS_mk (fun r1 w2 hr1 hb1 k1 hs1 => ?_)
  have o1 : Own w2 ⟨some ⟨r1, 0, none⟩, 2, 2⟩ 7 (al1.flatMap evC) := Own.new (sz := 7) (n := 2) hb1 (.inl (by simp)) rfl
  refine (Find_spec35 A _ al1 w2 (EvAt.own o1) (by decide) (hG.keep k1)).mono ?_
  rintro x w4 ⟨k4, hres⟩
  rw [al1_none] at hres
  simp only at hres
  subst hres
  have k14 := k1.trans k4
  refine ⟨_, _, rfl, newS_mk (fun r7 w8 hr7 hb7 k7 hs7 => ?_)⟩
  have o7 : Own w8 ⟨some ⟨r7, 0, none⟩, 2, 2⟩ 7 (al2.flatMap evC) := Own.new (sz := 7) (n := 2) hb7 (.inl (by simp)) rfl
  refine (Find_spec35 A _ al2 w8 (EvAt.own o7) (by decide) (hG.keep (k14.trans k7))).mono ?_
  rintro x w10 ⟨k10, hres⟩
  rw [al2_some] at hres
  obtain ⟨t, rfl, ht, _⟩ := hres
  have kk := (k14.trans k7).trans k10
  refine ⟨_, _, rfl, ?_⟩
  refine (Num_spec A 17 (by omega) w10 (hE.keep kk).1).mono ?_
  rintro e w14 ⟨rfl, k14'⟩
  refine ⟨_, rfl, BIf_dec (fun _ => ⟨trivial, BIf_mk (fun _ => newS_mk (fun r16 w17 hr16 hb16 k16 hs16 => ?_)) (fun h => by cases h)⟩) (fun h => absurd rfl h)⟩
  have o16 : Own w17 ⟨some ⟨r16, 0, none⟩, 2, 2⟩ 1 (([1, 0] : List Int).map intV) := Own.new (sz := 1) (n := 2) hb16 (.inl (by simp)) rfl
  refine (SameInts_spec t _ [1, 0] [1, 0] w17 ((ht.keep k14').keep k16).ints o16.ints (by simp)).mono ?_
  rintro e w19 ⟨rfl, k19⟩
  exact ⟨_, rfl, rfl, ((kk.trans k14').trans k16).trans k19⟩

theorem OrderChecks_walk (s o : Slc) (xs : List EvT) (ord : List Int) (w : World) (hx : rowsR rdEv w s xs) (ho : intsAt w o ord) (hoc : o.l ≤ o.c) (A : Nat → Addr) (hE0 : Errs A w) :
    Calls Tryd.prog fn_tidewaterlaw35_OrderChecks ⟨[s.v, o.v]⟩ w fun e w' => e = .returned (.bool true) ∧ Keep w w' := by
  have h := EvAt.rows hx
  generalize xs.map evOf = L at h
  refine tidewaterlaw35_OrderChecks_ok _ _ ?_
  unfold tidewaterlaw35_OrderChecks
  refine (alive35_spec A w hE0).mono ?_
  rintro e w4 ⟨rfl, k4⟩
  refine ⟨_, rfl, BIf_mk (fun h => by cases h) (fun _ => ?_)⟩
  refine (of_spec s L 20 w4 (h.keep k4) (by omega)).mono ?_
  rintro e w7 ⟨t, b, rfl, k7, hb⟩
  have k47 := k4.trans k7
  refine ⟨_, _, rfl, BIf_mk (fun _ => ⟨rfl, k47⟩) (fun hb1 => BIf_dec (fun _ => ⟨rfl, k47⟩) (fun h2 => ?_))⟩
  obtain ⟨hl, ht, hf⟩ := hb (by simpa using hb1)
  refine (Check_spec s o L ord w7 (h.keep k47) (intsAt_keep ho k47) hoc (by omega)).mono ?_
  rintro e w11 ⟨rfl, k11⟩
  refine ⟨_, rfl, ?_⟩
  refine (Stands_spec t o L ord w11 (EvAt.own (ht.keep k11)) (intsAt_keep ho (k47.trans k11)) hoc (by omega)).mono ?_
  rintro e w14 ⟨rfl, k14⟩
  exact ⟨_, rfl, by rw [check_stand]; simp, (k47.trans k11).trans k14⟩
end Go.D
