/-
  WHAT IS PROVED: contracts of functions, and the plain law, for this proof. No further conditions.
-/
import Derived.Test.YtkcobfichmjbdaaDoorVoteP
import Derived.Test.YtkcobfichmjbdaaDoorErrB
set_option linter.unusedVariables false
set_option linter.unusedSimpArgs false
namespace Go.D
open Go Go.Proofs

def ptrO (p : Option Nat) : Value := .pointer (p.map fun r => ⟨r, 0, none⟩)
abbrev sideC (P : Nat → Option Nat) (B : Nat → Int) : List Value := [ptrO (P 0), .int .i64 (B 0), ptrO (P 1), .int .i64 (B 1), ptrO (P 2), .int .i64 (B 2), ptrO (P 3), .int .i64 (B 3)]
abbrev voteC (vb : Nat → Nat) : List Value := [ptrO (some (vb 0)), ptrO (some (vb 1)), ptrO (some (vb 2)), ptrO (some (vb 3)), ptrO (some (vb 4))]

theorem side_get {w : World} {r : Nat} {P : Nat → Option Nat} {B : Nat → Int} (h : ObjAt w r (sideC P B)) {i : Nat} (hi : i < 4) :
    w.cell? ⟨r, i * 2, none⟩ = some (ptrO (P i)) ∧ w.cell? ⟨r, i * 2 + 1, none⟩ = some (.int .i64 (B i)) := by
  match i, hi with
  | 0, _ => exact ⟨h.cell 0 (by simp), h.cell 1 (by simp)⟩
  | 1, _ => exact ⟨h.cell 2 (by simp), h.cell 3 (by simp)⟩
  | 2, _ => exact ⟨h.cell 4 (by simp), h.cell 5 (by simp)⟩
  | 3, _ => exact ⟨h.cell 6 (by simp), h.cell 7 (by simp)⟩
theorem vote_get {w : World} {r : Nat} {vb : Nat → Nat} (h : ObjAt w r (voteC vb)) {i : Nat} (hi : i < 5) : w.cell? ⟨r, i, none⟩ = some (ptrO (some (vb i))) := by
  match i, hi with
  | 0, _ => exact h.cell 0 (by simp)
  | 1, _ => exact h.cell 1 (by simp)
  | 2, _ => exact h.cell 2 (by simp)
  | 3, _ => exact h.cell 3 (by simp)
  | 4, _ => exact h.cell 4 (by simp)
theorem side_setB {w : World} {r : Nat} {P : Nat → Option Nat} {B : Nat → Int} (h : ObjAt w r (sideC P B)) {i : Nat} (hi : i < 4) (x : Int) :
    canW w ⟨r, i * 2 + 1, none⟩ 1 ∧ ∀ w2, w2 = w.setCell ⟨r, i * 2 + 1, none⟩ (.int .i64 x) → ObjAt w2 r (sideC P (updN B i x)) ∧ Ext (fun k => k = r) w w2 ∧ w2.heap.size = w.heap.size := by
  match i, hi with
  | 0, _ => exact h.setOne 1 (by simp) _
  | 1, _ => exact h.setOne 3 (by simp) _
  | 2, _ => exact h.setOne 5 (by simp) _
  | 3, _ => exact h.setOne 7 (by simp) _
theorem side_setP {w : World} {r : Nat} {P : Nat → Option Nat} {B : Nat → Int} (h : ObjAt w r (sideC P B)) {i : Nat} (hi : i < 4) (x : Option Nat) :
    canW w ⟨r, i * 2, none⟩ 1 ∧ ∀ w2, w2 = w.setCell ⟨r, i * 2, none⟩ (ptrO x) → ObjAt w2 r (sideC (updN P i x) B) ∧ Ext (fun k => k = r) w w2 ∧ w2.heap.size = w.heap.size := by
  match i, hi with
  | 0, _ => exact h.setOne 0 (by simp) _
  | 1, _ => exact h.setOne 2 (by simp) _
  | 2, _ => exact h.setOne 4 (by simp) _
  | 3, _ => exact h.setOne 6 (by simp) _

theorem New_good (n m b : Int) (t : List UInt8) (w : World) (hn : 1 ≤ n ∧ n ≤ 5) (hb : 0 ≤ b) :
    Calls Tryd.prog fn_vote_New ⟨[.int .i64 n, .int .i64 m, .int .i64 b, strV t]⟩ w fun e w' => Keep w w' ∧ ∃ r rp ra, e = .returned (.tuple ⟨[.pointer (some ⟨r, 0, none⟩), .nilIface]⟩) ∧ PropAt w' r rp ra ⟨n, b, t, -1, [], [], 0, 0⟩ ∧ ∀ k, PropM r rp ra k → w.heap.size ≤ k := by
  refine vote_New_ok _ _ _ _ ?_
  unfold vote_New
  refine BIf_dec (fun h1 => by omega) (fun h1 => BIf_dec (fun h2 => by omega) (fun h2 => BIf_dec (fun h3 => by omega) (fun h3 => ?_)))
  refine newS_mk (fun r8 w9 hr8 hb8 k8 hs8 => newS_mk (fun r10 w11 hr10 hb10 k10 hs10 => newS_mk (fun r12 w13 hr12 hb12 k12 hs12 => ?_)))
  refine ⟨(k8.trans k10).trans k12, r12, r8, r10, rfl, ⟨ObjAt.new' hb12, MapAt.keep (MapAt.new hb8) (k10.trans k12), MapAt.keep (MapAt.new hb10) k12, by omega⟩, ?_⟩
  rintro k (rfl | rfl | rfl) <;> omega

theorem begin_spec (r : Nat) (P : Nat → Option Nat) (B : Nat → Int) (i n : Nat) (w : World) (h : ObjAt w r (sideC P B)) (hi : i < 4) (hn : 1 ≤ n ∧ n ≤ 5) (hB : 0 ≤ B i + 4 ∧ B i + 4 ≤ 2 ^ 40) :
    Calls Tryd.prog fn_tidewaterlaw11_side_begin ⟨[.pointer (some (Addr.add ⟨r, 0, none⟩ (i * 2))), .int .i64 (n : Int), .int .i64 (i : Int)]⟩ w fun e w' => e = .returned (.bool true) ∧
      ∃ q rp ra, ObjAt w' r (sideC (updN P i (some q)) (updN B i (B i + 4))) ∧ PropAt w' q rp ra ⟨n, B i + 4, [UInt8.ofNat (97 + i)], -1, [], [], 0, 0⟩ ∧ (∀ k, PropM q rp ra k → w.heap.size ≤ k) ∧ Ext (fun k => k = r) w w' := by
  rw [add_lit, Nat.zero_add]
  refine tidewaterlaw11_side_begin_ok _ _ _ ?_
  unfold tidewaterlaw11_side_begin
  obtain ⟨g1, g2⟩ := side_get h hi
  obtain ⟨s1, s2⟩ := side_setB h hi (B i + 4)
  have hrlt := h.lt
  refine needSome_mk rfl ?_
  rw [add_lit]
  refine ⟨_, g2, inR64 (by omega), needSome_mk rfl ?_⟩
  rw [add_lit]
  refine ⟨s1, fun w7 hw => needSome_mk rfl ?_⟩
  obtain ⟨o7, e7, z7⟩ := s2 w7 hw
  have kd : Keep w7 w7.drew := Ext.drew _ _
  have od := o7.keep kd
  rw [add_lit]
  have e1 : updN B i (B i + 4) i = B i + 4 := updN_same _ _ _
  refine ⟨B i + 4, by rw [(side_get od hi).2, e1], inR64 (by omega), newS_mk (fun r10 w11 hr10 hb10 k11 hs11 => ?_)⟩
  have o11 := od.keep k11
  refine ⟨⟨B i + 4, by rw [(side_get o11 hi).2, e1], rfl⟩, [UInt8.ofNat (97 + i)], ?_, ?_⟩
  · rw [show (97 : Int) + (i : Int) = ((97 + i : Nat) : Int) by omega, wrap8x] at hb10
    exact (Own.new (sz := 1) (n := 1) hb10 (.inl (by simp)) rfl).bytes
  have e11 : Ext (fun k => k = r) w w11 := (e7.trans kd (fun _ h => h) (fun _ h => h.elim)).trans k11 (fun _ h => h) (fun _ h => h.elim)
  have hsz := e11.size
  refine (New_good n 1 (B i + 4) _ w11 (by omega) hB.1).mono ?_
  rintro e w15 ⟨k15, q, rp, ra, rfl, hp, hnew⟩
  refine ⟨some ⟨q, 0, none⟩, _, rfl, needSome_mk rfl ?_⟩
  have o15 := o11.keep k15
  obtain ⟨t1, t2⟩ := side_setP o15 hi (some q)
  refine ⟨t1, fun w19 hw => ?_⟩
  obtain ⟨o19, e19, z19⟩ := t2 w19 hw
  refine ⟨trivial, BIf_mk (fun _ => ⟨rfl, q, rp, ra, o19, hp.ext e19 (fun k hk hh => by have := hnew k hk; omega), fun k hk => by have := hnew k hk; omega, ?_⟩) (fun h => by cases h)⟩
  exact (e11.trans k15 (fun _ h => h) (fun _ h => h.elim)).trans e19 (fun _ h => h) (fun k hk => .inl hk)
end Go.D
