/-
  WHAT IS PROVED: contracts of functions, and the plain law, for this proof. No further conditions.
-/
import Derived.Test.YtpnchpkklamnnaaDoorNum
import Derived.Test.YtpnchpkklamnnaaDoorSums2
import Derived.Test.YtpnchpkklamnnaaDoorVCwire
set_option linter.unusedVariables false
set_option linter.unusedSimpArgs false
namespace Go.D
open Go Go.Proofs

def errVs (A : Nat → Addr) : List Value := (List.range 19).map fun k => errV A (errG.getD k 0)

theorem table_spec (A : Nat → Addr) (w : World) (h : Errs A w) :
    Calls Tryd.prog fn_wire_table ⟨[]⟩ w fun e w' => ∃ t : Slc, e = .returned t.v ∧ t.l = 19 ∧ Own w' t 1 (errVs A) ∧ Keep w w' := by
  refine wire_table_ok ?_
  unfold wire_table
  refine ⟨_, Errs.at h 0 (by omega), _, Errs.at h 1 (by omega), _, Errs.at h 2 (by omega), _, Errs.at h 3 (by omega), _, Errs.at h 4 (by omega), _, Errs.at h 5 (by omega), _, Errs.at h 6 (by omega), _, Errs.at h 7 (by omega), _, Errs.at h 8 (by omega), _, Errs.at h 9 (by omega), _, Errs.at h 10 (by omega), _, Errs.at h 11 (by omega), _, Errs.at h 12 (by omega), _, Errs.at h 13 (by omega), _, Errs.at h 14 (by omega), _, Errs.at h 15 (by omega), _, Errs.at h 16 (by omega), _, Errs.at h 17 (by omega), _, Errs.at h 18 (by omega), ?_⟩
  refine newS_mk (fun r w1 hr hb hk hs => ?_)
  exact ⟨⟨some ⟨r, 0, none⟩, 19, 19⟩, rfl, rfl, Own.new (sz := 1) (n := 19) hb (.inl (by simp)) rfl, hk⟩

theorem Errs.row {A : Nat → Addr} {w : World} {t : Slc} (h : Own w t 1 (errVs A)) {n : Nat} (hn : n < 19) : ∃ a, t.p = some a ∧ w.cell? (a.add n) = some (errV A (errG.getD n 0)) := by
  obtain ⟨a, ha, hc⟩ := cellsAt_get h.cells (i := n) (by simp [errVs]; exact hn)
  refine ⟨a, ha, ?_⟩
  rw [hc]
  simp [errVs]

theorem IndexFunc_spec (A : Nat → Addr) (k : Nat) (hk : k < 19) (c : Addr) (t : Slc) (w : World) (hE : Errs A w) (htl : t.l = 19) (ht : Own w t 1 (errVs A)) (hc : w.cell? c = some (errV A (errG.getD k 0))) :
    Calls Tryd.prog fn_slices_IndexFunc_error ⟨[t.v, (Value.func (.func fn_wire_Number_1) ⟨[]⟩ ⟨[(Value.pointer (some c))]⟩)]⟩ w fun e w' => e = .returned (.int .i64 (k : Int)) ∧ w' = w := by
  refine slices_IndexFunc_error_64_ok _ _ ?_
  unfold slices_IndexFunc_error_64
  refine ⟨fun i w2 => w2 = w ∧ ∃ n : Nat, i = n ∧ n ≤ k, fun i _ => (19 - i).toNat, ⟨rfl, 0, rfl, by omega⟩, ?_⟩
  rintro i w2 ⟨rfl, n, rfl, hn⟩
  intros
  refine BIf_dec (fun h1 => ?_) (fun h1 => by omega)
  obtain ⟨a, ha, hcell⟩ := Errs.row ht (n := n) (by omega)
  refine needSome_mk ha ⟨by omega, h1, _, (by have e : (Int.toNat (n : Int)) * 1 = n := by omega
                                              rw [e]; exact hcell), ?_⟩
  have hclos : Calls Tryd.prog fn_wire_Number_1 ⟨[errV A (errG.getD n 0), (Value.pointer (some c))]⟩ w2 fun e w' => e = .returned (.bool (decide (k = n))) ∧ w' = w2 := by
    refine wire_Number_1_ok _ _ ?_
    refine needSome_mk rfl ⟨_, hc, ?_⟩
    refine (Errs.is hE hk (by omega)).mono ?_
    rintro e w3 ⟨rfl, rfl⟩
    exact ⟨_, rfl, rfl, rfl⟩
  refine hclos.mono ?_
  rintro e w3 ⟨rfl, rfl⟩
  refine ⟨_, rfl, BIf_mk (fun h2 => ?_) (fun h2 => ?_)⟩
  · have : k = n := by simpa using h2
    subst this
    exact ⟨rfl, rfl⟩
  · have : k ≠ n := by simpa using h2
    exact ⟨inR64 (by omega), ⟨rfl, n + 1, rfl, by omega⟩, by dsimp only; omega⟩

theorem Number_nil (w : World) : Calls Tryd.prog fn_wire_Number ⟨[.nilIface]⟩ w fun e w' => e = .returned (.int .i64 0) ∧ Keep w w' := by
  refine wire_Number_ok _ ?_
  refine newS_mk (fun r w1 hr hb hk hs => ?_)
  exact ⟨_, cell_of hb 0, trivial, BIf_mk (fun _ => ⟨rfl, hk⟩) (fun h => by cases h)⟩

theorem Number_spec (A : Nat → Addr) (k : Nat) (hk : k < 19) (w : World) (h : Errs A w) :
    Calls Tryd.prog fn_wire_Number ⟨[errV A (errG.getD k 0)]⟩ w fun e w' => e = .returned (.int .i64 ((k + 1 : Nat) : Int)) ∧ Keep w w' := by
  refine wire_Number_ok _ ?_
  refine newS_mk (fun r w1 hr hb hk1 hs => ?_)
  refine ⟨_, cell_of hb 0, trivial, BIf_mk (fun h => by cases h) (fun _ => ?_)⟩
  refine (table_spec A w1 (h.keep hk1)).mono ?_
  rintro e w2 ⟨t, rfl, htl, ht, hk2⟩
  refine ⟨t, rfl, ?_⟩
  refine (IndexFunc_spec A k hk ⟨r, 0, none⟩ t w2 (h.keep (hk1.trans hk2)) htl ht (hk2.cell (cell_of hb 0))).mono ?_
  rintro e w3 ⟨rfl, rfl⟩
  exact ⟨_, rfl, BIf_dec (fun h => by omega) (fun _ => ⟨inR64 (by omega), by simp, hk1.trans hk2⟩)⟩

theorem Error_spec (A : Nat → Addr) (n : Int) (hn : -9223372036854775808 ≤ n ∧ n ≤ 9223372036854775807) (w : World) (h : Errs A w) :
    Calls Tryd.prog fn_wire_Error ⟨[.int .i64 n]⟩ w fun e w' => e = .returned (if n < 1 ∨ 19 < n then .nilIface else errV A (errG.getD (n - 1).toNat 0)) ∧ Keep w w' := by
  refine wire_Error_ok _ ?_
  unfold wire_Error
  refine (table_spec A w h).mono ?_
  rintro e w1 ⟨t, rfl, htl, ht, hk⟩
  refine ⟨t, rfl, BIf_dec (fun h1 => ?_) (fun h1 => BIf_dec (fun h2 => ?_) (fun h2 => ?_))⟩
  · rw [if_pos (.inl h1)]; exact ⟨rfl, hk⟩
  · rw [if_pos (.inr (by omega))]; exact ⟨rfl, hk⟩
  · rw [if_neg (by omega)]
    obtain ⟨a, ha, hc⟩ := Errs.row ht (n := (n - 1).toNat) (by omega)
    refine ⟨inR64 (by omega), needSome_mk ha ⟨by omega, by omega, _, by rw [Nat.mul_one]; exact hc, rfl, hk⟩⟩

theorem alive33_spec (A : Nat → Addr) (w : World) (h : Errs A w) : Calls Tryd.prog fn_tidewaterlaw33_alive ⟨[]⟩ w fun e w' => e = .returned (.bool true) ∧ Keep w w' := by
  refine tidewaterlaw33_alive_ok ?_
  unfold tidewaterlaw33_alive
  refine ⟨_, Errs.at h 0 (by omega), ?_⟩
  refine (Number_spec A 0 (by omega) w h).mono ?_
  rintro e w1 ⟨rfl, hk⟩
  refine ⟨_, rfl, BIf_dec (fun _ => ?_) (fun h => absurd rfl h)⟩
  refine (Error_spec A 0 (by omega) w1 (h.keep hk)).mono ?_
  rintro e w2 ⟨rfl, hk2⟩
  exact ⟨_, rfl, trivial, rfl, hk.trans hk2⟩

theorem WireErrors_walk (n : Int) (hn : -9223372036854775808 ≤ n ∧ n ≤ 9223372036854775807) (w : World) (A : Nat → Addr) (hE : Errs A w) :
    Calls Tryd.prog fn_tidewaterlaw33_WireErrors ⟨[.int .i64 n]⟩ w fun e w' => e = .returned (.bool true) ∧ Keep w w' := by
  refine tidewaterlaw33_WireErrors_ok _ ?_
  unfold tidewaterlaw33_WireErrors
  refine (alive33_spec A w hE).mono ?_
  rintro e w3 ⟨rfl, hk3⟩
  refine ⟨_, rfl, BIf_mk (fun h => by cases h) (fun _ => ?_)⟩
  refine (Error_spec A n hn w3 (hE.keep hk3)).mono ?_
  rintro e w6 ⟨rfl, hk6⟩
  have k6 := hk3.trans hk6
  by_cases hin : n < 1 ∨ 19 < n
  · rw [if_pos hin]
    refine ⟨_, rfl, fun _ => False, BIf_dec (fun h => ⟨trivial, rfl, k6⟩) (fun h => BIf_dec (fun h => ⟨trivial, rfl, k6⟩) (fun h => by omega)), fun _ h => h.elim⟩
  · rw [if_neg hin]
    refine ⟨_, rfl, fun w2 => w2 = w6, BIf_dec (fun h => by omega) (fun h => BIf_dec (fun h => by omega) (fun h => rfl)), ?_⟩
    rintro w9 rfl
    intros
    have hn1 : (((n - 1).toNat + 1 : Nat) : Int) = n := by omega
    refine ⟨trivial, BIf_mk (fun _ => ?_) (fun h => by cases h)⟩
    refine (Number_spec A (n - 1).toNat (by omega) w9 (hE.keep k6)).mono ?_
    rintro e w20 ⟨rfl, hk20⟩
    have k20 := k6.trans hk20
    refine ⟨_, rfl, BIf_dec (fun _ => ?_) (fun h => absurd hn1 h)⟩
    refine (Num_spec A (n - 1).toNat (by omega) w20 (hE.keep k20)).mono ?_
    rintro e w23 ⟨rfl, hk23⟩
    have k23 := k20.trans hk23
    refine ⟨_, rfl, BIf_dec (fun _ => ?_) (fun h => absurd hn1 h)⟩
    refine (Number_nil w23).mono ?_
    rintro e w26 ⟨rfl, hk26⟩
    exact ⟨_, rfl, rfl, k23.trans hk26⟩
end Go.D
