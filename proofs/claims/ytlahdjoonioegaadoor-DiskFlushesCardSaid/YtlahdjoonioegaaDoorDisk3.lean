/-
  WHAT IS PROVED: contracts of functions, and the plain law, for this proof. No further conditions.
-/
import Derived.Test.YtlahdjoonioegaaDoorDisk2
set_option linter.unusedVariables false
set_option linter.unusedSimpArgs false
namespace Go.D
open Go Go.Proofs

/-! ### a loss of power -/
def keptB (kept : Int) (k : Nat) : Bool := decide (bitsI .and (kept / ((2 ^ min (Int.toNat (Int.tmod (k : Int) 64)) 64 : Nat) : Int)) 1 = 1)
def cutOf (cut : Int) : Int := Int.tmod (Int.tmod cut 65 + 65) 65
theorem tmod_lt (a : Int) : -65 < Int.tmod a 65 ∧ Int.tmod a 65 < 65 := by
  have h1 := Int.tmod_lt_of_pos a (b := 65) (by omega)
  have h2 := Int.tmod_lt_of_pos (-a) (b := 65) (by omega)
  rw [Int.neg_tmod] at h2
  omega
theorem cutOf_le (cut : Int) : 0 ≤ cutOf cut ∧ cutOf cut ≤ 64 := by
  unfold cutOf
  have h1 := tmod_lt cut
  rw [Int.tmod_eq_emod_of_nonneg (by omega)]
  omega
/-- The k-th write and those behind it, at a loss of power. -/
def crashL (kept torn cut : Int) : Nat → List Wr → List UInt8 → List UInt8
  | _, [], m => m
  | k, x :: l, m => crashL kept torn cut (k + 1) l (if (k : Int) = torn then putSec m x.1 x.2 (cutOf cut).toNat else if keptB kept k then putSec m x.1 x.2 64 else m)
theorem crashL_snoc (kept torn cut : Int) : ∀ (l : List Wr) (k : Nat) (x : Wr) (m : List UInt8), crashL kept torn cut k (l ++ [x]) m =
    (if ((k + l.length : Nat) : Int) = torn then putSec (crashL kept torn cut k l m) x.1 x.2 (cutOf cut).toNat else if keptB kept (k + l.length) then putSec (crashL kept torn cut k l m) x.1 x.2 64 else crashL kept torn cut k l m)
  | [], k, x, m => rfl
  | y :: l, k, x, m => by
    have := crashL_snoc kept torn cut l (k + 1) x (if (k : Int) = torn then putSec m y.1 y.2 (cutOf cut).toNat else if keptB kept k then putSec m y.1 y.2 64 else m)
    rw [List.cons_append, crashL, this, crashL, List.length_cons, show k + 1 + l.length = k + (l.length + 1) by omega]
def crashS (d : DevS) (kept torn cut : Int) : DevS := { d with img := crashL kept torn cut 0 d.pend d.img, pend := [], stops := false }
theorem crashL_len {d : DevS} (kept torn cut : Int) (hm : d.img.length % 64 = 0) : ∀ (l : List Wr) (k : Nat) (m : List UInt8), (∀ x ∈ l, 0 ≤ x.1 ∧ x.1 < (d.n : Int) ∧ x.2.length = 64) → m.length = d.img.length → (crashL kept torn cut k l m).length = d.img.length
  | [], k, m, _, h => h
  | x :: l, k, m, hx, h => by
    refine crashL_len kept torn cut hm l (k + 1) _ (fun y hy => hx y (by simp [hy])) ?_
    have h1 := hx x (by simp)
    have h2 := cutOf_le cut
    have e : ∀ c, c ≤ 64 → (putSec m x.1 x.2 c).length = d.img.length := fun c hc => by
      rw [putSec_length (by rw [h]; exact hm) h1.1 (by rw [h]; exact h1.2.1) h1.2.2 hc]; exact h
    split
    · exact e _ (by omega)
    · split
      · exact e _ (by omega)
      · exact h

theorem Crash_spec {w : World} {r : Nat} {q : DevP} {d : DevS} (h : DevAt w r q d) (kept torn cut : Int) (hk : inR .u64 kept) (hp : d.pend.length ≤ 2 ^ 40) :
    Calls Tryd.prog fn_disk_Device_Crash ⟨[ptrR' r, .int .u64 kept, .int .i64 torn, .int .i64 cut]⟩ w fun e w' => ∃ q', e = .returned (.tuple #[]) ∧ DevAt w' r q' (crashS d kept torn cut) ∧ Foot (DevB r q) (DevB r q') w w' := by
  refine disk_Device_Crash_ok _ _ _ _ ?_
  unfold disk_Device_Crash
  have hc1 := tmod_lt cut
  have hc2 := cutOf_le cut
  refine ⟨by omega, inR64 (by omega), by omega, needSome_mk rfl ⟨_, h.c1, ?_⟩⟩
  have hsl := h.p.sl
  refine ⟨fun i w2 => ∃ k : Nat, i = k ∧ k ≤ d.pend.length ∧ DevAt w2 r q { d with img := crashL kept torn cut 0 (d.pend.take k) d.img } ∧ Ext (ownB q.si) w w2, fun i _ => ((d.pend.length : Int) - i).toNat,
    ⟨0, rfl, by omega, h, Ext.refl _ _⟩, ?_⟩
  rintro i w10 ⟨k, rfl, hk0, h10, k10⟩
  intros
  refine BIf_dec (fun h1 => ?_) (fun h1 => ?_)
  · have hkl : k < d.pend.length := by omega
    obtain ⟨a, s, ha, hrow, hb', hc', _, hfoot⟩ := h10.wr (k := k) hkl
    refine needSome_mk ha ⟨by omega, h1, _, _, by rw [show Int.toNat (k : Int) * 2 = k * 2 by omega]; exact hrow, ?_⟩
    refine var_mk (cs := wrC d.pend[k].1 s) rfl rfl (fun r39 w41 hr39 o39 k39 hs39 => ?_)
    have hx := h.ok.p _ (List.getElem_mem hkl)
    have h41 := h10.keep k39
    have hn : (DevS.mk (crashL kept torn cut 0 (d.pend.take k) d.img) d.pend d.stops d.left).n = d.n := by
      show (crashL kept torn cut 0 (d.pend.take k) d.img).length / 64 = d.img.length / 64
      rw [crashL_len kept torn cut h.ok.m _ _ _ (fun x hx => h.ok.p x (List.mem_of_mem_take hx)) rfl]
    have hl64 : 0 < s.l := by rw [hb'.1, hx.2.2]; omega
    have hs1 : crashL kept torn cut 0 (d.pend.take (k + 1)) d.img = (if (k : Int) = torn then putSec (crashL kept torn cut 0 (d.pend.take k) d.img) d.pend[k].1 d.pend[k].2 (cutOf cut).toNat else if keptB kept k then putSec (crashL kept torn cut 0 (d.pend.take k) d.img) d.pend[k].1 d.pend[k].2 64 else crashL kept torn cut 0 (d.pend.take k) d.img) := by
      rw [take_snoc' _ _ hkl, crashL_snoc, show 0 + (d.pend.take k).length = k by rw [List.length_take]; omega]
    have doit := fun c (hc0 : 0 ≤ c) (hc1 : c ≤ 64) => do_spec7 h41 d.pend[k].1 s d.pend[k].2 c (bytesAt_keep hb' k39) hc' hx.1 (by rw [hn]; exact hx.2.1) hc0 hc1 hx.2.2 (fun j hj => h41.lt j (.inr (.inr (.inr (hfoot hl64 j hj)))))
    have kk : ∀ {w2}, Ext (ownB q.si) w41 w2 → Ext (ownB q.si) w w2 := fun h5 => (k10.trans k39 (fun _ h => h) (fun _ h => h.elim)).trans h5 (fun _ h => h) (fun _ h => .inl h)
    refine BIf_dec (fun ht => ?_) (fun ht => ?_)
    · refine ⟨_, _, o39.row, ?_⟩
      refine (doit (cutOf cut) hc2.1 hc2.2).mono ?_
      rintro e w45 ⟨rfl, h45, k45⟩
      exact ⟨rfl, inR64 (by omega), ⟨k + 1, rfl, hkl, by rw [hs1, if_pos ht]; exact h45, kk k45⟩, by dsimp only; omega⟩
    · have ht0 : 0 ≤ Int.tmod (k : Int) 64 := Int.tmod_nonneg _ (by omega)
      have hk0 : 0 ≤ kept := hk.1
      have hpow : (0 : Int) < ((2 ^ min (Int.toNat (Int.tmod (k : Int) 64)) 64 : Nat) : Int) := by
        have := Nat.pow_pos (n := min (Int.toNat (Int.tmod (k : Int) 64)) 64) (show 0 < 2 by omega)
        omega
      have hdiv : 0 ≤ kept / ((2 ^ min (Int.toNat (Int.tmod (k : Int) 64)) 64 : Nat) : Int) := Int.ediv_nonneg hk0 (by omega)
      have hdle : kept / ((2 ^ min (Int.toNat (Int.tmod (k : Int) 64)) 64 : Nat) : Int) ≤ kept := Int.ediv_le_self _ hk0
      refine ⟨by omega, ht0, hk0, hdiv, by omega, ⟨by have : (IntKind.u64.min : Int) = 0 := rfl; omega, by have := hk.2; omega⟩, inRu64 (by omega), BIf_mk (fun hb => ?_) (fun hb => ?_)⟩
      · refine ⟨_, _, o39.row, ?_⟩
        refine (doit 64 (by omega) (by omega)).mono ?_
        rintro e w49 ⟨rfl, h49, k49⟩
        exact ⟨rfl, inR64 (by omega), ⟨k + 1, rfl, hkl, by rw [hs1, if_neg ht, if_pos (show keptB kept k = true from hb)]; exact h49, kk k49⟩, by dsimp only; omega⟩
      · refine ⟨inR64 (by omega), ⟨k + 1, rfl, hkl, ?_, kk (Ext.refl _ _)⟩, by dsimp only; omega⟩
        rw [hs1, if_neg ht, if_neg (by rw [show keptB kept k = false from hb]; simp)]
        exact h41
  · have hkl : k = d.pend.length := by omega
    subst hkl
    rw [List.take_length] at h10
    obtain ⟨g1, g2⟩ := h10.forget
    refine needSome_mk rfl ⟨g1, fun w51 hw51 => ?_⟩
    obtain ⟨g3, g4⟩ := g2 w51 hw51
    obtain ⟨f1, f2⟩ := g3.o.setOne 2 (by simp) (.bool false)
    rw [show (⟨r, 2, none⟩ : Addr) = (⟨r, 0, none⟩ : Addr).add 2 by rw [add_lit]] at f1 f2
    refine needSome_mk rfl ⟨f1, fun w53 hw53 => ?_⟩
    obtain ⟨f3, f4, _⟩ := f2 w53 hw53
    refine ⟨⟨q.si, ⟨none, 0, 0⟩, []⟩, rfl, ⟨f3, g3.i.ext f4 (fun k hk hh => g3.di (hh ▸ hk)), Rows.nil WrR w53, g3.di, g3.dp, g3.dd, g3.df, ⟨g3.ok.m, g3.ok.l, by simp [crashS], g3.ok.f⟩⟩, ?_, fun k hk => .inl (DevB_nil hk)⟩
    exact ((k10.mono (fun k hk => .inr (.inl hk))).trans g4 (fun _ h => h) (fun k hk => .inl (.inl hk))).trans f4 (fun _ h => h) (fun k hk => .inl (.inl hk))
end Go.D
