/-
  WHAT IS PROVED: contracts of functions, and the plain law, for this proof. No further conditions.
-/
import Derived.Test.YtojcoegekkcojaaDoorNum
import Derived.Test.YtojcoegekkcojaaDoorRd
set_option linter.unusedVariables false
set_option linter.unusedSimpArgs false
namespace Go.D
open Go Go.Proofs

/-- The errors are laid below n0. -/
def ErrsB (A : Nat → Addr) (n0 : Nat) (w : World) : Prop := Errs A w ∧ ∀ g ∈ errG, g < n0 ∧ (A g).block < n0
abbrev Old (n0 : Nat) := Ext (fun k => n0 ≤ k)
theorem Old.trans {n0 : Nat} {a b c : World} (h1 : Old n0 a b) (h2 : Old n0 b c) : Old n0 a c := Ext.trans h1 h2 (fun _ h => h) (fun _ h => .inl h)
theorem Keep.old {a b : World} (h : Keep a b) (n0 : Nat) : Old n0 a b := h.mono (fun _ h => h.elim)
theorem Old.keep {w0 w : World} {n0 : Nat} (h : Old n0 w0 w) (hn : w0.heap.size ≤ n0) : Keep w0 w := Ext.trans h (Ext.refl none0 _) (fun _ h => h) (fun _ h => h.elim) |> fun h => ⟨h.os, h.tape, h.output, h.size, fun k hk _ => h.block k hk (by omega)⟩
theorem Errs.b {A : Nat → Addr} {w : World} (h : Errs A w) : ErrsB A w.heap.size w := by
  refine ⟨h, fun g hg => ?_⟩
  obtain ⟨h1, c, t, h2⟩ := h.1 g hg
  refine ⟨?_, lt_of_heap h2⟩
  have := World.block_lt_of_cell? w _ h1
  exact this
theorem ErrsB.ext {A : Nat → Addr} {n0 : Nat} {M : Nat → Prop} {w w' : World} (h : ErrsB A n0 w) (he : Ext M w w') (hm : ∀ k, M k → n0 ≤ k) : ErrsB A n0 w' := by
  refine ⟨⟨fun g hg => ?_, h.1.2⟩, h.2⟩
  obtain ⟨h1, c, t, h2⟩ := h.1.1 g hg
  obtain ⟨b1, b2⟩ := h.2 g hg
  exact ⟨he.cell h1 (fun hh => by have := hm _ hh; simp only at this; omega), c, t, he.heap h2 (fun hh => by have := hm _ hh; omega)⟩
theorem ErrsB.keep {A : Nat → Addr} {n0 : Nat} {w w' : World} (h : ErrsB A n0 w) (he : Keep w w') : ErrsB A n0 w' := h.ext he (fun _ h => h.elim)

/-- Some errors are laid below n0. -/
def ErrsG (G : List Nat) (A : Nat → Addr) (n0 : Nat) (w : World) : Prop := ErrsOn tyErr G A w ∧ ∀ g ∈ G, g < n0 ∧ (A g).block < n0
theorem ErrsOn.g {G : List Nat} {A : Nat → Addr} {w : World} (h : ErrsOn tyErr G A w) : ErrsG G A w.heap.size w := by
  refine ⟨h, fun g hg => ?_⟩
  obtain ⟨h1, c, t, h2⟩ := h.1 g hg
  refine ⟨?_, lt_of_heap h2⟩
  have := World.block_lt_of_cell? w _ h1
  exact this
theorem ErrsG.ext {G : List Nat} {A : Nat → Addr} {n0 : Nat} {M : Nat → Prop} {w w' : World} (h : ErrsG G A n0 w) (he : Ext M w w') (hm : ∀ k, M k → n0 ≤ k) : ErrsG G A n0 w' := by
  refine ⟨⟨fun g hg => ?_, h.1.2⟩, h.2⟩
  obtain ⟨h1, c, t, h2⟩ := h.1.1 g hg
  obtain ⟨b1, b2⟩ := h.2 g hg
  exact ⟨he.cell h1 (fun hh => by have := hm _ hh; simp only at this; omega), c, t, he.heap h2 (fun hh => by have := hm _ hh; omega)⟩
theorem ErrsG.keep {G : List Nat} {A : Nat → Addr} {n0 : Nat} {w w' : World} (h : ErrsG G A n0 w) (he : Keep w w') : ErrsG G A n0 w' := h.ext he (fun _ h => h.elim)
theorem ErrsG.sub {G H : List Nat} {A : Nat → Addr} {n0 : Nat} {w : World} (h : ErrsG G A n0 w) (k : ∀ g ∈ H, g ∈ G) : ErrsG H A n0 w := ⟨h.1.sub k, fun g hg => h.2 g (k g hg)⟩
theorem ErrsG.at {G : List Nat} {A : Nat → Addr} {n0 : Nat} {w : World} (h : ErrsG G A n0 w) {g : Nat} (hg : g ∈ G) : w.cell? (⟨g, 0, none⟩ : Addr) = some (errV A g) := (h.1.1 g hg).1
theorem ErrsG.lt {G : List Nat} {A : Nat → Addr} {n0 : Nat} {w : World} (h : ErrsG G A n0 w) {g : Nat} (hg : g ∈ G) : g < n0 := (h.2 g hg).1
theorem ErrsB.g {A : Nat → Addr} {n0 : Nat} {w : World} (h : ErrsB A n0 w) : ErrsG errG A n0 w := h

/-- An error's place in the table, or none. -/
def errO (A : Nat → Addr) : Option Nat → Value
  | none => .nilIface
  | some k => errV A (errG.getD k 0)
theorem errO_isI (A : Nat → Addr) (e : Option Nat) : isI (errO A e) := by cases e <;> trivial
theorem errO_nil (A : Nat → Addr) (e : Option Nat) : isNilI (errO A e) = e.isNone := by cases e <;> rfl
theorem errO_one (A : Nat → Addr) (e : Option Nat) : ∀ X : Prop, X → oneK (errO A e) X := fun X h => by cases e <;> exact h

theorem Own.le {w : World} {s : Slc} {sz : Nat} {vs : List Value} (h : Own w s sz vs) (hsz : 0 < sz) : s.l ≤ s.c := by
  obtain ⟨hl, ⟨_, hv, hc⟩ | ⟨b, pad, T, f, _, _, h1, _⟩⟩ := h
  · subst hv
    have : s.l * sz = 0 := by simpa using hl
    rcases Nat.mul_eq_zero.1 this with h | h <;> omega
  · rw [List.length_append] at h1
    exact Nat.le_of_mul_le_mul_right (by omega) hsz

theorem wrap8x (n : Nat) : Value.int .u8 (IntKind.wrap .u8 (n : Int)) = byteV (UInt8.ofNat n) := by
  have h : IntKind.wrap .u8 (n : Int) = ((n % 256 : Nat) : Int) := by
    simp [IntKind.wrap, IntKind.signed, IntKind.bits]
  rw [h, byteV, UInt8.toNat_ofNat']
theorem errG_at {G : List Nat} {A : Nat → Addr} {n0 : Nat} {w : World} (h : ErrsG G A n0 w) (k : Nat) (g : Nat) (hg : g = errG.getD k 0) (hm : g ∈ G) : w.cell? (⟨g, 0, none⟩ : Addr) = some (errO A (some k)) := by
  subst hg; exact h.at hm
end Go.D
