/-
  WHAT IS PROVED: contracts of functions, and the plain law, for this proof. No further conditions.
-/
import Derived.Test.YtagajpoppiklnaaDoorVCnum
import Derived.Test.YtagajpoppiklnaaDoorIsFacts
import Derived.Test.YtagajpoppiklnaaDoorLaid
import Derived.Test.YtagajpoppiklnaaDoorRd
import Derived.Test.YtagajpoppiklnaaDoorRowsM
import Derived.Test.YtagajpoppiklnaaDoorVCrunes
import Derived.Test.YtagajpoppiklnaaDoorMapM
import Derived.Test.YtagajpoppiklnaaDoorMem
import Derived.Test.YtagajpoppiklnaaDoorVCref04
import Derived.Test.YtagajpoppiklnaaDoorArgs
import Derived.Test.YtagajpoppiklnaaDoorVCref05
import Derived.Test.YtagajpoppiklnaaDoorVCentry
import Derived.Test.YtagajpoppiklnaaDoorSub
import Derived.Test.YtagajpoppiklnaaDoorVCpack
import Derived.Test.YtagajpoppiklnaaDoorObjM
import Derived.Test.YtagajpoppiklnaaDoorVCsums
import Derived.Test.YtagajpoppiklnaaDoorVCints
import Derived.Test.YtagajpoppiklnaaDoorVCentry2
import Derived.Test.YtagajpoppiklnaaDoorVCpage
set_option linter.unusedVariables false
set_option linter.unusedSimpArgs false
namespace Go.D
open Go Go.Proofs

/-- The globals of package api's errors, in the order of their numbers. -/
def errG : List Nat := [gl_ErrRange, gl_ErrShort, gl_ErrLong, gl_ErrForm, gl_ErrSum, gl_ErrRune, gl_ErrName, gl_ErrSealed, gl_ErrWritten, gl_ErrUnwritten, gl_ErrTrimmed, gl_ErrDown, gl_ErrFull, gl_ErrEpoch, gl_ErrMoved, gl_ErrNone, gl_ErrState, gl_ErrClash, gl_ErrStale]

abbrev errV (A : Nat → Addr) (g : Nat) : Value := .iface tyErr (.pointer (some (A g)))

/-- All 19 errors are laid, at 19 places. -/
abbrev Errs (A : Nat → Addr) (w : World) : Prop := ErrsOn tyErr errG A w

theorem errG_mem {k : Nat} (hk : k < 19) : errG.getD k 0 ∈ errG := by
  have : errG.getD k 0 = errG[k]'(by simpa [errG] using hk) := by
    simp only [List.getD]
    rw [List.getElem?_eq_getElem (by simpa [errG] using hk)]
    rfl
  rw [this]
  exact List.getElem_mem _
theorem errG_inj {i j : Nat} (hi : i < 19) (hj : j < 19) (h : errG.getD i 0 = errG.getD j 0) : i = j := by
  have : ∀ i < 19, ∀ j < 19, errG.getD i 0 = errG.getD j 0 → i = j := by decide
  exact this i hi j hj h

theorem Errs.at {A : Nat → Addr} {w : World} (h : Errs A w) (k : Nat) (hk : k < 19) : w.cell? (⟨errG.getD k 0, 0, none⟩ : Addr) = some (errV A (errG.getD k 0)) := (h.1 _ (errG_mem hk)).1

theorem Errs.is {A : Nat → Addr} {w : World} (h : Errs A w) {i j : Nat} (hi : i < 19) (hj : j < 19) :
    Calls Tryd.prog fn_errors_Is ⟨[errV A (errG.getD i 0), errV A (errG.getD j 0)]⟩ w fun e w' => e = .returned (.bool (decide (i = j))) ∧ w' = w := by
  by_cases hij : i = j
  · subst hij
    rw [decide_eq_true rfl]
    exact Is_same _ _
  · rw [decide_eq_false hij]
    obtain ⟨_, c1, t1, h1⟩ := h.1 _ (errG_mem hi)
    obtain ⟨_, c2, t2, h2⟩ := h.1 _ (errG_mem hj)
    exact Is_other _ _ c1 c2 t1 t2 _ (fun he => hij (errG_inj hi hj (h.2 _ (errG_mem hi) _ (errG_mem hj) he))) h1 h2

theorem Num_nil (w : World) : Calls Tryd.prog fn_tidewaternum_Num ⟨[.nilIface]⟩ w fun e w' => e = .returned (.int .i64 0) ∧ w' = w := by
  refine tidewaternum_Num_ok _ ?_
  exact ⟨trivial, BIf_mk (fun _ => ⟨rfl, rfl⟩) (fun h => by cases h)⟩

theorem Num_spec (A : Nat → Addr) (k : Nat) (hk : k < 19) (w : World) (h : Errs A w) :
    Calls Tryd.prog fn_tidewaternum_Num ⟨[errV A (errG.getD k 0)]⟩ w fun e w' => e = .returned (.int .i64 ((k + 1 : Nat) : Int)) ∧ Keep w w' := by
  refine tidewaternum_Num_ok _ ?_
  unfold tidewaternum_Num
  refine ⟨trivial, BIf_mk (fun h => by cases h) (fun _ => ?_)⟩
  refine ⟨_, Errs.at h 0 (by omega), _, Errs.at h 1 (by omega), _, Errs.at h 2 (by omega), _, Errs.at h 3 (by omega), _, Errs.at h 4 (by omega), _, Errs.at h 5 (by omega), _, Errs.at h 6 (by omega), _, Errs.at h 7 (by omega), _, Errs.at h 8 (by omega), _, Errs.at h 9 (by omega), _, Errs.at h 10 (by omega), _, Errs.at h 11 (by omega), _, Errs.at h 12 (by omega), _, Errs.at h 13 (by omega), _, Errs.at h 14 (by omega), _, Errs.at h 15 (by omega), _, Errs.at h 16 (by omega), _, Errs.at h 17 (by omega), _, Errs.at h 18 (by omega), ?_⟩
  refine newS_mk (fun r w1 hr hb hkp hs => ?_)
  refine ⟨fun i w2 => w2 = w1 ∧ ∃ n : Nat, i = n ∧ n ≤ k, fun i _ => (19 - i).toNat, ⟨rfl, 0, rfl, by omega⟩, ?_⟩
  rintro i w2 ⟨rfl, n, rfl, hn⟩
  intros
  refine BIf_dec (fun h1 => ?_) (fun h1 => by omega)
  refine ⟨by omega, h1, errV A (errG.getD n 0), ?_, ?_⟩
  · have e : (Int.toNat (n : Int)) * 1 = n := by omega
    rw [e, add_lit, Nat.zero_add, cell_of hb]
    have : n < 19 := by omega
    show ((List.range 19).map fun k => errV A (errG.getD k 0))[n]? = _
    simp [this]
  · refine (Errs.is (h.keep hkp) hk (by omega)).mono ?_
    rintro e w3 ⟨rfl, rfl⟩
    refine ⟨_, rfl, BIf_mk (fun h2 => ?_) (fun h2 => ?_)⟩
    · have : k = n := by simpa using h2
      subst this
      exact ⟨inR64 (by omega), by simp, hkp⟩
    · have : k ≠ n := by simpa using h2
      exact ⟨inR64 (by omega), ⟨rfl, n + 1, rfl, by omega⟩, by dsimp only; omega⟩
end Go.D

set_option linter.unusedVariables false
set_option linter.unusedSimpArgs false
namespace Go.D
open Go Go.Proofs

/-- The errors are laid below n0. -/
def ErrsB (A : Nat → Addr) (n0 : Nat) (w : World) : Prop := Errs A w ∧ ∀ g ∈ errG, g < n0 ∧ (A g).block < n0
abbrev Old (n0 : Nat) := Ext (fun k => n0 ≤ k)
theorem Old.trans {n0 : Nat} {a b c : World} (h1 : Old n0 a b) (h2 : Old n0 b c) : Old n0 a c := Ext.trans h1 h2 (fun _ h => h) (fun _ h => .inl h)
theorem Keep.old {a b : World} (h : Keep a b) (n0 : Nat) : Old n0 a b := h.mono (fun _ h => h.elim)
theorem Old.keep {w0 w : World} {n0 : Nat} (h : Old n0 w0 w) (hn : w0.heap.size ≤ n0) : Keep w0 w := Ext.trans h (Ext.refl none0 _) (fun _ h => h) (fun _ h => h.elim) |> fun h => ⟨h.os, h.tape, h.output, h.size, fun k hk _ => h.block k hk (by omega)⟩
theorem Errs.b {A : Nat → Addr} {w : World} (h : Errs A w) : ErrsB A w.heap.size w := by
  refine ⟨h, fun g hg => ?_⟩
  obtain ⟨h1, c, t, h2⟩ := h.1 g hg
  refine ⟨?_, lt_of_heap h2⟩
  have := World.block_lt_of_cell? w _ h1
  exact this
theorem ErrsB.ext {A : Nat → Addr} {n0 : Nat} {M : Nat → Prop} {w w' : World} (h : ErrsB A n0 w) (he : Ext M w w') (hm : ∀ k, M k → n0 ≤ k) : ErrsB A n0 w' := by
  refine ⟨⟨fun g hg => ?_, h.1.2⟩, h.2⟩
  obtain ⟨h1, c, t, h2⟩ := h.1.1 g hg
  obtain ⟨b1, b2⟩ := h.2 g hg
  exact ⟨he.cell h1 (fun hh => by have := hm _ hh; simp only at this; omega), c, t, he.heap h2 (fun hh => by have := hm _ hh; omega)⟩
theorem ErrsB.keep {A : Nat → Addr} {n0 : Nat} {w w' : World} (h : ErrsB A n0 w) (he : Keep w w') : ErrsB A n0 w' := h.ext he (fun _ h => h.elim)

/-- Some errors are laid below n0. -/
def ErrsG (G : List Nat) (A : Nat → Addr) (n0 : Nat) (w : World) : Prop := ErrsOn tyErr G A w ∧ ∀ g ∈ G, g < n0 ∧ (A g).block < n0
theorem ErrsOn.g {G : List Nat} {A : Nat → Addr} {w : World} (h : ErrsOn tyErr G A w) : ErrsG G A w.heap.size w := by
  refine ⟨h, fun g hg => ?_⟩
  obtain ⟨h1, c, t, h2⟩ := h.1 g hg
  refine ⟨?_, lt_of_heap h2⟩
  have := World.block_lt_of_cell? w _ h1
  exact this
theorem ErrsG.ext {G : List Nat} {A : Nat → Addr} {n0 : Nat} {M : Nat → Prop} {w w' : World} (h : ErrsG G A n0 w) (he : Ext M w w') (hm : ∀ k, M k → n0 ≤ k) : ErrsG G A n0 w' := by
  refine ⟨⟨fun g hg => ?_, h.1.2⟩, h.2⟩
  obtain ⟨h1, c, t, h2⟩ := h.1.1 g hg
  obtain ⟨b1, b2⟩ := h.2 g hg
  exact ⟨he.cell h1 (fun hh => by have := hm _ hh; simp only at this; omega), c, t, he.heap h2 (fun hh => by have := hm _ hh; omega)⟩
theorem ErrsG.keep {G : List Nat} {A : Nat → Addr} {n0 : Nat} {w w' : World} (h : ErrsG G A n0 w) (he : Keep w w') : ErrsG G A n0 w' := h.ext he (fun _ h => h.elim)
theorem ErrsG.sub {G H : List Nat} {A : Nat → Addr} {n0 : Nat} {w : World} (h : ErrsG G A n0 w) (k : ∀ g ∈ H, g ∈ G) : ErrsG H A n0 w := ⟨h.1.sub k, fun g hg => h.2 g (k g hg)⟩
theorem ErrsG.at {G : List Nat} {A : Nat → Addr} {n0 : Nat} {w : World} (h : ErrsG G A n0 w) {g : Nat} (hg : g ∈ G) : w.cell? (⟨g, 0, none⟩ : Addr) = some (errV A g) := (h.1.1 g hg).1
theorem ErrsG.lt {G : List Nat} {A : Nat → Addr} {n0 : Nat} {w : World} (h : ErrsG G A n0 w) {g : Nat} (hg : g ∈ G) : g < n0 := (h.2 g hg).1
theorem ErrsB.g {A : Nat → Addr} {n0 : Nat} {w : World} (h : ErrsB A n0 w) : ErrsG errG A n0 w := h

/-- An error's place in the table, or none. -/
def errO (A : Nat → Addr) : Option Nat → Value
  | none => .nilIface
  | some k => errV A (errG.getD k 0)
theorem errO_isI (A : Nat → Addr) (e : Option Nat) : isI (errO A e) := by cases e <;> trivial
theorem errO_nil (A : Nat → Addr) (e : Option Nat) : isNilI (errO A e) = e.isNone := by cases e <;> rfl
theorem errO_one (A : Nat → Addr) (e : Option Nat) : ∀ X : Prop, X → oneK (errO A e) X := fun X h => by cases e <;> exact h

theorem Own.le {w : World} {s : Slc} {sz : Nat} {vs : List Value} (h : Own w s sz vs) (hsz : 0 < sz) : s.l ≤ s.c := by
  obtain ⟨hl, ⟨_, hv, hc⟩ | ⟨b, pad, T, f, _, _, h1, _⟩⟩ := h
  · subst hv
    have : s.l * sz = 0 := by simpa using hl
    rcases Nat.mul_eq_zero.1 this with h | h <;> omega
  · rw [List.length_append] at h1
    exact Nat.le_of_mul_le_mul_right (by omega) hsz

theorem wrap8x (n : Nat) : Value.int .u8 (IntKind.wrap .u8 (n : Int)) = byteV (UInt8.ofNat n) := by
  have h : IntKind.wrap .u8 (n : Int) = ((n % 256 : Nat) : Int) := by
    simp [IntKind.wrap, IntKind.signed, IntKind.bits]
  rw [h, byteV, UInt8.toNat_ofNat']
theorem errG_at {G : List Nat} {A : Nat → Addr} {n0 : Nat} {w : World} (h : ErrsG G A n0 w) (k : Nat) (g : Nat) (hg : g = errG.getD k 0) (hm : g ∈ G) : w.cell? (⟨g, 0, none⟩ : Addr) = some (errO A (some k)) := by
  subst hg; exact h.at hm
end Go.D

set_option linter.unusedVariables false
set_option linter.unusedSimpArgs false
namespace Go.D
open Go

/-! ### integers that are the call's own -/
def intC (x : Int) : List Value := [.int .i64 x]
theorem foot_int {x : Int} {k : Nat} : ¬ footV (intC x) k := by rintro ⟨s, hs, _⟩; simp [intC, Slc.v] at hs
def IntR : RowD Int where
  n := 1
  pos := by omega
  R _ x cs := cs = intC x
  len h := by rw [h]; rfl
  one h := by rw [h]; intro v hv; simp [intC] at hv; subst hv; rfl
  ext h _ _ := h
  lt h := by rw [h]; intro k hk; exact (foot_int hk).elim
def IntsAt (w : World) (s : Slc) (l : List Int) : Prop := Rows IntR w s l (l.map intC)
theorem IntsAt.of {w : World} {s : Slc} {l : List Int} {css : List (List Value)} (h : Rows IntR w s l css) : IntsAt w s l := by
  have : css = l.map intC := by
    apply List.ext_getElem
    · rw [h.len, List.length_map]
    · intro i h1 h2
      rw [List.getElem_map]
      exact h.row i h1 (by simpa using h2)
  rw [this] at h
  exact h
theorem footC_int {l : List Int} {k : Nat} : ¬ footC (l.map intC) k := by
  rintro ⟨cs, hc, hk⟩
  obtain ⟨x, _, rfl⟩ := List.mem_map.1 hc
  exact foot_int hk
theorem IntsAt.ext {M : Nat → Prop} {w w' : World} {s : Slc} {l : List Int} (h : IntsAt w s l) (he : Ext M w w') (h1 : ∀ k, ownB s k → ¬ M k) : IntsAt w' s l := Rows.ext h he h1 (fun k hk => (footC_int hk).elim)
theorem IntsAt.keep {w w' : World} {s : Slc} {l : List Int} (h : IntsAt w s l) (he : Keep w w') : IntsAt w' s l := h.ext he (fun _ _ h => h)
theorem IntsAt.nil (w : World) : IntsAt w ⟨none, 0, 0⟩ [] := Rows.nil _ _
theorem flat_int (l : List Int) : (l.map intC).flatten = l.map fun x => Value.int .i64 x := by
  induction l with
  | nil => rfl
  | cons a l ih => rw [List.map_cons, List.flatten_cons, ih]; rfl
theorem IntsAt.ints {w : World} {s : Slc} {l : List Int} (h : IntsAt w s l) : intsAt w s l := by
  have h1 := h.sl
  have h2 := h.own.cells
  rw [flat_int] at h2
  exact ⟨h1, h2⟩
theorem IntsAt.new {w : World} {r : Nat} {T : TypeId} (h : w.heap[r]? = some (.cells ⟨[]⟩ T)) : IntsAt w ⟨some ⟨r, 0, none⟩, 0, 0⟩ [] :=
  ⟨Own.new (sz := 1) (n := 0) h (.inl (by simp)) rfl, rfl, fun i h => by simp at h, fun k hk => (footC_int (l := []) hk).elim⟩
theorem IntsAt.get {w : World} {s : Slc} {l : List Int} (h : IntsAt w s l) {i : Nat} (hi : i < l.length) : ∃ a, s.p = some a ∧ World.cell? w (Addr.add a (i * 1)) = some (.int .i64 l[i]) := by
  obtain ⟨a, ha, _, hrow⟩ := Rows.get h (i := i) (by simpa using hi)
  rw [List.getElem_map] at hrow
  have := hrow.1
  have e : (a.add (i * IntR.n)).add 0 = a.add (i * 1) := by simp [Addr.add, IntR]
  rw [e] at this
  exact ⟨a, ha, this⟩
theorem IntsAt.set {w : World} {s : Slc} {l : List Int} (h : IntsAt w s l) {i : Nat} (hi : i < l.length) (x : Int) {a : Addr} (ha : s.p = some a) :
    canW w (Addr.add a (i * 1)) 1 ∧ ∀ w', w' = World.setCell w (Addr.add a (i * 1)) (.int .i64 x) → IntsAt w' s (l.set i x) ∧ Ext (ownB s) w w' ∧ w'.heap.size = w.heap.size := by
  have hi2 : i < (l.map intC).length := by simpa using hi
  have hcs : (l.map intC)[i].take 0 ++ [Value.int .i64 x] ++ (l.map intC)[i].drop (0 + [Value.int .i64 x].length) = intC x := by rw [List.getElem_map]; rfl
  obtain ⟨cw, g⟩ := Rows.set h hi2 0 [.int .i64 x] (Nat.le_refl 1) x ha (fun w' _ => by rw [hcs]; rfl) (fun k hk => by rw [hcs] at hk; exact (foot_int hk).elim)
  have e : (a.add (i * IntR.n)).add 0 = a.add (i * 1) := by simp [Addr.add, IntR]
  rw [e] at cw g
  refine ⟨cw, fun w' hw' => ?_⟩
  obtain ⟨g1, g2, g3⟩ := g w' (by rw [hw']; simp [setCells, Addr.add])
  exact ⟨IntsAt.of g1, g2, g3⟩
/-- An integer is appended. -/
theorem IntsAt.push {T E : TypeId} {w w0 : World} {s : Slc} {l : List Int} {x : Int} {K : Slc → World → Prop} (h : IntsAt w s l) (hf : Fresh w0 s) (hk : Keep w0 w) (hlen : l.length < 2 ^ 30)
    (hK : ∀ s' w', IntsAt w' s' (l ++ [x]) → Fresh w0 s' → Keep w0 w' → Ext (ownB s) w w' → (∀ k, ownB s' k → ownB s k ∨ w.heap.size ≤ k) → K s' w') :
    newS w (.cells ⟨[.int .i64 x]⟩ T) fun r w2 => appendS 1 E [.int .i64 0] w2 s (.slc ⟨some ⟨r, 0, none⟩, 1, 1⟩) K := by
  refine newS_mk (fun r w2 hr hb k2 hs2 => ?_)
  have h2 : Rows IntR w2 s l (l.map intC) := h.keep k2
  have z2 := k2.size
  have z0 := hk.size
  refine h2.snoc (cs := intC x) (x := x) (z := [.int .i64 0]) rfl rfl (fun k hk => (foot_int hk).elim) hb (.inl (by simp)) hlen (fun s' w' g1 g2 g3 => ?_)
  have g3' : ∀ k, ownB s' k → ownB s k ∨ w.heap.size ≤ k := fun k hk => (g3 k hk).imp (fun h => h) (fun h => by omega)
  exact hK s' w' (IntsAt.of (by simpa using g1)) (fun j hj => (g3' j hj).elim (fun h => hf j h) (fun h => by omega)) ((hk.trans k2).ext g2 (fun j hj => hf j hj)) (Ext.trans k2 g2 (fun _ h => h.elim) (fun _ h => .inl h)) g3'
end Go.D

set_option linter.unusedVariables false
set_option linter.unusedSimpArgs false
set_option maxRecDepth 20000
namespace Go.D
open Go Go.Proofs

/-! ### runes, by definition -/
def bN (s : List UInt8) (i : Nat) : Nat := (s.getD i 0).toNat
def conB (s : List UInt8) (i : Nat) : Bool := decide (i < s.length) && decide (bN s i / 64 = 2)
def validN (c : Nat) : Bool := decide (c < 55296) || (decide (57344 ≤ c) && decide (c ≤ 1114111))
def c2N (s : List UInt8) (i : Nat) : Nat := bN s i % 32 * 64 + bN s (i + 1) % 64
def c3N (s : List UInt8) (i : Nat) : Nat := bN s i % 16 * 4096 + bN s (i + 1) % 64 * 64 + bN s (i + 2) % 64
def c4N (s : List UInt8) (i : Nat) : Nat := bN s i % 8 * 262144 + bN s (i + 1) % 64 * 4096 + bN s (i + 2) % 64 * 64 + bN s (i + 3) % 64
/-- The rune at i and one less than its width; none: there is none. -/
def stepR (s : List UInt8) (i : Nat) : Option (Nat × Nat) :=
  if bN s i < 128 then some (bN s i, 0)
  else if bN s i / 32 = 6 then (if (conB s (i + 1) && decide (128 ≤ c2N s i)) = true then some (c2N s i, 1) else none)
  else if bN s i / 16 = 14 then (if (conB s (i + 1) && (conB s (i + 2) && (decide (2048 ≤ c3N s i) && validN (c3N s i)))) = true then some (c3N s i, 2) else none)
  else if bN s i / 8 = 30 then (if (conB s (i + 1) && (conB s (i + 2) && (conB s (i + 3) && (decide (65536 ≤ c4N s i) && validN (c4N s i))))) = true then some (c4N s i, 3) else none)
  else none
theorem bN_lt (s : List UInt8) (i : Nat) : bN s i < 256 := UInt8.toNat_lt _
theorem get_bN (s : List UInt8) (k : Nat) : ((ByteArray.mk ⟨s⟩).get! k).toNat = bN s k := by
  simp [ByteArray.get!, bN] <;> rfl
theorem validN_eq (c : Nat) : Utf8.valid (c : Int) = validN c := by
  unfold Utf8.valid validN
  rw [Bool.eq_iff_iff]
  simp only [Bool.or_eq_true, Bool.and_eq_true, decide_eq_true_eq]
  omega
theorem decS_eq (s : List UInt8) (i : Nat) : decS s i =
    (if bN s i < 128 then (bN s i, 1)
    else if (bN s i / 32 == 6 && conB s (i + 1)) = true then (if c2N s i ≥ 128 then (c2N s i, 2) else (65533, 1))
    else if (bN s i / 16 == 14 && conB s (i + 1) && conB s (i + 2)) = true then
      (if (decide (c3N s i ≥ 2048) && validN (c3N s i)) = true then (c3N s i, 3) else (65533, 1))
    else if (bN s i / 8 == 30 && conB s (i + 1) && conB s (i + 2) && conB s (i + 3)) = true then
      (if (decide (c4N s i ≥ 65536) && validN (c4N s i)) = true then (c4N s i, 4) else (65533, 1))
    else (65533, 1)) := by
  have hc : ∀ k, (decide (i + k < (ByteArray.mk ⟨s⟩).size) && (bN s (i + k) / 64 == 2)) = conB s (i + k) := fun k => by
    unfold conB
    congr 1
  unfold decS Utf8.decode
  simp only [get_bN, hc, validN_eq, Nat.add_zero, Utf8.runeError, c2N, c3N, c4N]
  rfl
theorem dec_step (s : List UInt8) (i : Nat) : match stepR s i with | some (c, n) => decS s i = (c, n + 1) | none => decS s i = (65533, 1) := by
  rw [decS_eq]
  unfold stepR
  have hb := bN_lt s i
  generalize c2N s i = c2
  generalize c3N s i = c3
  generalize c4N s i = c4
  generalize bN s i = b0 at *
  generalize conB s (i + 1) = k1
  generalize conB s (i + 2) = k2
  generalize conB s (i + 3) = k3
  generalize validN c3 = v3
  generalize validN c4 = v4
  by_cases h1 : b0 < 128
  · rw [if_pos h1, if_pos h1]
  rw [if_neg h1, if_neg h1]
  by_cases h2 : b0 / 32 = 6
  · have e3 : ¬ b0 / 16 = 14 := by omega
    have e4 : ¬ b0 / 8 = 30 := by omega
    rw [if_pos h2]
    by_cases h5 : 128 ≤ c2 <;> cases k1 <;> simp [h2, e3, e4, h5]
  rw [if_neg h2]
  by_cases h3 : b0 / 16 = 14
  · have e4 : ¬ b0 / 8 = 30 := by omega
    rw [if_pos h3]
    by_cases h5 : 2048 ≤ c3 <;> cases k1 <;> cases k2 <;> cases v3 <;> simp [h2, h3, e4, h5]
  rw [if_neg h3]
  by_cases h4 : b0 / 8 = 30
  · rw [if_pos h4]
    by_cases h5 : 65536 ≤ c4 <;> cases k1 <;> cases k2 <;> cases k3 <;> cases v4 <;> simp [h2, h3, h4, h5]
  · rw [if_neg h4]
    simp [h2, h3, h4]
theorem conB_lt {s : List UInt8} {i : Nat} (h : conB s i = true) : i < s.length ∧ 128 ≤ bN s i ∧ bN s i < 192 := by
  unfold conB at h
  simp only [Bool.and_eq_true, decide_eq_true_eq] at h
  omega
theorem stepR_le {s : List UInt8} {i c n : Nat} (hi : i < s.length) (h : stepR s i = some (c, n)) : i + n + 1 ≤ s.length ∧ c ≤ 1114111 := by
  unfold stepR c2N c3N c4N at h
  have hb := bN_lt s i
  by_cases h1 : bN s i < 128
  · rw [if_pos h1] at h; simp at h; omega
  rw [if_neg h1] at h
  by_cases h2 : bN s i / 32 = 6
  · rw [if_pos h2] at h
    split at h
    · rename_i hh
      simp only [Bool.and_eq_true] at hh
      have q1 := conB_lt hh.1
      simp at h; omega
    · cases h
  rw [if_neg h2] at h
  by_cases h3 : bN s i / 16 = 14
  · rw [if_pos h3] at h
    split at h
    · rename_i hh
      simp only [Bool.and_eq_true] at hh
      have q1 := conB_lt hh.1
      have q2 := conB_lt hh.2.1
      simp at h; omega
    · cases h
  rw [if_neg h3] at h
  by_cases h4 : bN s i / 8 = 30
  · rw [if_pos h4] at h
    split at h
    · rename_i hh
      simp only [Bool.and_eq_true] at hh
      have q3 := conB_lt hh.2.2.1
      have qv := hh.2.2.2.2
      unfold validN at qv
      simp only [Bool.or_eq_true, Bool.and_eq_true, decide_eq_true_eq] at qv
      simp at h; omega
    · cases h
  · rw [if_neg h4] at h; cases h
/-- The text's runes from i on. -/
def runesR (s : List UInt8) (i : Nat) : Option (List Nat) :=
  if h : i < s.length then (match stepR s i with
    | none => none
    | some (c, n) => (runesR s (i + n + 1)).map (c :: ·))
  else some []
termination_by s.length - i
decreasing_by omega
def markB3 : List UInt8 := [239, 191, 189]
theorem mark_some {s : List UInt8} {i : Nat} (h : i + 3 ≤ s.length) (hm : (s.take (i + 3)).drop i = markB3) : stepR s i = some (65533, 2) := by
  have hg : ∀ k, k < 3 → (s.getD (i + k) 0) = markB3.getD k 0 := by
    intro k hk
    rw [← hm]
    simp only [List.getD, List.getElem?_drop]
    rw [List.getElem?_take_of_lt (by omega)]
  have h0 : bN s i = 239 := by have := hg 0 (by omega); unfold bN; rw [show s.getD i 0 = s.getD (i + 0) 0 from rfl, this]; rfl
  have h1 : bN s (i + 1) = 191 := by unfold bN; rw [hg 1 (by omega)]; rfl
  have h2 : bN s (i + 2) = 189 := by unfold bN; rw [hg 2 (by omega)]; rfl
  have c1 : conB s (i + 1) = true := by unfold conB; rw [h1]; simp; omega
  have c2 : conB s (i + 2) = true := by unfold conB; rw [h2]; simp; omega
  unfold stepR c3N
  rw [h0, h1, h2, c1, c2]
  rfl
theorem some_mark {s : List UInt8} {i n : Nat} (hi : i < s.length) (h : stepR s i = some (65533, n)) : i + 3 ≤ s.length ∧ (s.take (i + 3)).drop i = markB3 := by
  have hb := bN_lt s i
  have key : i + 3 ≤ s.length ∧ bN s i = 239 ∧ bN s (i + 1) = 191 ∧ bN s (i + 2) = 189 := by
    unfold stepR c2N c3N c4N at h
    have hb1 := bN_lt s (i + 1)
    by_cases h1 : bN s i < 128
    · rw [if_pos h1] at h; simp at h; omega
    rw [if_neg h1] at h
    by_cases h2 : bN s i / 32 = 6
    · rw [if_pos h2] at h
      split at h
      · simp at h; omega
      · cases h
    rw [if_neg h2] at h
    by_cases h3 : bN s i / 16 = 14
    · rw [if_pos h3] at h
      split at h
      · rename_i hh
        simp only [Bool.and_eq_true] at hh
        have q1 := conB_lt hh.1
        have q2 := conB_lt hh.2.1
        simp at h
        omega
      · cases h
    rw [if_neg h3] at h
    by_cases h4 : bN s i / 8 = 30
    · rw [if_pos h4] at h
      split at h
      · rename_i hh
        simp only [Bool.and_eq_true, decide_eq_true_eq] at hh
        simp at h
        omega
      · cases h
    · rw [if_neg h4] at h; cases h
  obtain ⟨h3, e0, e1, e2⟩ := key
  refine ⟨h3, List.ext_getElem (by simp [markB3]; omega) (fun k hk1 hk2 => ?_)⟩
  have hk : k < 3 := by simpa [markB3] using hk2
  have hs : i + k < s.length := by omega
  rw [List.getElem_drop, List.getElem_take]
  have hbn : (s[i + k]).toNat = bN s (i + k) := by simp [bN, List.getD, hs]
  apply UInt8.toNat.inj
  rw [hbn]
  have : k = 0 ∨ k = 1 ∨ k = 2 := by omega
  rcases this with rfl | rfl | rfl
  · rw [Nat.add_zero, e0]; rfl
  · rw [e1]; rfl
  · rw [e2]; rfl

/-! ### where a range over a text stands -/
def iterP (w : World) (r : Nat) : Nat := match w.heap[r]? with | some (.stringIter _ p) => p | _ => 0
theorem iterP_eq {w : World} {r p : Nat} {b : ByteArray} (h : w.heap[r]? = some (.stringIter b p)) : iterP w r = p := by unfold iterP; rw [h]
theorem iter_set {w w1 : World} {r : Nat} {o o' : Obj} (h : w.heap[r]? = some o) (h1 : w1 = setObjW w r o') : w1.heap[r]? = some o' ∧ Ext (fun k => k = r) w w1 := by
  subst h1
  exact ⟨by have := lt_of_heap h; simp [setObjW, this], setObjW_ext⟩

theorem runesRight_spec (s : List UInt8) (hl : s.length ≤ 2 ^ 40) (w : World) :
    Calls Tryd.prog fn_runes_Right ⟨[strV s]⟩ w fun e w' => e = .returned (.bool (runesR s 0).isSome) ∧ Keep w w' := by
  refine runes_Right_ok _ ?_
  unfold runes_Right
  refine newS_mk (fun r2 w3 hr2 hb2 k2 hs2 => ?_)
  refine ⟨fun w2 => ∃ p, w2.heap[r2]? = some (.stringIter ⟨⟨s⟩⟩ p) ∧ Keep w w2 ∧ (runesR s 0).isSome = (runesR s p).isSome, fun w2 => s.length - iterP w2 r2, ⟨0, hb2, k2, rfl⟩, ?_⟩
  rintro w6 ⟨p, hp, k6, hr⟩
  intros
  refine ⟨s, p, hp, BIf_dec (fun h1 => fun w33 hw33 => ?_) (fun h1 => ⟨?_, k6⟩)⟩
  · obtain ⟨g1, g2⟩ := iter_set hp hw33
    have k33 : Keep w w33 := k6.ext g2 (fun j hj => by omega)
    have hd := dec_step s p
    rw [runesR.eq_1 s p, dif_pos h1] at hr
    cases hst : stepR s p with
    | none =>
      rw [hst] at hd hr
      simp only at hd
      rw [hd] at g1 ⊢
      refine BIf_dec (fun _ => ⟨inR64 (by omega), BIf_dec (fun _ => ⟨by rw [hr]; rfl, k33⟩) (fun h3 => ⟨inR64 (by omega), by omega, by omega, by omega, ?_⟩)⟩) (fun h => absurd rfl h)
      refine BIf_ndec (fun h4 => ⟨by rw [hr]; rfl, k33⟩) (fun h4 => ?_)
      rw [show Int.toNat ((p : Int) + 3) = p + 3 by omega] at h4
      have := mark_some (s := s) (i := p) (by omega) h4
      rw [hst] at this; cases this
    | some cn =>
      obtain ⟨c, n⟩ := cn
      rw [hst] at hd hr
      simp only at hd
      have hle := stepR_le h1 hst
      rw [hd] at g1 ⊢
      have next : (∃ p, w33.heap[r2]? = some (.stringIter ⟨⟨s⟩⟩ p) ∧ Keep w w33 ∧ (runesR s 0).isSome = (runesR s p).isSome) ∧ s.length - iterP w33 r2 < s.length - iterP w6 r2 := by
        refine ⟨⟨_, g1, k33, ?_⟩, by rw [iterP_eq g1, iterP_eq hp]; omega⟩
        rw [hr, ← Nat.add_assoc]; simp
      refine BIf_dec (fun h2 => ?_) (fun h2 => next)
      have hc : c = 65533 := by simp only at h2; omega
      subst hc
      obtain ⟨q1, q2⟩ := some_mark h1 hst
      refine ⟨inR64 (by omega), BIf_dec (fun h => by omega) (fun _ => ⟨inR64 (by omega), by omega, by omega, by omega, BIf_ndec (fun h4 => absurd ?_ h4) (fun _ => next)⟩)⟩
      rw [show Int.toNat ((p : Int) + 3) = p + 3 by omega]; exact q2
  · rw [hr, runesR.eq_1 s p, dif_neg (by omega)]; rfl

theorem runesR_len (s : List UInt8) : ∀ (i : Nat) (l : List Nat), runesR s i = some l → l.length + i ≤ s.length ∨ (l = [] ∧ s.length ≤ i) := by
  intro i
  induction h : s.length - i using Nat.strongRecOn generalizing i with
  | ind m ih =>
    intro l hl
    rw [runesR.eq_1] at hl
    split at hl
    · rename_i hi
      cases hst : stepR s i with
      | none => rw [hst] at hl; cases hl
      | some cn =>
        obtain ⟨c, n⟩ := cn
        rw [hst] at hl
        simp only at hl
        have hle := (stepR_le hi hst).1
        cases hr : runesR s (i + n + 1) with
        | none => rw [hr] at hl; cases hl
        | some l2 =>
          rw [hr] at hl
          cases hl
          rcases ih (s.length - (i + n + 1)) (by omega) (i + n + 1) rfl l2 hr with h2 | ⟨rfl, h2⟩
          · left; simp; omega
          · left; simp; omega
    · cases hl
      exact .inr ⟨rfl, by omega⟩
theorem runesCount_spec (s : List UInt8) (hl : s.length ≤ 2 ^ 40) (w : World) :
    Calls Tryd.prog fn_runes_Count ⟨[strV s]⟩ w fun e w' => e = .returned (.int .i64 (match runesR s 0 with | none => -1 | some l => (l.length : Int))) ∧ Keep w w' := by
  refine runes_Count_ok _ ?_
  unfold runes_Count
  refine (runesRight_spec s hl w).mono ?_
  rintro e w3 ⟨rfl, k3⟩
  cases hr0 : runesR s 0 with
  | none => exact ⟨_, rfl, BIf_mk (fun _ => ⟨rfl, k3⟩) (fun h => by cases h)⟩
  | some l =>
    refine ⟨_, rfl, BIf_mk (fun h => by cases h) (fun _ => newS_mk (fun r5 w6 hr5 hb5 k5 hs5 => ?_))⟩
    have z3 := k3.size
    refine ⟨fun n w2 => ∃ (p m : Nat) (l2 : List Nat), w2.heap[r5]? = some (.stringIter ⟨⟨s⟩⟩ p) ∧ Keep w w2 ∧ n = m ∧ runesR s p = some l2 ∧ m + l2.length = l.length, fun _ w2 => s.length - iterP w2 r5, ⟨0, 0, l, hb5, k3.trans k5, rfl, hr0, by omega⟩, ?_⟩
    rintro n w10 ⟨p, m, l2, hp, k10, rfl, hl2, hm⟩
    intros
    refine ⟨s, p, hp, BIf_dec (fun h1 => fun w33 hw33 => ?_) (fun h1 => ⟨?_, k10⟩)⟩
    · obtain ⟨g1, g2⟩ := iter_set hp hw33
      have k33 : Keep w w33 := k10.ext g2 (fun j hj => by omega)
      have hd := dec_step s p
      rw [runesR.eq_1, dif_pos h1] at hl2
      cases hst : stepR s p with
      | none => rw [hst] at hl2; cases hl2
      | some cn =>
        obtain ⟨c, n⟩ := cn
        rw [hst] at hd hl2
        simp only at hd hl2
        rw [hd] at g1
        have hle := stepR_le h1 hst
        cases hr : runesR s (p + n + 1) with
        | none => rw [hr] at hl2; cases hl2
        | some l3 =>
          rw [hr] at hl2
          cases hl2
          have hlen := runesR_len s 0 l hr0
          simp at hm
          exact ⟨inR64 (by omega), ⟨_, m + 1, l3, g1, k33, rfl, by rw [← Nat.add_assoc]; exact hr, by omega⟩, by show s.length - iterP w33 r5 < s.length - iterP w10 r5; rw [iterP_eq g1, iterP_eq hp]; omega⟩
    · rw [runesR.eq_1, dif_neg (by omega)] at hl2
      cases hl2
      have : m = l.length := by simpa using hm
      rw [this]

/-! ### keys -/
def badC (c : Nat) : Bool := decide (c < 32) || decide (c = 127)
/-- A key's error. -/
def keyE (s : List UInt8) : Option Nat := match runesR s 0 with
  | none => some 5
  | some l => if l.length = 0 then some 1 else if 24 < l.length then some 2 else if l.any badC = true then some 6 else none
def keyG : List Nat := [gl_ErrRune, gl_ErrShort, gl_ErrLong, gl_ErrName]
theorem runesKey_spec (A : Nat → Addr) {n0 : Nat} (s : List UInt8) (hl : s.length ≤ 2 ^ 40) (w : World) (hE : ErrsG keyG A n0 w) :
    Calls Tryd.prog fn_runes_Key ⟨[strV s]⟩ w fun e w' => e = .returned (errO A (keyE s)) ∧ Keep w w' := by
  refine runes_Key_ok _ ?_
  unfold runes_Key
  refine (runesCount_spec s hl w).mono ?_
  rintro e w3 ⟨rfl, k3⟩
  unfold keyE
  have hE3 := hE.keep k3
  cases hr0 : runesR s 0 with
  | none =>
    refine ⟨_, rfl, BIf_dec (fun _ => ⟨_, errG_at hE3 5 _ rfl (by simp [keyG]), rfl, k3⟩) (fun h => absurd (show (-1 : Int) < 0 by omega) h)⟩
  | some l =>
    refine ⟨_, rfl, BIf_dec (fun h => by simp only at h; omega) (fun _ => BIf_dec (fun h => ⟨_, errG_at hE3 1 _ rfl (by simp [keyG]), ?_, k3⟩) (fun h2 => BIf_dec (fun h => ⟨_, errG_at hE3 2 _ rfl (by simp [keyG]), ?_, k3⟩) (fun h3 => ?_)))⟩
    · simp only at h ⊢; rw [if_pos (by omega)]
    · simp only at h h2 ⊢; rw [if_neg (by omega), if_pos (by omega)]
    simp only at h2 h3 ⊢
    rw [if_neg (by omega), if_neg (by omega)]
    refine newS_mk (fun r8 w9 hr8 hb8 k8 hs8 => ?_)
    have z3 := k3.size
    refine ⟨fun w2 => ∃ (p : Nat) (l2 : List Nat), w2.heap[r8]? = some (.stringIter ⟨⟨s⟩⟩ p) ∧ Keep w w2 ∧ runesR s p = some l2 ∧ l.any badC = l2.any badC, fun w2 => s.length - iterP w2 r8, ⟨0, l, hb8, k3.trans k8, hr0, rfl⟩, ?_⟩
    rintro w12 ⟨p, l2, hp, k12, hl2, hany⟩
    intros
    refine ⟨s, p, hp, BIf_dec (fun h1 => fun w33 hw33 => ?_) (fun h1 => ⟨?_, k12⟩)⟩
    · obtain ⟨g1, g2⟩ := iter_set hp hw33
      have k33 : Keep w w33 := k12.ext g2 (fun j hj => by omega)
      have hd := dec_step s p
      rw [runesR.eq_1, dif_pos h1] at hl2
      cases hst : stepR s p with
      | none => rw [hst] at hl2; cases hl2
      | some cn =>
        obtain ⟨c, n⟩ := cn
        rw [hst] at hd hl2
        simp only at hd hl2
        rw [hd] at g1 ⊢
        have hle := stepR_le h1 hst
        cases hr : runesR s (p + n + 1) with
        | none => rw [hr] at hl2; cases hl2
        | some l3 =>
          rw [hr] at hl2
          cases hl2
          rw [List.any_cons] at hany
          have hE33 := hE.keep k33
          refine BIf_dec (fun h4 => ⟨_, errG_at hE33 6 _ rfl (by simp [keyG]), ?_, k33⟩) (fun h4 => BIf_dec (fun h5 => ⟨_, errG_at hE33 6 _ rfl (by simp [keyG]), ?_, k33⟩) (fun h5 => ⟨⟨_, l3, g1, k33, by rw [← Nat.add_assoc]; exact hr, ?_⟩, by show s.length - iterP w33 r8 < s.length - iterP w12 r8; rw [iterP_eq g1, iterP_eq hp]; omega⟩))
          · rw [if_pos (by rw [hany]; simp [badC]; left; left; simp only at h4; omega)]
          · rw [if_pos (by rw [hany]; simp [badC]; left; right; simp only at h5; omega)]
          · rw [hany]
            have : badC c = false := by simp only at h4 h5; simp [badC]; omega
            rw [this]; rfl
    · rw [runesR.eq_1, dif_neg (by omega)] at hl2
      cases hl2
      rw [hany]; rfl
end Go.D

set_option linter.unusedVariables false
set_option linter.unusedSimpArgs false
set_option maxRecDepth 20000
namespace Go.D
open Go Go.Proofs

/-! ### the document's runes -/
def clsR (s : List UInt8) (i n least c0 : Nat) : Prop :=
  (n = 1 ∧ least = 0 ∧ bN s i < 128 ∧ c0 = bN s i) ∨ (n = 2 ∧ least = 128 ∧ bN s i / 32 = 6 ∧ c0 = bN s i % 32) ∨ (n = 3 ∧ least = 2048 ∧ bN s i / 16 = 14 ∧ c0 = bN s i % 16) ∨ (n = 4 ∧ least = 65536 ∧ bN s i / 8 = 30 ∧ c0 = bN s i % 8)
def accN (s : List UInt8) (i c0 : Nat) : Nat → Nat
  | 0 => c0
  | k + 1 => accN s i c0 k * 64 + bN s (i + (k + 1)) % 64
theorem cls_none {s : List UInt8} {i n least c0 : Nat} (h : clsR s i n least c0) (k : Nat) (h1 : 1 ≤ k) (hk : k < n) (hc : conB s (i + k) = false) : stepR s i = none := by
  have hb := bN_lt s i
  unfold stepR
  rcases h with ⟨rfl, _⟩ | ⟨rfl, _, h2, _⟩ | ⟨rfl, _, h2, _⟩ | ⟨rfl, _, h2, _⟩
  · omega
  · rw [if_neg (by omega), if_pos h2]
    have : k = 1 := by omega
    subst this
    rw [hc]; rfl
  · rw [if_neg (by omega), if_neg (by omega), if_pos h2]
    have : k = 1 ∨ k = 2 := by omega
    rcases this with rfl | rfl
    · rw [hc]; rfl
    · rw [hc]; simp
  · rw [if_neg (by omega), if_neg (by omega), if_neg (by omega), if_pos h2]
    have : k = 1 ∨ k = 2 ∨ k = 3 := by omega
    rcases this with rfl | rfl | rfl
    · rw [hc]; rfl
    · rw [hc]; simp
    · rw [hc]; simp
theorem cls_end {s : List UInt8} {i n least c0 : Nat} (h : clsR s i n least c0) (hc : ∀ k, 1 ≤ k → k < n → conB s (i + k) = true) :
    stepR s i = if (decide (least ≤ accN s i c0 (n - 1)) && validN (accN s i c0 (n - 1))) = true then some (accN s i c0 (n - 1), n - 1) else none := by
  have hb := bN_lt s i
  unfold stepR
  rcases h with ⟨rfl, rfl, h2, rfl⟩ | ⟨rfl, rfl, h2, rfl⟩ | ⟨rfl, rfl, h2, rfl⟩ | ⟨rfl, rfl, h2, rfl⟩
  · rw [if_pos h2]
    have hv : validN (bN s i) = true := by unfold validN; simp; omega
    rw [show accN s i (bN s i) (1 - 1) = bN s i from rfl, hv]
    simp
  · rw [if_neg (by omega), if_pos h2, hc 1 (by omega) (by omega)]
    have e : accN s i (bN s i % 32) (2 - 1) = c2N s i := rfl
    have hv : validN (c2N s i) = true := by unfold validN c2N; simp; omega
    rw [e, hv]
    simp
  · rw [if_neg (by omega), if_neg (by omega), if_pos h2, hc 1 (by omega) (by omega), hc 2 (by omega) (by omega)]
    have e : accN s i (bN s i % 16) (3 - 1) = c3N s i := by
      show ((bN s i % 16) * 64 + bN s (i + 1) % 64) * 64 + bN s (i + 2) % 64 = _
      unfold c3N; omega
    rw [e]
    simp
  · rw [if_neg (by omega), if_neg (by omega), if_neg (by omega), if_pos h2, hc 1 (by omega) (by omega), hc 2 (by omega) (by omega), hc 3 (by omega) (by omega)]
    have e : accN s i (bN s i % 8) (4 - 1) = c4N s i := by
      show (((bN s i % 8) * 64 + bN s (i + 1) % 64) * 64 + bN s (i + 2) % 64) * 64 + bN s (i + 3) % 64 = _
      unfold c4N; omega
    rw [e]
    simp
theorem accN_lt {s : List UInt8} {i n least c0 : Nat} (h : clsR s i n least c0) : ∀ k, accN s i c0 k < 128 * 64 ^ k
  | 0 => by
    have hb := bN_lt s i
    show c0 < _
    rcases h with ⟨_, _, _, rfl⟩ | ⟨_, _, _, rfl⟩ | ⟨_, _, _, rfl⟩ | ⟨_, _, _, rfl⟩ <;> omega
  | k + 1 => by
    have := accN_lt h k
    rw [accN, Nat.pow_succ]
    omega

theorem refRunes_spec (s : List UInt8) (hl : s.length ≤ 2 ^ 20) (w : World) :
    Calls Tryd.prog fn_tidewaterref02_Runes ⟨[strV s]⟩ w fun e w' => Keep w w' ∧ match runesR s 0 with
      | none => ∃ t : Slc, e = .returned (.tuple ⟨[t.v, .bool false]⟩)
      | some l => ∃ t : Slc, e = .returned (.tuple ⟨[t.v, .bool true]⟩) ∧ IntsAt w' t (l.map fun (c : Nat) => (c : Int)) := by
  refine tidewaterref02_Runes_ok _ ?_
  unfold tidewaterref02_Runes
  refine newS_mk (fun r2 w3 hr2 hb2 k2 hs2 => ?_)
  refine ⟨fun out i w2 => ∃ (p : Nat) (l1 : List Nat), i = p ∧ p ≤ s.length ∧ IntsAt w2 out (l1.map fun (c : Nat) => (c : Int)) ∧ Fresh w out ∧ Keep w w2 ∧ l1.length ≤ p ∧ runesR s 0 = (runesR s p).map (l1 ++ ·), fun _ i _ => ((s.length : Int) - i).toNat,
    ⟨0, [], rfl, by omega, IntsAt.new hb2, Fresh.at (by omega), k2, by simp, by simp⟩, ?_⟩
  rintro out i w8 ⟨p, l1, rfl, hp, hI, hf, k8, hl1, hr⟩
  intros
  -- there is none
  have bad : ∀ {w2 : World}, Keep w w2 → stepR s p = none → p < s.length → Keep w w2 ∧ match runesR s 0 with
      | none => ∃ t : Slc, Ending.returned (Value.tuple ⟨[(Slc.v (⟨none, 0, 0⟩ : Slc)), (Value.bool false)]⟩) = .returned (.tuple ⟨[t.v, .bool false]⟩)
      | some l => ∃ t : Slc, Ending.returned (Value.tuple ⟨[(Slc.v (⟨none, 0, 0⟩ : Slc)), (Value.bool false)]⟩) = .returned (.tuple ⟨[t.v, .bool true]⟩) ∧ IntsAt w2 t (l.map fun (c : Nat) => (c : Int)) := by
    intro w2 k hst hpl
    refine ⟨k, ?_⟩
    have : runesR s 0 = none := by rw [hr, runesR.eq_1 s p, dif_pos hpl, hst]; rfl
    rw [this]
    exact ⟨_, rfl⟩
  refine BIf_dec (fun h1 => ?_) (fun h1 => ?_)
  · have hpl : p < s.length := by omega
    have hb := bN_lt s p
    have eb : (UInt8.toNat (List.getD s (Int.toNat (p : Int)) 0)) = bN s p := by unfold bN; rw [Int.toNat_natCast]
    rw [eb]
    have kd := k8.drew
    refine ⟨by omega, h1, inR64 (by omega), fun n least c w2 => w2 = w8.drew ∧ ∃ n' least' c0 : Nat, n = n' ∧ least = least' ∧ c = c0 ∧ clsR s p n' least' c0, ?_, ?_⟩
    · refine BIf_dec (fun h2 => ⟨rfl, 1, 0, bN s p, rfl, rfl, rfl, .inl ⟨rfl, rfl, by omega, rfl⟩⟩) (fun h2 => ⟨fun x w2 => w2 = w8.drew ∧ (x = true ↔ bN s p / 32 = 6), ?_, ?_⟩)
      · refine BIf_dec (fun h3 => ⟨rfl, ?_⟩) (fun h3 => ⟨rfl, ?_⟩)
        · rw [decide_eq_true_eq]; omega
        · refine ⟨fun h => (by cases h), fun h => by omega⟩
      rintro x w107 ⟨rfl, hx⟩
      intros
      refine BIf_mk (fun h3 => ?_) (fun h3 => ⟨fun x w2 => w2 = w8.drew ∧ (x = true ↔ bN s p / 16 = 14), ?_, ?_⟩)
      · have := hx.1 h3
        exact ⟨inR64 (by omega), rfl, 2, 128, bN s p % 32, rfl, rfl, by omega, .inr (.inl ⟨rfl, rfl, this, rfl⟩)⟩
      · refine BIf_dec (fun h4 => ⟨rfl, ?_⟩) (fun h4 => ⟨rfl, ?_⟩)
        · rw [decide_eq_true_eq]; omega
        · refine ⟨fun h => (by cases h), fun h => by omega⟩
      rintro y w116 ⟨rfl, hy⟩
      intros
      have h6 : ¬ bN s p / 32 = 6 := fun hh => by rw [hx.2 hh] at h3; cases h3
      refine BIf_mk (fun h4 => ?_) (fun h4 => ?_)
      · have := hy.1 h4
        exact ⟨inR64 (by omega), rfl, 3, 2048, bN s p % 16, rfl, rfl, by omega, .inr (.inr (.inl ⟨rfl, rfl, this, rfl⟩))⟩
      · have h14 : ¬ bN s p / 16 = 14 := fun hh => by rw [hy.2 hh] at h4; cases h4
        have none_ : ¬ bN s p / 8 = 30 → stepR s p = none := fun h30 => by
          unfold stepR
          rw [if_neg (by omega), if_neg h6, if_neg h14, if_neg h30]
        refine BIf_dec (fun h5 => BIf_dec (fun h7 => ?_) (fun h7 => bad kd (none_ (by omega)) hpl)) (fun h5 => bad kd (none_ (by omega)) hpl)
        exact ⟨inR64 (by omega), rfl, 4, 65536, bN s p % 8, rfl, rfl, by omega, .inr (.inr (.inr ⟨rfl, rfl, by omega, rfl⟩))⟩
    · rintro n least c w126 ⟨rfl, n', least', c0, rfl, rfl, rfl, hcls⟩
      intros
      have hn4 : 1 ≤ n' ∧ n' ≤ 4 := by rcases hcls with ⟨rfl, _⟩ | ⟨rfl, _⟩ | ⟨rfl, _⟩ | ⟨rfl, _⟩ <;> omega
      refine ⟨inR64 (by omega), BIf_dec (fun h2 => ?_) (fun h2 => ?_)⟩
      · -- too short
        have hc : conB s (s.length) = false := by unfold conB; simp
        have := cls_none hcls (s.length - p) (by omega) (by omega) (by rw [show p + (s.length - p) = s.length by omega]; exact hc)
        exact bad kd this hpl
      refine ⟨fun c k w2 => w2 = w8.drew ∧ ∃ k' : Nat, k = ((k' + 1 : Nat) : Int) ∧ k' + 1 ≤ n' ∧ c = (accN s p c0 k' : Int) ∧ ∀ j, 1 ≤ j → j < k' + 1 → conB s (p + j) = true, fun _ k _ => ((n' : Int) - k).toNat, ⟨rfl, 0, by omega, by omega, rfl, fun j h1 h2 => by omega⟩, ?_⟩
      rintro c k w163 ⟨rfl, k', rfl, hk, rfl, hcon⟩
      intros
      have hacc := accN_lt hcls k'
      have hp64 : 64 ^ k' ≤ 64 ^ 3 := Nat.pow_le_pow_right (by omega) (by omega)
      refine BIf_dec (fun h3 => ?_) (fun h3 => ?_)
      · have ei : Int.toNat ((p : Int) + ((k' + 1 : Nat) : Int)) = p + (k' + 1) := by omega
        have eb2 : (UInt8.toNat (List.getD s (Int.toNat ((p : Int) + ((k' + 1 : Nat) : Int))) 0)) = bN s (p + (k' + 1)) := by unfold bN; rw [ei]
        rw [eb2]
        have hb2 := bN_lt s (p + (k' + 1))
        have hno : ¬ (128 ≤ bN s (p + (k' + 1)) ∧ bN s (p + (k' + 1)) ≤ 191) → stepR s p = none := fun hh => by
          refine cls_none hcls (k' + 1) (by omega) (by omega) ?_
          unfold conB
          have : ¬ bN s (p + (k' + 1)) / 64 = 2 := by omega
          simp [this]
        refine ⟨inR64 (by omega), by omega, by omega, inR64 (by omega), BIf_dec (fun h4 => bad kd (hno (by omega)) hpl) (fun h4 => BIf_dec (fun h5 => bad kd (hno (by omega)) hpl) (fun h5 => ?_))⟩
        refine ⟨inR64 (by omega), inR64 (by omega), inR64 (by omega), inR64 (by omega), ⟨rfl, k' + 1, by omega, by omega, ?_, fun j hj1 hj2 => ?_⟩, by first | (dsimp only; omega) | omega⟩
        · rw [accN]; omega
        · by_cases hjk : j = k' + 1
          · subst hjk
            unfold conB
            simp only [Bool.and_eq_true, decide_eq_true_eq]
            omega
          · exact hcon j hj1 (by omega)
      · have hkn : k' = n' - 1 := by omega
        have hend := cls_end hcls (fun k h1 h2 => hcon k h1 (by omega))
        rw [← hkn] at hend
        generalize accN s p c0 k' = c at *
        have hno : ¬ (least' ≤ c ∧ validN c = true) → stepR s p = none := fun hh => by
          rw [hend, if_neg]
          simp only [Bool.and_eq_true, decide_eq_true_eq]
          exact hh
        have hv : validN c = true ↔ c < 55296 ∨ (57344 ≤ c ∧ c ≤ 1114111) := by
          unfold validN; simp
        refine BIf_dec (fun h4 => bad kd (hno (fun hh => by omega)) hpl) (fun h4 => BIf_dec (fun h5 => bad kd (hno (fun hh => by have := hv.1 hh.2; omega)) hpl) (fun h5 => ?_))
        -- a rune
        have good : validN c = true → ∀ {T E : TypeId}, newS w8.drew (.cells ⟨[.int .i64 (c : Int)]⟩ T) fun r w2 => appendS 1 E [.int .i64 0] w2 out (.slc ⟨some ⟨r, 0, none⟩, 1, 1⟩) fun s3 w3 =>
            inR .i64 ((p : Int) + (n' : Int)) ∧ (∃ (p2 : Nat) (l1 : List Nat), ((p : Int) + (n' : Int)) = p2 ∧ p2 ≤ s.length ∧ IntsAt w3 s3 (l1.map fun (c : Nat) => (c : Int)) ∧ Fresh w s3 ∧ Keep w w3 ∧ l1.length ≤ p2 ∧ runesR s 0 = (runesR s p2).map (l1 ++ ·)) ∧ ((s.length : Int) - ((p : Int) + (n' : Int))).toNat < ((s.length : Int) - (p : Int)).toNat := by
          intro hvc T E
          have hst : stepR s p = some (c, n' - 1) := by
            rw [hend, if_pos (by simp only [Bool.and_eq_true, decide_eq_true_eq]; exact ⟨by omega, hvc⟩), hkn]
          refine (hI.keep (Ext.drew none0 _)).push hf kd (by simp; omega) (fun s' w' g1 g2 g3 g4 g5 => ?_)
          refine ⟨inR64 (by omega), ⟨p + n', l1 ++ [c], by omega, by omega, by simpa using g1, g2, g3, by simp; omega, ?_⟩, by omega⟩
          rw [hr, runesR.eq_1 s p, dif_pos hpl, hst]
          simp only
          rw [show p + (n' - 1) + 1 = p + n' by omega]
          cases runesR s (p + n') <;> simp
        refine BIf_dec (fun h6 => BIf_dec (fun h7 => bad kd (hno (fun hh => by have := hv.1 hh.2; omega)) hpl) (fun h7 => good (hv.2 (by omega)))) (fun h6 => good (hv.2 (by omega)))
  · have hpl : p = s.length := by omega
    subst hpl
    refine ⟨k8, ?_⟩
    rw [runesR.eq_1 s s.length, dif_neg (by omega)] at hr
    rw [hr]
    exact ⟨out, rfl, by simpa using hI⟩

def keyN (s : List UInt8) : Int := match keyE s with | none => 0 | some k => ((k + 1 : Nat) : Int)
theorem refKey_spec (s : List UInt8) (hl : s.length ≤ 2 ^ 20) (w : World) :
    Calls Tryd.prog fn_tidewaterref02_Key ⟨[strV s]⟩ w fun e w' => e = .returned (.int .i64 (keyN s)) ∧ Keep w w' := by
  refine tidewaterref02_Key_ok _ ?_
  unfold tidewaterref02_Key
  refine (refRunes_spec s hl w).mono ?_
  rintro e w3 ⟨k3, hm⟩
  unfold keyN keyE
  cases hr0 : runesR s 0 with
  | none =>
    rw [hr0] at hm
    obtain ⟨t, rfl⟩ := hm
    exact ⟨_, _, rfl, BIf_mk (fun _ => ⟨rfl, k3⟩) (fun h => by cases h)⟩
  | some l =>
    rw [hr0] at hm
    obtain ⟨t, rfl, hI⟩ := hm
    have hsl := hI.sl
    rw [List.length_map] at hsl
    refine ⟨_, _, rfl, BIf_mk (fun h => by cases h) (fun _ => BIf_dec (fun h1 => ⟨?_, k3⟩) (fun h1 => BIf_dec (fun h2 => ⟨?_, k3⟩) (fun h2 => ?_)))⟩
    · simp only; rw [if_pos (by omega)]; rfl
    · simp only; rw [if_neg (by omega), if_pos (by omega)]; rfl
    simp only
    rw [if_neg (by omega), if_neg (by omega)]
    refine ⟨fun i w2 => ∃ k : Nat, i = k ∧ k ≤ l.length ∧ w2 = w3 ∧ (l.take k).any badC = false, fun i _ => ((l.length : Int) - i).toNat, ⟨0, rfl, by omega, rfl, by simp⟩, ?_⟩
    rintro i w9 ⟨k, rfl, hk, rfl, hany⟩
    intros
    refine BIf_dec (fun h3 => ?_) (fun h3 => ⟨?_, k3⟩)
    · have hkl : k < l.length := by omega
      obtain ⟨a, ha, hc⟩ := hI.get (i := k) (by simp; omega)
      have e1 : (l.map fun (c : Nat) => (c : Int))[k]'(by simp; omega) = (l[k] : Int) := by simp
      rw [e1] at hc
      have bad : badC l[k] = true → l.any badC = true := fun hb => List.any_eq_true.2 ⟨_, List.getElem_mem hkl, hb⟩
      refine needSome_mk ha ⟨by omega, h3, _, by rw [Int.toNat_natCast]; exact hc, BIf_dec (fun h4 => ⟨?_, k3⟩) (fun h4 => BIf_dec (fun h5 => ⟨?_, k3⟩) (fun h5 => ⟨inR64 (by omega), ⟨k + 1, rfl, hkl, rfl, ?_⟩, by first | (dsimp only; omega) | omega⟩))⟩
      · rw [if_pos (bad (by simp [badC]; omega))]; rfl
      · rw [if_pos (bad (by simp [badC]; omega))]; rfl
      · rw [List.take_succ_eq_append_getElem hkl, List.any_append, hany]
        simp [badC]; omega
    · rw [List.take_of_length_le (by omega)] at hany
      rw [if_neg (by rw [hany]; simp)]
end Go.D

set_option linter.unusedVariables false
set_option linter.unusedSimpArgs false
namespace Go.D

/-- The bytes of a number. -/
def encN (n : Nat) : List UInt8 :=
  if h : n < 128 then [UInt8.ofNat n] else UInt8.ofNat (n % 128 + 128) :: encN (n / 128)
termination_by n
decreasing_by omega

theorem encN_len : ∀ (n j : Nat), n < 128 ^ (j + 1) → (encN n).length ≤ j + 1
  | n, 0, h => by rw [encN.eq_1, dif_pos (by simpa using h)]; simp
  | n, j + 1, h => by
    rw [encN.eq_1]
    split
    · simp
    · have := encN_len (n / 128) j (by rw [Nat.pow_succ] at h; omega)
      simp; omega
theorem encN_pos (n : Nat) : 0 < (encN n).length := by
  rw [encN.eq_1]; split <;> simp

theorem encN_lt {n : Nat} (h : n < 128) : encN n = [UInt8.ofNat n] := by rw [encN.eq_1, dif_pos h]
theorem encN_ge {n : Nat} (h : ¬ n < 128) : encN n = UInt8.ofNat (n % 128 + 128) :: encN (n / 128) := by rw [encN.eq_1, dif_neg h]

end Go.D

set_option linter.unusedVariables false
set_option linter.unusedSimpArgs false
namespace Go.D
open Go

theorem wrap8 (n : Nat) : Value.int .u8 (IntKind.wrap .u8 (n : Int)) = byteV (UInt8.ofNat n) := by
  have h : IntKind.wrap .u8 (n : Int) = ((n % 256 : Nat) : Int) := by
    simp [IntKind.wrap, IntKind.signed, IntKind.bits]
  rw [h, byteV, UInt8.toNat_ofNat']
theorem wrap8d (n d : Nat) : Value.int .u8 (IntKind.wrap .u8 ((n : Int) / (d : Int))) = byteV (UInt8.ofNat (n / d)) := wrap8 (n / d)

/-- Four bytes, the low one first. -/
def le4 (n : Nat) : List UInt8 := [UInt8.ofNat n, UInt8.ofNat (n / 256), UInt8.ofNat (n / 65536), UInt8.ofNat (n / 16777216)]
def le2 (n : Nat) : List UInt8 := [UInt8.ofNat n, UInt8.ofNat (n / 256)]
theorem bits_or (a b : Nat) : bitsI .or (a : Int) (b : Int) = ((a ||| b : Nat) : Int) := rfl

theorem or_disj (a b i : Nat) (ha : a < 2 ^ i) : a ||| b * 2 ^ i = a + b * 2 ^ i := by
  have := Nat.shiftLeft_add_eq_or_of_lt ha b
  rw [Nat.shiftLeft_eq] at this
  rw [Nat.or_comm, ← this, Nat.add_comm]
theorem drop_get {α : Type} {l : List α} {k : Nat} (h : k < l.length) : l.drop k = l[k] :: l.drop (k + 1) := List.drop_eq_getElem_cons h
end Go.D

set_option linter.unusedVariables false
set_option linter.unusedSimpArgs false
namespace Go.D
open Go Go.Proofs

theorem ref04_Num_specZ : ∀ (n : Nat) (z : Int) (w : World), z = n → n ≤ 9223372036854775807 →
    Calls Tryd.prog fn_tidewaterref04_Num ⟨[.int .i64 z]⟩ w fun e w' => ∃ s : Slc, e = .returned s.v ∧ Own w' s 1 ((encN n).map byteV) ∧ Fresh w s ∧ Keep w w' := by
  intro n
  induction n using Nat.strongRecOn with
  | ind n ih =>
    intro z w hz hn
    refine tidewaterref04_Num_ok _ ?_
    unfold tidewaterref04_Num
    refine BIf_dec (fun h => ?_) (fun h => ?_)
    · refine newS_mk (fun r w3 hr hb hk hs => ?_)
      rw [hz, wrap8] at hb
      refine ⟨_, rfl, ?_, Fresh.at (by omega), hk⟩
      rw [encN_lt (by omega)]
      exact Own.new (sz := 1) hb (.inl (by simp)) rfl
    · refine ⟨by omega, by omega, inR64 (by omega), newS_mk (fun r w5 hr hb hk hs => ?_)⟩
      rw [show (z % 128 + 128) = ((n % 128 + 128 : Nat) : Int) by omega, wrap8] at hb
      refine ⟨by omega, by omega, inR64 (by omega), ?_⟩
      refine (ih (n / 128) (by omega) (z / 128) w5 (by omega) (by omega)).mono ?_
      rintro e w7 ⟨s8, rfl, h8, f8, k8⟩
      have ho : Own w7 ⟨some ⟨r, 0, none⟩, 1, 1⟩ 1 ([UInt8.ofNat (n % 128 + 128)].map byteV) := Own.keep (Own.new (sz := 1) hb (.inl (by simp)) rfl) k8
      have hle := encN_len (n / 128) 9 (by omega)
      have h81 := h8.bytes.1
      refine ⟨s8, rfl, append_bytes (w0 := w) ho rfl (Fresh.at (by omega)) (hk.trans k8) (srcAt_bytes h8.bytes) (by simp only [Src.n]; omega) (fun s9 w10 g1 g2 g3 g4 => ?_)⟩
      refine ⟨s9, rfl, ?_, g3, g2⟩
      rw [encN_ge (by omega)]
      exact g1

theorem ref04_Num_spec (n : Nat) (w : World) (h : n ≤ 9223372036854775807) :
    Calls Tryd.prog fn_tidewaterref04_Num ⟨[.int .i64 (n : Int)]⟩ w fun e w' => ∃ s : Slc, e = .returned s.v ∧ Own w' s 1 ((encN n).map byteV) ∧ Fresh w s ∧ Keep w w' := ref04_Num_specZ n n w rfl h

theorem ref04_Text_spec (t : List UInt8) (w : World) (hl : t.length ≤ 2 ^ 20) :
    Calls Tryd.prog fn_tidewaterref04_Text ⟨[strV t]⟩ w fun e w' => ∃ s : Slc, e = .returned s.v ∧ Own w' s 1 ((encN t.length ++ t).map byteV) ∧ Fresh w s ∧ Keep w w' := by
  refine tidewaterref04_Text_ok _ ?_
  unfold tidewaterref04_Text
  refine (ref04_Num_spec t.length w (by omega)).mono ?_
  rintro e w3 ⟨s4, rfl, h4, f4, k4⟩
  have hle := encN_len t.length 9 (by omega)
  have h41 := h4.bytes.1
  refine ⟨s4, rfl, append_bytes (w0 := w) h4 rfl f4 k4 ⟨rfl, rfl⟩ (by simp only [Src.n]; omega) (fun s9 w10 g1 g2 g3 g4 => ?_)⟩
  exact ⟨s9, rfl, g1, g3, g2⟩

end Go.D

set_option linter.unusedVariables false
set_option linter.unusedSimpArgs false
namespace Go.D
open Go

theorem bytesAt_ltX {w : World} {s : Slc} {b : List UInt8} (h : bytesAt w s b) (hl : 0 < s.l) : ∀ k, ownB s k → k < w.heap.size := by
  rintro k ⟨a, ha, rfl⟩
  have hb : 0 < (b.map byteV).length := by rw [List.length_map, ← h.1]; exact hl
  obtain ⟨a', ha', hc⟩ := cellsAt_get h.2 hb
  rw [ha] at ha'
  cases ha'
  have := World.block_lt_of_cell? w _ hc
  rwa [add_block] at this
theorem bytesAt_stayX {M : Nat → Prop} {w w' : World} {s : Slc} {b : List UInt8} (h : bytesAt w s b) (he : Ext M w w') (hm : 0 < s.l → ∀ k, ownB s k → ¬ M k) : bytesAt w' s b := by
  rcases Nat.eq_zero_or_pos s.l with h0 | h0
  · have : b = [] := by have := h.1; rw [h0] at this; exact List.length_eq_zero_iff.1 this.symm
    subst this
    exact ⟨h.1, .inl rfl⟩
  · exact bytesAt_ext h he (hm h0)
theorem drew_heap (w : World) (k : Nat) : w.drew.heap[k]? = w.heap[k]? := rfl
theorem drew_size (w : World) : w.drew.heap.size = w.heap.size := rfl

abbrev ptrR' (r : Nat) : Value := .pointer (some ⟨r, 0, none⟩)
theorem rowAt_c {w : World} {a : Addr} {cs : List Value} (h : rowAt w a 0 cs) (j : Nat) (hj : j < cs.length) : w.cell? (a.add j) = some cs[j] := by
  have := rowAt_get h j hj
  rwa [Nat.zero_add] at this
end Go.D

set_option linter.unusedVariables false
set_option linter.unusedSimpArgs false
set_option maxRecDepth 4000
namespace Go.D
open Go Go.Proofs

/-! ### entries -/
structure OpS where
  kind : Int
  key : List UInt8
  val : List UInt8
  old : List UInt8
  ver : Int
structure EnS where
  kind : Int
  shard : Int
  other : Int
  server : Int
  client : Int
  seq : Int
  ops : List OpS
  key : List UInt8
  upto : Int
  part : Int
  parts : Int
  data : List UInt8
def opC (o : OpS) : List Value := [.int .i64 o.kind, strV o.key, strV o.val, strV o.old, .int .i64 o.ver]
def enC (e : EnS) (so sd : Slc) : List Value := [.int .i64 e.kind, .int .i64 e.shard, .int .i64 e.other, .int .i64 e.server, .int .i64 e.client, .int .i64 e.seq, so.v, strV e.key, .int .i64 e.upto, .int .i64 e.part, .int .i64 e.parts, sd.v]
def OpsAt (w : World) (s : Slc) (l : List OpS) : Prop := s.l = l.length ∧ s.l ≤ s.c ∧ ∀ i (h : i < l.length), ∃ a, s.p = some a ∧ rowAt w (a.add (i * 5)) 0 (opC l[i])
theorem OpsAt.ext {M : Nat → Prop} {w w' : World} {s : Slc} {l : List OpS} (h : OpsAt w s l) (he : Ext M w w') (hm : 0 < l.length → ∀ k, ownB s k → ¬ M k) : OpsAt w' s l :=
  ⟨h.1, h.2.1, fun i hi => let ⟨a, ha, hr⟩ := h.2.2 i hi; ⟨a, ha, rowAt_ext hr he (by rw [add_block]; exact hm (by omega) _ ⟨a, ha, rfl⟩)⟩⟩
theorem OpsAt.keep {w w' : World} {s : Slc} {l : List OpS} (h : OpsAt w s l) (he : Keep w w') : OpsAt w' s l := h.ext he (fun _ _ _ h => h)
structure EnAt (w : World) (e : EnS) (so sd : Slc) : Prop where
  o : OpsAt w so e.ops
  d : bytesAt w sd e.data
  c : sd.l ≤ sd.c
theorem EnAt.keep {w w' : World} {e : EnS} {so sd : Slc} (h : EnAt w e so sd) (k : Keep w w') : EnAt w' e so sd := ⟨h.o.keep k, bytesAt_keep h.d k, h.c⟩
/-- No more than is asked. -/
structure SmallE (e : EnS) : Prop where
  n : e.ops.length ≤ 20
  k : e.key.length ≤ 300
  d : e.data.length ≤ 600
  o : ∀ o ∈ e.ops, o.key.length ≤ 300 ∧ o.val.length ≤ 300 ∧ o.old.length ≤ 300

def uptoB (n m : Int) : Bool := decide (1 ≤ n) && decide (n ≤ m)
def keyOk (s : List UInt8) : Bool := (keyE s).isNone
def rightOp (o : OpS) : Bool := keyOk o.key && (if o.kind = 1 then decide (o.val.length ≤ 64) else if o.kind = 2 then true else if o.kind = 3 then decide (o.val.length ≤ 64) && decide (o.old.length ≤ 64) else if o.kind = 4 then decide (0 ≤ o.ver) && decide (o.ver ≤ 4096) else false)
def twoB (e : EnS) : Bool := uptoB e.shard 12 && (uptoB e.other 12 && decide (¬ e.shard = e.other))
def rightE (e : EnS) : Bool :=
  if e.kind = 1 then uptoB e.shard 12 && (uptoB e.client 4 && (uptoB e.seq 1073741824 && (uptoB (e.ops.length : Int) 8 && e.ops.all rightOp)))
  else if e.kind = 2 then uptoB e.shard 12 && uptoB e.server 4
  else if e.kind = 3 then twoB e && (uptoB e.server 4 && keyOk e.key)
  else if e.kind = 4 then twoB e
  else if e.kind = 5 then decide (0 ≤ e.shard) && (decide (e.shard ≤ 12) && (decide (0 ≤ e.upto) && (decide (e.upto ≤ 4096) && (uptoB e.parts 64 && (decide (0 ≤ e.part) && (decide (e.part < e.parts) && decide (e.data.length ≤ 256)))))))
  else false

theorem upto05_spec (n m : Int) (w : World) : Calls Tryd.prog fn_tidewaterref05_upto ⟨[.int .i64 n, .int .i64 m]⟩ w fun e w' => e = .returned (.bool (uptoB n m)) ∧ w' = w := by
  refine tidewaterref05_upto_ok _ _ ?_
  unfold tidewaterref05_upto uptoB
  refine BIf_dec (fun h => ⟨by rw [decide_eq_true h]; rfl, rfl⟩) (fun h => ⟨by rw [decide_eq_false h]; rfl, rfl⟩)
theorem keyN_zero (s : List UInt8) : decide (keyN s = 0) = keyOk s := by
  unfold keyN keyOk
  cases keyE s with
  | none => rfl
  | some k =>
    simp only [Option.isNone_some]
    exact decide_eq_false (by omega)
theorem key05_spec (s : List UInt8) (hl : s.length ≤ 2 ^ 20) (w : World) : Calls Tryd.prog fn_tidewaterref05_key ⟨[strV s]⟩ w fun e w' => e = .returned (.bool (keyOk s)) ∧ Keep w w' := by
  refine tidewaterref05_key_ok _ ?_
  unfold tidewaterref05_key
  refine (refKey_spec s hl w).mono ?_
  rintro e w3 ⟨rfl, k3⟩
  exact ⟨_, rfl, by rw [keyN_zero], k3⟩

theorem refRight05_spec (e : EnS) (so sd : Slc) (w : World) (h : EnAt w e so sd) (hs : SmallE e) :
    Calls Tryd.prog fn_tidewaterref05_Right ⟨[.agg ⟨enC e so sd⟩]⟩ w fun x w' => x = .returned (.bool (rightE e)) ∧ Keep w w' := by
  have hsl := h.o.1
  have hdl := h.d.1
  have hsn := hs.n
  refine tidewaterref05_Right_ok _ _ _ _ _ _ _ _ _ _ _ _ ?_
  unfold tidewaterref05_Right
  refine newS_mk (fun r w14 hr hb hk hs14 => ?_)
  have o : ObjAt w14 r (enC e so sd) := ObjAt.new' hb
  refine ⟨fun two w2 => w2 = w14 ∧ two = twoB e, ?_, ?_⟩
  · refine ⟨_, o.cell 1 (by simp [enC]), ?_⟩
    refine (upto05_spec _ _ w14).mono ?_
    rintro x w18 ⟨rfl, rfl⟩
    unfold twoB
    refine ⟨_, rfl, BIf_mk (fun h1 => ⟨_, o.cell 2 (by simp [enC]), ?_⟩) (fun h1 => ⟨rfl, by rw [h1]; rfl⟩)⟩
    refine (upto05_spec _ _ _).mono ?_
    rintro x w22 ⟨rfl, rfl⟩
    refine ⟨_, rfl, BIf_mk (fun h2 => ⟨_, o.cell 1 (by simp [enC]), _, o.cell 2 (by simp [enC]), rfl, by rw [h1, h2]; simp⟩) (fun h2 => ⟨rfl, by rw [h1, h2]; rfl⟩)⟩
  · rintro two w27 ⟨rfl, rfl⟩
    intros
    unfold rightE
    refine ⟨_, o.cell 0 (by simp [enC]), BIf_dec (fun h1 => ?_) (fun h1 => ?_)⟩
    · rw [if_pos h1]
      refine ⟨fun w2 => w2 = w27 ∧ (uptoB e.shard 12 && (uptoB e.client 4 && (uptoB e.seq 1073741824 && (uptoB (e.ops.length : Int) 8 && e.ops.all rightOp)))) = e.ops.all rightOp, ?_, ?_⟩
      · refine ⟨_, o.cell 1 (by simp [enC]), (upto05_spec _ _ _).mono ?_⟩
        rintro x w47 ⟨rfl, rfl⟩
        refine ⟨_, rfl, BIf_mk (fun h2 => ⟨by rw [show uptoB e.shard 12 = false by simpa using h2]; rfl, hk⟩) (fun h2 => ⟨_, o.cell 4 (by simp [enC]), (upto05_spec _ _ _).mono ?_⟩)⟩
        rintro x w51 ⟨rfl, rfl⟩
        refine ⟨_, rfl, BIf_mk (fun h3 => ⟨by rw [show uptoB e.client 4 = false by simpa using h3]; simp, hk⟩) (fun h3 => ⟨_, o.cell 5 (by simp [enC]), (upto05_spec _ _ _).mono ?_⟩)⟩
        rintro x w55 ⟨rfl, rfl⟩
        refine ⟨_, rfl, BIf_mk (fun h4 => ⟨by rw [show uptoB e.seq 1073741824 = false by simpa using h4]; simp, hk⟩) (fun h4 => ⟨_, o.cell 6 (by simp [enC]), (upto05_spec _ _ _).mono ?_⟩)⟩
        rintro x w59 ⟨rfl, rfl⟩
        rw [hsl]
        refine ⟨_, rfl, BIf_mk (fun h5 => ⟨by rw [show uptoB (e.ops.length : Int) 8 = false by simpa using h5]; simp, hk⟩) (fun h5 => ⟨rfl, ?_⟩)⟩
        rw [show uptoB e.shard 12 = true by simpa using h2, show uptoB e.client 4 = true by simpa using h3, show uptoB e.seq 1073741824 = true by simpa using h4, show uptoB (e.ops.length : Int) 8 = true by simpa using h5]
        rfl
      · rintro w61 ⟨rfl, hall⟩
        intros
        rw [hall]
        refine ⟨_, o.cell 6 (by simp [enC]), fun i w2 => ∃ k : Nat, i = k ∧ k ≤ e.ops.length ∧ Keep w61 w2 ∧ (e.ops.take k).all rightOp = true, fun i _ => ((e.ops.length : Int) - i).toNat, ⟨0, rfl, by omega, Ext.refl _ _, by simp⟩, ?_⟩
        rintro i w90 ⟨k, rfl, hkk, k90, hak⟩
        intros
        have kw := hk.trans k90
        refine BIf_dec (fun h2 => ?_) (fun h2 => ?_)
        · have hkl : k < e.ops.length := by omega
          obtain ⟨a, ha, hrow⟩ := (h.o.keep kw).2.2 k hkl
          have hsm := hs.o _ (List.getElem_mem hkl)
          have hmem : e.ops[k] ∈ e.ops := List.getElem_mem hkl
          have hnext : rightOp e.ops[k] = true → (e.ops.take (k + 1)).all rightOp = true := fun hh => by
            rw [List.take_succ_eq_append_getElem hkl, List.all_append, hak]; simp [hh]
          have hbad : rightOp e.ops[k] = false → e.ops.all rightOp = false := fun hh => List.all_eq_false.2 ⟨_, hmem, by rw [hh]; simp⟩
          generalize hop : e.ops[k] = op at *
          refine needSome_mk ha ⟨by omega, h2, _, _, _, _, _, by rw [Int.toNat_natCast]; exact hrow, ?_⟩
          refine var_mk (cs := opC op) rfl rfl (fun r150 w152 hr150 o150 k150 hs150 => ?_)
          refine ⟨_, o150.cell 1 (by simp [opC]), (key05_spec _ (by omega) w152).mono ?_⟩
          rintro x w155 ⟨rfl, k155⟩
          have k155' := (k90.trans k150).trans k155
          have kw155 := hk.trans k155'
          have o155 := o150.keep k155
          have bad : rightOp op = false → (Ending.returned (Value.bool false) = .returned (.bool (e.ops.all rightOp)) ∧ Keep w w155) := fun hh => ⟨by rw [hbad hh], kw155⟩
          have good : rightOp op = true → inR .i64 ((k : Int) + 1) ∧ (∃ k2 : Nat, ((k : Int) + 1) = k2 ∧ k2 ≤ e.ops.length ∧ Keep w61 w155 ∧ (e.ops.take k2).all rightOp = true) ∧ ((e.ops.length : Int) - ((k : Int) + 1)).toNat < ((e.ops.length : Int) - (k : Int)).toNat :=
            fun hh => ⟨inR64 (by omega), ⟨k + 1, rfl, hkl, k155', hnext hh⟩, by omega⟩
          unfold rightOp at bad good
          refine ⟨_, rfl, _, o155.cell 0 (by simp [opC]), BIf_dec (fun h3 => ?_) (fun h3 => BIf_dec (fun h4 => ?_) (fun h4 => BIf_dec (fun h5 => ?_) (fun h5 => BIf_dec (fun h6 => ?_) (fun h6 => ?_))))⟩
          · rw [if_pos h3] at bad good
            refine BIf_mk (fun h7 => ⟨_, o155.cell 2 (by simp [opC]), BIf_ndec (fun h8 => bad (by rw [h7]; simp; omega)) (fun h8 => good (by rw [h7]; simp; omega))⟩) (fun h7 => bad (by rw [h7]; rfl))
          · rw [if_neg h3, if_pos h4] at bad good
            refine BIf_mk (fun h7 => bad (by rw [show keyOk op.key = false by simpa using h7]; rfl)) (fun h7 => good (by rw [show keyOk op.key = true by simpa using h7]; rfl))
          · rw [if_neg h3, if_neg h4, if_pos h5] at bad good
            refine BIf_mk (fun h7 => ⟨_, o155.cell 2 (by simp [opC]), BIf_dec (fun h8 => ⟨_, o155.cell 3 (by simp [opC]), BIf_ndec (fun h9 => bad (by rw [h7]; simp; omega)) (fun h9 => good (by rw [h7]; simp; omega))⟩) (fun h8 => bad (by rw [h7]; simp; omega))⟩) (fun h7 => bad (by rw [h7]; rfl))
          · rw [if_neg h3, if_neg h4, if_neg h5, if_pos h6] at bad good
            refine BIf_mk (fun h7 => ⟨_, o155.cell 4 (by simp [opC]), BIf_dec (fun h8 => ⟨_, o155.cell 4 (by simp [opC]), BIf_ndec (fun h9 => bad (by rw [h7]; simp; omega)) (fun h9 => good (by rw [h7]; simp; omega))⟩) (fun h8 => bad (by rw [h7]; simp; omega))⟩) (fun h7 => bad (by rw [h7]; rfl))
          · rw [if_neg h3, if_neg h4, if_neg h5, if_neg h6] at bad
            exact bad (by simp)
        · rw [List.take_of_length_le (by omega)] at hak
          exact ⟨by rw [hak], kw⟩
    rw [if_neg h1]
    refine BIf_dec (fun h2 => ?_) (fun h2 => ?_)
    · rw [if_pos h2]
      refine ⟨_, o.cell 1 (by simp [enC]), (upto05_spec _ _ _).mono ?_⟩
      rintro x w165 ⟨rfl, rfl⟩
      refine ⟨_, rfl, BIf_mk (fun h3 => ⟨_, o.cell 3 (by simp [enC]), (upto05_spec _ _ _).mono ?_⟩) (fun h3 => ⟨by rw [h3]; rfl, hk⟩)⟩
      rintro x w169 ⟨rfl, rfl⟩
      exact ⟨_, rfl, by rw [h3]; rfl, hk⟩
    rw [if_neg h2]
    refine BIf_dec (fun h3 => ?_) (fun h3 => ?_)
    · rw [if_pos h3]
      refine BIf_mk (fun h4 => ⟨_, o.cell 3 (by simp [enC]), (upto05_spec _ _ _).mono ?_⟩) (fun h4 => ⟨by rw [h4]; rfl, hk⟩)
      rintro x w173 ⟨rfl, rfl⟩
      refine ⟨_, rfl, BIf_mk (fun h5 => ⟨_, o.cell 7 (by simp [enC]), (key05_spec _ (by have := hs.k; omega) _).mono ?_⟩) (fun h5 => ⟨by rw [h4, h5]; rfl, hk⟩)⟩
      rintro x w177 ⟨rfl, k177⟩
      exact ⟨_, rfl, by rw [h4, h5]; rfl, hk.trans k177⟩
    rw [if_neg h3]
    refine BIf_dec (fun h4 => ⟨by rw [if_pos h4], hk⟩) (fun h4 => ?_)
    rw [if_neg h4]
    refine BIf_dec (fun h5 => ?_) (fun h5 => ⟨by rw [if_neg h5], hk⟩)
    rw [if_pos h5]
    refine ⟨_, o.cell 1 (by simp [enC]), BIf_dec (fun g1 => ⟨_, o.cell 1 (by simp [enC]), BIf_dec (fun g2 => ⟨_, o.cell 8 (by simp [enC]), BIf_dec (fun g3 => ⟨_, o.cell 8 (by simp [enC]), BIf_dec (fun g4 => ⟨_, o.cell 10 (by simp [enC]), (upto05_spec _ _ _).mono ?_⟩) (fun g4 => ⟨by rw [decide_eq_false g4]; simp, hk⟩)⟩) (fun g3 => ⟨by rw [decide_eq_false g3]; simp, hk⟩)⟩) (fun g2 => ⟨by rw [decide_eq_false g2]; simp, hk⟩)⟩) (fun g1 => ⟨by rw [decide_eq_false g1]; simp, hk⟩)⟩
    rintro x w185 ⟨rfl, rfl⟩
    rw [decide_eq_true g1, decide_eq_true g2, decide_eq_true g3, decide_eq_true g4]
    refine ⟨_, rfl, BIf_mk (fun g5 => ⟨_, o.cell 9 (by simp [enC]), BIf_dec (fun g6 => ⟨_, o.cell 9 (by simp [enC]), _, o.cell 10 (by simp [enC]), BIf_dec (fun g7 => ⟨_, o.cell 11 (by simp [enC]), ?_, hk⟩) (fun g7 => ⟨by rw [decide_eq_false g7]; simp, hk⟩)⟩) (fun g6 => ⟨by rw [decide_eq_false g6]; simp, hk⟩)⟩) (fun g5 => ⟨by rw [g5]; simp, hk⟩)⟩
    rw [g5, decide_eq_true g6, decide_eq_true g7]
    have : decide (((sd.l : Nat) : Int) ≤ 256) = decide (e.data.length ≤ 256) := decide_eq_decide.2 (by omega)
    rw [this]; rfl
end Go.D

set_option linter.unusedVariables false
set_option linter.unusedSimpArgs false
set_option maxRecDepth 4000
namespace Go.D
open Go Go.Proofs

/-! ### a right entry's bytes -/
def numB (n : Int) : List UInt8 := encN n.toNat
def textB (t : List UInt8) : List UInt8 := encN t.length ++ t
def bytesOp (o : OpS) : List UInt8 := numB o.kind ++ textB o.key ++ (if o.kind = 3 then textB o.old else []) ++ (if o.kind = 1 ∨ o.kind = 3 then textB o.val else []) ++ (if o.kind = 4 then numB o.ver else [])
def headE (e : EnS) : List Int := [e.kind, e.shard] ++ (if e.kind = 1 then [e.client, e.seq, (e.ops.length : Int)] else if e.kind = 2 then [e.server] else if e.kind = 3 then [e.other, e.server] else if e.kind = 4 then [e.other] else if e.kind = 5 then [e.upto, e.parts, e.part] else [])
def tailE (e : EnS) : List UInt8 := if e.kind = 1 then e.ops.flatMap bytesOp else if e.kind = 3 then textB e.key else if e.kind = 5 then textB e.data else []
def bytesE (e : EnS) : List UInt8 := (headE e).flatMap numB ++ tailE e

theorem uptoB_iff {n m : Int} : uptoB n m = true ↔ 1 ≤ n ∧ n ≤ m := by unfold uptoB; simp
theorem twoB_iff {e : EnS} : twoB e = true ↔ (1 ≤ e.shard ∧ e.shard ≤ 12) ∧ (1 ≤ e.other ∧ e.other ≤ 12) ∧ ¬ e.shard = e.other := by
  unfold twoB
  simp only [Bool.and_eq_true, uptoB_iff, decide_eq_true_eq]
/-- What a right entry is. -/
theorem right_cases {e : EnS} (h : rightE e = true) :
    (e.kind = 1 ∧ (1 ≤ e.shard ∧ e.shard ≤ 12) ∧ (1 ≤ e.client ∧ e.client ≤ 4) ∧ (1 ≤ e.seq ∧ e.seq ≤ 1073741824) ∧ (1 ≤ (e.ops.length : Int) ∧ (e.ops.length : Int) ≤ 8) ∧ ∀ o ∈ e.ops, rightOp o = true) ∨
    (e.kind = 2 ∧ (1 ≤ e.shard ∧ e.shard ≤ 12) ∧ (1 ≤ e.server ∧ e.server ≤ 4)) ∨
    (e.kind = 3 ∧ ((1 ≤ e.shard ∧ e.shard ≤ 12) ∧ (1 ≤ e.other ∧ e.other ≤ 12) ∧ ¬ e.shard = e.other) ∧ (1 ≤ e.server ∧ e.server ≤ 4) ∧ keyOk e.key = true) ∨
    (e.kind = 4 ∧ ((1 ≤ e.shard ∧ e.shard ≤ 12) ∧ (1 ≤ e.other ∧ e.other ≤ 12) ∧ ¬ e.shard = e.other)) ∨
    (e.kind = 5 ∧ (0 ≤ e.shard ∧ e.shard ≤ 12) ∧ (0 ≤ e.upto ∧ e.upto ≤ 4096) ∧ (1 ≤ e.parts ∧ e.parts ≤ 64) ∧ (0 ≤ e.part ∧ e.part < e.parts) ∧ e.data.length ≤ 256) := by
  unfold rightE at h
  by_cases h1 : e.kind = 1
  · rw [if_pos h1] at h
    simp only [Bool.and_eq_true, uptoB_iff, List.all_eq_true] at h
    exact .inl ⟨h1, h.1, h.2.1, h.2.2.1, h.2.2.2.1, h.2.2.2.2⟩
  rw [if_neg h1] at h
  by_cases h2 : e.kind = 2
  · rw [if_pos h2] at h
    simp only [Bool.and_eq_true, uptoB_iff] at h
    exact .inr (.inl ⟨h2, h.1, h.2⟩)
  rw [if_neg h2] at h
  by_cases h3 : e.kind = 3
  · rw [if_pos h3] at h
    simp only [Bool.and_eq_true, uptoB_iff, twoB_iff] at h
    exact .inr (.inr (.inl ⟨h3, h.1, h.2.1, h.2.2⟩))
  rw [if_neg h3] at h
  by_cases h4 : e.kind = 4
  · rw [if_pos h4] at h
    exact .inr (.inr (.inr (.inl ⟨h4, twoB_iff.1 h⟩)))
  rw [if_neg h4] at h
  by_cases h5 : e.kind = 5
  · rw [if_pos h5] at h
    simp only [Bool.and_eq_true, uptoB_iff, decide_eq_true_eq] at h
    exact .inr (.inr (.inr (.inr ⟨h5, ⟨h.1, h.2.1⟩, ⟨h.2.2.1, h.2.2.2.1⟩, h.2.2.2.2.1, ⟨h.2.2.2.2.2.1, h.2.2.2.2.2.2.1⟩, h.2.2.2.2.2.2.2⟩)))
  · rw [if_neg h5] at h; cases h
theorem rightOp_cases {o : OpS} (h : rightOp o = true) : keyOk o.key = true ∧
    ((o.kind = 1 ∧ o.val.length ≤ 64) ∨ o.kind = 2 ∨ (o.kind = 3 ∧ o.val.length ≤ 64 ∧ o.old.length ≤ 64) ∨ (o.kind = 4 ∧ 0 ≤ o.ver ∧ o.ver ≤ 4096)) := by
  unfold rightOp at h
  rw [Bool.and_eq_true] at h
  refine ⟨h.1, ?_⟩
  have h := h.2
  by_cases h1 : o.kind = 1
  · rw [if_pos h1, decide_eq_true_eq] at h; exact .inl ⟨h1, h⟩
  rw [if_neg h1] at h
  by_cases h2 : o.kind = 2
  · exact .inr (.inl h2)
  rw [if_neg h2] at h
  by_cases h3 : o.kind = 3
  · rw [if_pos h3] at h
    simp only [Bool.and_eq_true, decide_eq_true_eq] at h
    exact .inr (.inr (.inl ⟨h3, h⟩))
  rw [if_neg h3] at h
  by_cases h4 : o.kind = 4
  · rw [if_pos h4] at h
    simp only [Bool.and_eq_true, decide_eq_true_eq] at h
    exact .inr (.inr (.inr ⟨h4, h⟩))
  · rw [if_neg h4] at h; cases h
theorem head_ok {e : EnS} (h : rightE e = true) : (headE e).length ≤ 5 ∧ ∀ n ∈ headE e, 0 ≤ n ∧ n ≤ 2 ^ 40 := by
  unfold headE
  rcases right_cases h with ⟨k, h1, h2, h3, h4, _⟩ | ⟨k, h1, h2⟩ | ⟨k, h1, h2, _⟩ | ⟨k, h1⟩ | ⟨k, h1, h2, h3, h4, _⟩ <;> rw [k]
  · refine ⟨by simp, fun n hn => ?_⟩
    simp at hn
    rcases hn with rfl | rfl | rfl | rfl | rfl <;> omega
  · refine ⟨by simp, fun n hn => ?_⟩
    simp at hn
    rcases hn with rfl | rfl | rfl <;> omega
  · refine ⟨by simp, fun n hn => ?_⟩
    simp at hn
    rcases hn with rfl | rfl | rfl | rfl <;> omega
  · refine ⟨by simp, fun n hn => ?_⟩
    simp at hn
    rcases hn with rfl | rfl | rfl <;> omega
  · refine ⟨by simp, fun n hn => ?_⟩
    simp at hn
    rcases hn with rfl | rfl | rfl | rfl | rfl <;> omega
theorem numB_len (n : Int) (h : n ≤ 2 ^ 40) : (numB n).length ≤ 6 := encN_len n.toNat 5 (by omega)
theorem textB_len (t : List UInt8) (h : t.length ≤ 2 ^ 20) : (textB t).length ≤ 6 + t.length := by
  have := encN_len t.length 5 (by omega)
  unfold textB; rw [List.length_append]; omega
theorem heads_len : ∀ (l : List Int), (∀ n ∈ l, n ≤ 2 ^ 40) → (l.flatMap numB).length ≤ 6 * l.length
  | [], _ => by simp
  | n :: l, h => by
    have h1 := heads_len l (fun n hn => h n (by simp [hn]))
    have h2 := numB_len n (h n (by simp))
    simp at h1 ⊢; omega
theorem bytesOp_len {o : OpS} (h : o.key.length ≤ 300 ∧ o.val.length ≤ 300 ∧ o.old.length ≤ 300) (hk : o.kind ≤ 2 ^ 40) (hv : o.ver ≤ 2 ^ 40) : (bytesOp o).length ≤ 1000 := by
  have h1 := numB_len o.kind hk
  have h2 := numB_len o.ver hv
  have h3 := textB_len o.key (by omega)
  have h4 := textB_len o.val (by omega)
  have h5 := textB_len o.old (by omega)
  unfold bytesOp
  simp only [List.length_append]
  split <;> split <;> split <;> (try simp only [List.length_nil]) <;> omega

/-! ### bytes behind bytes -/
theorem own_blen {w : World} {s : Slc} {b : List UInt8} (h : Own w s 1 (b.map byteV)) : s.l = b.length := by have := h.1; simpa using this
/-- What an appending keeps. -/
structure Added (w0 w w' : World) (out s' : Slc) (b : List UInt8) : Prop where
  own : Own w' s' 1 (b.map byteV)
  fr : Fresh w0 s'
  k : Keep w0 w'
  x : Ext (ownB out) w w'
  n : ∀ r, r < w.heap.size → ¬ ownB out r → ¬ ownB s' r
theorem addSlc {E : TypeId} {w0 w : World} {out s : Slc} {b c : List UInt8} {K : Slc → World → Prop} (ho : Own w out 1 (b.map byteV)) (hf : Fresh w0 out) (hk : Keep w0 w) (hs : bytesAt w s c) (hb : b.length + c.length ≤ 2 ^ 29)
    (h : ∀ s' w', Added w0 w w' out s' (b ++ c) → K s' w') : appendS 1 E [.int .u8 0] w out (.slc s) K := by
  have h1 := own_blen ho
  have h2 := hs.1
  exact append_bytes2 (w0 := w0) ho rfl hf hk (srcAt_bytes hs) (by simp only [Src.n]; omega) (fun s' w' g1 g2 g3 g4 g5 => h s' w' ⟨g1, g3, g2, g4, fun r hr hn hh => (g5 r hh).elim hn (fun h => by omega)⟩)
theorem addNum {E : TypeId} {w0 w : World} {out : Slc} {b : List UInt8} {n : Int} {K : Slc → World → Prop} (hn : 0 ≤ n ∧ n ≤ 2 ^ 40) (ho : Own w out 1 (b.map byteV)) (hf : Fresh w0 out) (hk : Keep w0 w) (hb : b.length ≤ 2 ^ 20)
    (h : ∀ s' w', Added w0 w w' out s' (b ++ numB n) → K s' w') :
    Calls Tryd.prog fn_tidewaterref04_Num ⟨[.int .i64 n]⟩ w fun e w2 => ∃ s : Slc, e = .returned s.v ∧ appendS 1 E [.int .u8 0] w2 out (.slc s) K := by
  refine (ref04_Num_specZ n.toNat n w (by omega) (by omega)).mono ?_
  rintro e w2 ⟨s, rfl, hs, fs, ks⟩
  have hl := numB_len n hn.2
  refine ⟨s, rfl, addSlc (ho.keep ks) hf (hk.trans ks) hs.bytes (by unfold numB at hl; omega) (fun s' w' g => h s' w' ⟨g.own, g.fr, g.k, Ext.trans ks g.x (fun _ h => h.elim) (fun _ h => .inl h), fun r hr hn => g.n r (by have := ks.size; omega) hn⟩)⟩
theorem addText {E : TypeId} {w0 w : World} {out : Slc} {b : List UInt8} {t : List UInt8} {K : Slc → World → Prop} (ht : t.length ≤ 2 ^ 19) (ho : Own w out 1 (b.map byteV)) (hf : Fresh w0 out) (hk : Keep w0 w) (hb : b.length ≤ 2 ^ 20)
    (h : ∀ s' w', Added w0 w w' out s' (b ++ textB t) → K s' w') :
    Calls Tryd.prog fn_tidewaterref04_Text ⟨[strV t]⟩ w fun e w2 => ∃ s : Slc, e = .returned s.v ∧ appendS 1 E [.int .u8 0] w2 out (.slc s) K := by
  refine (ref04_Text_spec t w (by omega)).mono ?_
  rintro e w2 ⟨s, rfl, hs, fs, ks⟩
  have hl := textB_len t (by omega)
  refine ⟨s, rfl, addSlc (ho.keep ks) hf (hk.trans ks) hs.bytes (by unfold textB at hl; omega) (fun s' w' g => h s' w' ⟨g.own, g.fr, g.k, Ext.trans ks g.x (fun _ h => h.elim) (fun _ h => .inl h), fun r hr hn => g.n r (by have := ks.size; omega) hn⟩)⟩

theorem refBytes05_spec (e : EnS) (so sd : Slc) (w : World) (h : EnAt w e so sd) (hs : SmallE e) (hr : rightE e = true) :
    Calls Tryd.prog fn_tidewaterref05_Bytes ⟨[.agg ⟨enC e so sd⟩]⟩ w fun x w' => ∃ t : Slc, x = .returned t.v ∧ Own w' t 1 ((bytesE e).map byteV) ∧ Fresh w t ∧ Keep w w' := by
  have hsl := h.o.1
  have hsn := hs.n
  refine tidewaterref05_Bytes_ok _ _ _ _ _ _ _ _ _ _ _ _ ?_
  unfold tidewaterref05_Bytes
  refine newS_mk (fun r w14 hrr hb hk hs14 => ?_)
  have o : ObjAt w14 r (enC e so sd) := ObjAt.new' hb
  refine ⟨_, o.cell 0 (by simp [enC]), _, o.cell 1 (by simp [enC]), newS_mk (fun r17 w18 hr17 hb17 k17 hs17 => ?_)⟩
  have o18 := o.keep k17
  have z14 := hk.size
  have z17 := k17.size
  have hf17 : ∀ j, ownB ⟨some ⟨r17, 0, none⟩, 2, 2⟩ j → j = r17 := by rintro j ⟨a, ha, rfl⟩; cases ha; rfl
  have k18 := hk.trans k17
  refine ⟨fun l w2 => Own w2 l 1 ((headE e).map intV) ∧ Keep w w2 ∧ Keep w14 w2, ?_, ?_⟩
  · have app : ∀ (l2 : List Int) {T E : TypeId}, headE e = [e.kind, e.shard] ++ l2 → l2.length ≤ 10 → newS w18 (.cells ⟨l2.map intV⟩ T) fun r wx => appendS 1 E [.int .i64 0] wx (⟨some ⟨r17, 0, none⟩, 2, 2⟩ : Slc) (.slc ⟨some ⟨r, 0, none⟩, l2.length, l2.length⟩) fun l w2 => Own w2 l 1 ((headE e).map intV) ∧ Keep w w2 ∧ Keep w14 w2 := by
      intro l2 T E hh hl2
      refine newS_mk (fun r47 w48 hr47 hb47 k47 hs47 => ?_)
      have o17 : Own w48 ⟨some ⟨r17, 0, none⟩, 2, 2⟩ 1 (([e.kind, e.shard] : List Int).map intV) := Own.keep (Own.new (sz := 1) (n := 2) hb17 (.inl (by simp)) rfl) k47
      have o47 : Own w48 ⟨some ⟨r47, 0, none⟩, l2.length, l2.length⟩ 1 (l2.map intV) := Own.new (sz := 1) (n := l2.length) hb47 (.inl (by simp)) (by simp)
      refine appendS_own o17 (by omega) rfl (srcAt_slc o47.cells (by simp)) (one_ints _) (by simp only [Src.n]; omega) (fun s' w' g1 g2 g3 g4 => ?_)
      refine ⟨by rw [hh]; simpa using g1, (k18.trans k47).ext g2 (fun j hj => by rw [hf17 j hj]; omega), (k17.trans k47).ext g2 (fun j hj => by rw [hf17 j hj]; omega)⟩
    refine ⟨_, o18.cell 0 (by simp [enC]), BIf_dec (fun h1 => ?_) (fun h1 => BIf_dec (fun h2 => ?_) (fun h2 => BIf_dec (fun h3 => ?_) (fun h3 => BIf_dec (fun h4 => ?_) (fun h4 => BIf_dec (fun h5 => ?_) (fun h5 => ?_)))))⟩
    · refine ⟨_, o18.cell 4 (by simp [enC]), _, o18.cell 5 (by simp [enC]), so, o18.cell 6 (by simp [enC]), ?_⟩
      rw [hsl]
      exact app [e.client, e.seq, (e.ops.length : Int)] (by unfold headE; rw [if_pos h1]) (by simp)
    · exact ⟨_, o18.cell 3 (by simp [enC]), app [e.server] (by unfold headE; rw [if_neg h1, if_pos h2]) (by simp)⟩
    · exact ⟨_, o18.cell 2 (by simp [enC]), _, o18.cell 3 (by simp [enC]), app [e.other, e.server] (by unfold headE; rw [if_neg h1, if_neg h2, if_pos h3]) (by simp)⟩
    · exact ⟨_, o18.cell 2 (by simp [enC]), app [e.other] (by unfold headE; rw [if_neg h1, if_neg h2, if_neg h3, if_pos h4]) (by simp)⟩
    · exact ⟨_, o18.cell 8 (by simp [enC]), _, o18.cell 10 (by simp [enC]), _, o18.cell 9 (by simp [enC]), app [e.upto, e.parts, e.part] (by unfold headE; rw [if_neg h1, if_neg h2, if_neg h3, if_neg h4, if_pos h5]) (by simp)⟩
    · rcases right_cases hr with ⟨k, _⟩ | ⟨k, _⟩ | ⟨k, _⟩ | ⟨k, _⟩ | ⟨k, _⟩
      · exact (h1 k).elim
      · exact (h2 k).elim
      · exact (h3 k).elim
      · exact (h4 k).elim
      · exact (h5 k).elim
  · rintro l51 w52 ⟨hl51, k52, k1452⟩
    intros
    obtain ⟨hh5, hin⟩ := head_ok hr
    have hll : l51.l = (headE e).length := by have := hl51.1; simpa using this
    have o52 := o.keep k1452
    refine newS_mk (fun r101 w102 hr101 hb101 k101 hs101 => ?_)
    have z52 := k52.size
    refine ⟨fun out i w2 => ∃ k : Nat, i = k ∧ k ≤ (headE e).length ∧ Own w2 out 1 ((((headE e).take k).flatMap numB).map byteV) ∧ Fresh w52 out ∧ Keep w52 w2, fun _ i _ => (((headE e).length : Int) - i).toNat,
      ⟨0, rfl, by omega, Own.new (sz := 1) (n := 0) hb101 (.inl (by simp)) rfl, Fresh.at (by omega), k101⟩, ?_⟩
    rintro out i w107 ⟨k, rfl, hk5, ho, hf, k107⟩
    intros
    have hole := heads_len ((headE e).take k) (fun n hn => (hin n (List.mem_of_mem_take hn)).2)
    have htk : ((headE e).take k).length ≤ 5 := by rw [List.length_take]; omega
    have hl51' := hl51.keep k107
    have o107 := o52.keep k107
    refine BIf_dec (fun h6 => ?_) (fun h6 => ?_)
    · have hk4 : k < (headE e).length := by omega
      obtain ⟨a, ha, hc⟩ := intsAt_cell hl51'.ints hk4
      refine needSome_mk ha ⟨by omega, by omega, _, by rw [show Int.toNat (k : Int) * 1 = k by omega]; exact hc, ?_⟩
      refine addNum (hin _ (List.getElem_mem hk4)) ho hf k107 (by omega) (fun s' w' g => ?_)
      refine ⟨inR64 (by omega), ⟨k + 1, rfl, hk4, ?_, g.fr, g.k⟩, by first | (dsimp only; omega) | omega⟩
      rw [List.take_succ_eq_append_getElem hk4, List.flatMap_append]
      simpa using g.own
    · have hkn : k = (headE e).length := by omega
      subst hkn
      rw [List.take_length] at ho hole
      generalize hH : (headE e).flatMap numB = H at ho hole
      have ret : ∀ {s' : Slc} {w' : World} {b : List UInt8}, Own w' s' 1 ((H ++ b).map byteV) → Fresh w52 s' → Keep w52 w' → b = tailE e → ∃ t : Slc, Ending.returned s'.v = .returned t.v ∧ Own w' t 1 ((bytesE e).map byteV) ∧ Fresh w t ∧ Keep w w' := by
        intro s' w' b g1 g2 g3 hb
        refine ⟨s', rfl, ?_, fun j hj => by have := g2 j hj; omega, k52.trans g3⟩
        unfold bytesE
        rw [hH, ← hb]; exact g1
      have hd107 := bytesAt_keep h.d (k52.trans k107)
      refine ⟨_, o107.cell 0 (by simp [enC]), BIf_dec (fun h1 => ?_) (fun h1 => BIf_dec (fun h3 => ?_) (fun h3 => BIf_dec (fun h5 => ?_) (fun h5 => ?_)))⟩
      · -- the operations
        have hrops : ∀ o ∈ e.ops, rightOp o = true := by
          rcases right_cases hr with ⟨k, _, _, _, _, hh⟩ | ⟨k, _⟩ | ⟨k, _⟩ | ⟨k, _⟩ | ⟨k, _⟩
          · exact hh
          all_goals omega
        refine ⟨so, o107.cell 6 (by simp [enC]), ?_⟩
        refine ⟨fun out i w2 => ∃ k : Nat, i = k ∧ k ≤ e.ops.length ∧ Own w2 out 1 ((H ++ (e.ops.take k).flatMap bytesOp).map byteV) ∧ Fresh w52 out ∧ Keep w52 w2 ∧ ((e.ops.take k).flatMap bytesOp).length ≤ 1000 * k, fun _ i _ => ((e.ops.length : Int) - i).toNat,
          ⟨0, rfl, by omega, by simpa using ho, hf, k107, by simp⟩, ?_⟩
        rintro out i w130 ⟨k, rfl, hk5, ho, hf, k130, hbl⟩
        intros
        refine BIf_dec (fun h7 => ?_) (fun h7 => ?_)
        · have hkl : k < e.ops.length := by omega
          obtain ⟨a, ha, hrow⟩ := (h.o.keep (k52.trans k130)).2.2 k hkl
          have hsm := hs.o _ (List.getElem_mem hkl)
          have hro := hrops _ (List.getElem_mem hkl)
          obtain ⟨_, hkind⟩ := rightOp_cases hro
          have hsp : (e.ops.take (k + 1)).flatMap bytesOp = (e.ops.take k).flatMap bytesOp ++ bytesOp e.ops[k] := by
            rw [List.take_succ_eq_append_getElem hkl, List.flatMap_append]; simp
          generalize hop : e.ops[k] = op at *
          have hk14 : 1 ≤ op.kind ∧ op.kind ≤ 4 := by rcases hkind with ⟨h, _⟩ | h | ⟨h, _⟩ | ⟨h, _⟩ <;> omega
          generalize hB : H ++ (e.ops.take k).flatMap bytesOp = B at ho
          have hBl : B.length ≤ 30 + 1000 * 20 := by rw [← hB, List.length_append]; omega
          refine needSome_mk ha ⟨by omega, h7, _, _, _, _, _, by rw [Int.toNat_natCast]; exact hrow, ?_⟩
          refine var_mk (cs := opC op) rfl rfl (fun r181 w183 hr181 o181 k183 hs181 => ?_)
          have hn0 : ¬ ownB out r181 := fun hh => by have := OwnLt ho _ hh; omega
          have k52183 := k130.trans k183
          refine ⟨_, o181.cell 0 (by simp [opC]), addNum (by omega) (ho.keep k183) hf k52183 (by omega) (fun s188 w189 g1 => ?_)⟩
          have o189 := o181.ext g1.x hn0
          have hn1 := g1.n r181 o181.lt hn0
          have l1 := numB_len op.kind (by omega)
          refine ⟨_, o189.cell 1 (by simp [opC]), addText (by omega) g1.own g1.fr g1.k (by rw [List.length_append]; omega) (fun s194 w195 g2 => ?_)⟩
          have o195 := o189.ext g2.x hn1
          have hn2 := g2.n r181 o189.lt hn1
          have l2 := textB_len op.key (by omega)
          -- what has an old value
          refine ⟨fun out w2 => Own w2 out 1 ((B ++ numB op.kind ++ textB op.key ++ (if op.kind = 3 then textB op.old else [])).map byteV) ∧ Fresh w52 out ∧ Keep w52 w2 ∧ ObjAt w2 r181 (opC op) ∧ ¬ ownB out r181, ?_, ?_⟩
          · refine ⟨_, o195.cell 0 (by simp [opC]), BIf_dec (fun h8 => ?_) (fun h8 => ⟨?_, g2.fr, g2.k, o195, hn2⟩)⟩
            · refine ⟨_, o195.cell 3 (by simp [opC]), addText (by omega) g2.own g2.fr g2.k (by simp only [List.length_append]; omega) (fun s202 w203 g3 => ?_)⟩
              exact ⟨by rw [if_pos h8]; exact g3.own, g3.fr, g3.k, o195.ext g3.x hn2, g3.n r181 o195.lt hn2⟩
            · rw [if_neg h8, List.append_nil]; exact g2.own
          rintro out204 w205 ⟨h204, f204, k205, o205, hn3⟩
          intros
          have l3 : (B ++ numB op.kind ++ textB op.key ++ (if op.kind = 3 then textB op.old else [])).length ≤ 30 + 1000 * 20 + 700 := by
            have := textB_len op.old (by omega)
            simp only [List.length_append]
            split <;> (try simp only [List.length_nil]) <;> omega
          -- the next operation
          have next : ∀ {s' : Slc} {w' : World} {b : List UInt8}, Own w' s' 1 (b.map byteV) → Fresh w52 s' → Keep w52 w' → b = B ++ bytesOp op → (bytesOp op).length ≤ 1000 →
              inR .i64 ((k : Int) + 1) ∧ (∃ k2 : Nat, ((k : Int) + 1) = k2 ∧ k2 ≤ e.ops.length ∧ Own w' s' 1 ((H ++ (e.ops.take k2).flatMap bytesOp).map byteV) ∧ Fresh w52 s' ∧ Keep w52 w' ∧ ((e.ops.take k2).flatMap bytesOp).length ≤ 1000 * k2) ∧ ((e.ops.length : Int) - ((k : Int) + 1)).toNat < ((e.ops.length : Int) - (k : Int)).toNat := by
            intro s' w' b q1 q2 q3 q4 q5
            refine ⟨inR64 (by omega), ⟨k + 1, rfl, hkl, ?_, q2, q3, by rw [hsp, List.length_append]; omega⟩, by omega⟩
            rw [hsp, ← List.append_assoc, hB, ← q4]; exact q1
          have lv := textB_len op.val (by omega)
          have lo := textB_len op.old (by omega)
          refine ⟨_, o205.cell 0 (by simp [opC]), BIf_dec (fun h8 => ?_) (fun h8 => ?_)⟩
          · refine ⟨_, o205.cell 2 (by simp [opC]), addText (by omega) h204 f204 k205 (by omega) (fun s219 w220 g4 => ?_)⟩
            have o220 := o205.ext g4.x hn3
            refine ⟨_, o220.cell 0 (by simp [opC]), BIf_dec (fun h9 => absurd (h8.symm.trans h9) (by omega)) (fun h9 => next g4.own g4.fr g4.k ?_ ?_)⟩
            · unfold bytesOp; rw [h8]; simp
            · unfold bytesOp; rw [h8]; simp at l1 ⊢; rw [h8] at l1; omega
          · refine ⟨_, o205.cell 0 (by simp [opC]), BIf_dec (fun h9 => ?_) (fun h9 => ?_)⟩
            · refine ⟨_, o205.cell 2 (by simp [opC]), addText (by omega) h204 f204 k205 (by omega) (fun s219 w220 g4 => ?_)⟩
              have o220 := o205.ext g4.x hn3
              refine ⟨_, o220.cell 0 (by simp [opC]), BIf_dec (fun h10 => absurd (h9.symm.trans h10) (by omega)) (fun h10 => next g4.own g4.fr g4.k ?_ ?_)⟩
              · unfold bytesOp; rw [h9]; simp
              · unfold bytesOp; rw [h9]; simp at l1 ⊢; rw [h9] at l1; omega
            · refine ⟨_, o205.cell 0 (by simp [opC]), BIf_dec (fun h10 => ?_) (fun h10 => next h204 f204 k205 ?_ ?_)⟩
              · have hver : 0 ≤ op.ver ∧ op.ver ≤ 4096 := by rcases hkind with ⟨h, _⟩ | h | ⟨h, _⟩ | ⟨h, h2⟩ <;> omega
                have l5 := numB_len op.ver (by omega)
                refine ⟨_, o205.cell 4 (by simp [opC]), addNum (by omega) h204 f204 k205 (by omega) (fun s219 w220 g4 => next g4.own g4.fr g4.k ?_ ?_)⟩
                · unfold bytesOp; rw [h10]; simp
                · unfold bytesOp; rw [h10]; simp at l1 ⊢; rw [h10] at l1; omega
              · unfold bytesOp; rw [if_neg h9, if_neg (by omega), if_neg h10]; simp
              · unfold bytesOp; rw [if_neg h9, if_neg (by omega), if_neg h10]; simp; omega
        · have hkn : k = e.ops.length := by omega
          subst hkn
          rw [List.take_length] at ho
          exact ret ho hf k130 (by unfold tailE; rw [if_pos h1])
      · refine ⟨_, o107.cell 7 (by simp [enC]), addText (by have := hs.k; omega) ho hf k107 (by omega) (fun s253 w254 g => ret g.own g.fr g.k (by unfold tailE; rw [if_neg h1, if_pos h3]))⟩
      · refine ⟨sd, o107.cell 11 (by simp [enC]), e.data, hd107, addText (by have := hs.d; omega) ho hf k107 (by omega) (fun s253 w254 g => ret g.own g.fr g.k (by unfold tailE; rw [if_neg h1, if_neg h3, if_pos h5]))⟩
      · exact ret (b := []) (by simpa using ho) hf k107 (by unfold tailE; rw [if_neg h1, if_neg h3, if_neg h5])
end Go.D

set_option linter.unusedVariables false
set_option linter.unusedSimpArgs false
set_option maxRecDepth 8000
namespace Go.D
open Go Go.Proofs

/-! ### records -/
def recC (e : EnS) (so sd : Slc) : List Value :=
  if e.kind = 1 then [.int .i64 e.shard, .int .i64 e.client, .int .i64 e.seq, so.v]
  else if e.kind = 2 then [.int .i64 e.shard, .int .i64 e.server]
  else if e.kind = 3 then [.int .i64 e.shard, .int .i64 e.other, .int .i64 e.server, strV e.key]
  else if e.kind = 4 then [.int .i64 e.shard, .int .i64 e.other]
  else [.int .i64 e.shard, .int .i64 e.upto, .int .i64 e.parts, .int .i64 e.part, sd.v]
def recT (e : EnS) : Nat := if e.kind = 1 then ty_entry_writing else if e.kind = 2 then ty_entry_moving else if e.kind = 3 then ty_entry_splitting else if e.kind = 4 then ty_entry_merging else ty_entry_checking
def kindOk (e : EnS) : Prop := 1 ≤ e.kind ∧ e.kind ≤ 5
def recV (e : EnS) (so sd : Slc) : Value := if 1 ≤ e.kind ∧ e.kind ≤ 5 then .iface (recT e) (.agg ⟨recC e so sd⟩) else .nilIface
def isMeth (t : Nat) (nm : String) (g : Nat) : Prop := ∀ (v : Value) (w : World), (method (Array.size Tryd.prog.types + Made.depth) t v nm).run Tryd.prog w = .ok (g, v) w
theorem meth_wr : isMeth ty_entry_writing "tidewater/entry.right" fn_entry_writing_right := fun v w => by kernel_rfl
theorem meth_mr : isMeth ty_entry_moving "tidewater/entry.right" fn_entry_moving_right := fun v w => by kernel_rfl
theorem meth_sr : isMeth ty_entry_splitting "tidewater/entry.right" fn_entry_splitting_right := fun v w => by kernel_rfl
theorem meth_gr : isMeth ty_entry_merging "tidewater/entry.right" fn_entry_merging_right := fun v w => by kernel_rfl
theorem meth_cr : isMeth ty_entry_checking "tidewater/entry.right" fn_entry_checking_right := fun v w => by kernel_rfl
theorem meth_ws : isMeth ty_entry_writing "tidewater/entry.streams" fn_entry_writing_streams := fun v w => by kernel_rfl
theorem meth_ms : isMeth ty_entry_moving "tidewater/entry.streams" fn_entry_moving_streams := fun v w => by kernel_rfl
theorem meth_ss : isMeth ty_entry_splitting "tidewater/entry.streams" fn_entry_splitting_streams := fun v w => by kernel_rfl
theorem meth_gs : isMeth ty_entry_merging "tidewater/entry.streams" fn_entry_merging_streams := fun v w => by kernel_rfl
theorem meth_cs : isMeth ty_entry_checking "tidewater/entry.streams" fn_entry_checking_streams := fun v w => by kernel_rfl
theorem meth_ww : isMeth ty_entry_writing "tidewater/entry.write" fn_entry_writing_write := fun v w => by kernel_rfl
theorem meth_mw : isMeth ty_entry_moving "tidewater/entry.write" fn_entry_moving_write := fun v w => by kernel_rfl
theorem meth_sw : isMeth ty_entry_splitting "tidewater/entry.write" fn_entry_splitting_write := fun v w => by kernel_rfl
theorem meth_gw : isMeth ty_entry_merging "tidewater/entry.write" fn_entry_merging_write := fun v w => by kernel_rfl
theorem meth_cw : isMeth ty_entry_checking "tidewater/entry.write" fn_entry_checking_write := fun v w => by kernel_rfl

theorem within_spec (n m : Int) (w : World) : Calls Tryd.prog fn_entry_within ⟨[.int .i64 n, .int .i64 m]⟩ w fun e w' => e = .returned (.bool (uptoB n m)) ∧ w' = w := by
  refine entry_within_ok _ _ ?_
  unfold entry_within uptoB
  refine BIf_dec (fun h => ⟨by rw [decide_eq_true h]; rfl, rfl⟩) (fun h => ⟨by rw [decide_eq_false h]; rfl, rfl⟩)
theorem shard_spec (n : Int) (w : World) : Calls Tryd.prog fn_entry_shard ⟨[.int .i64 n]⟩ w fun e w' => e = .returned (.bool (uptoB n 12)) ∧ w' = w := by
  refine entry_shard_ok _ ?_
  unfold entry_shard
  refine (within_spec n 12 w).mono ?_
  rintro e w3 ⟨rfl, rfl⟩
  exact ⟨_, rfl, rfl, rfl⟩
theorem opRight_spec (A : Nat → Addr) {n0 : Nat} (o : OpS) (w : World) (hE : ErrsG keyG A n0 w) (hk : o.key.length ≤ 2 ^ 40) :
    Calls Tryd.prog fn_entry_opRight ⟨[.agg ⟨opC o⟩]⟩ w fun e w' => e = .returned (.bool (rightOp o)) ∧ Keep w w' := by
  refine entry_opRight_ok _ _ _ _ _ ?_
  unfold entry_opRight rightOp
  refine newS_mk (fun r w7 hr hb k7 hs => ?_)
  have oo : ObjAt w7 r (opC o) := ObjAt.new' hb
  refine ⟨_, oo.cell 1 (by simp [opC]), (runesKey_spec A o.key hk w7 (hE.keep k7)).mono ?_⟩
  rintro e w10 ⟨rfl, k10⟩
  have kk := k7.trans k10
  have o10 := oo.keep k10
  have hnil : isNilI (errO A (keyE o.key)) = keyOk o.key := errO_nil A _
  refine ⟨_, rfl, errO_isI A _, ?_⟩
  rw [hnil]
  refine BIf_mk (fun h => ⟨by rw [show keyOk o.key = false by simpa using h]; rfl, kk⟩) (fun h => ?_)
  rw [show keyOk o.key = true by simpa using h, Bool.true_and]
  refine ⟨_, o10.cell 0 (by simp [opC]), BIf_dec (fun h1 => ?_) (fun h1 => ?_)⟩
  · rw [if_pos h1]
    refine ⟨_, o10.cell 2 (by simp [opC]), ?_, kk⟩
    have e1 : decide (((o.val.length : Nat) : Int) ≤ 64) = decide (o.val.length ≤ 64) := decide_eq_decide.2 (by omega)
    rw [e1]
  rw [if_neg h1]
  refine BIf_dec (fun h2 => ?_) (fun h2 => ?_)
  · rw [if_pos h2]; exact ⟨rfl, kk⟩
  rw [if_neg h2]
  refine BIf_dec (fun h3 => ?_) (fun h3 => ?_)
  · rw [if_pos h3]
    refine ⟨_, o10.cell 2 (by simp [opC]), BIf_dec (fun h4 => ⟨_, o10.cell 3 (by simp [opC]), ?_, kk⟩) (fun h4 => ⟨?_, kk⟩)⟩
    · rw [show decide (o.val.length ≤ 64) = true from decide_eq_true (by omega), Bool.true_and]
      have e1 : decide (((o.old.length : Nat) : Int) ≤ 64) = decide (o.old.length ≤ 64) := decide_eq_decide.2 (by omega)
      rw [e1]
    · rw [show decide (o.val.length ≤ 64) = false from decide_eq_false (by omega)]; rfl
  rw [if_neg h3]
  refine BIf_dec (fun h4 => ?_) (fun h4 => ?_)
  · rw [if_pos h4]
    refine ⟨_, o10.cell 4 (by simp [opC]), BIf_dec (fun h5 => ⟨_, o10.cell 4 (by simp [opC]), ?_, kk⟩) (fun h5 => ⟨?_, kk⟩)⟩
    · rw [decide_eq_true h5]; rfl
    · rw [decide_eq_false h5]; rfl
  · rw [if_neg h4]; exact ⟨rfl, kk⟩
theorem opsBad_spec (A : Nat → Addr) {n0 : Nat} (so : Slc) (l : List OpS) (w : World) (h : OpsAt w so l) (hE : ErrsG keyG A n0 w) (hl : l.length ≤ 2 ^ 40) (hk : ∀ o ∈ l, o.key.length ≤ 2 ^ 40) :
    Calls Tryd.prog fn_slices_ContainsFunc_Op ⟨[so.v, .func (.func fn_entry_writing_right_1) ⟨[]⟩ ⟨[]⟩]⟩ w fun e w' => e = .returned (.bool (!l.all rightOp)) ∧ Keep w w' := by
  have hsl := h.1
  refine slices_ContainsFunc_Op_entry_writing_right_1_ok _ ?_
  unfold slices_ContainsFunc_Op_entry_writing_right_1
  have hidx : Calls Tryd.prog fn_slices_IndexFunc_Op ⟨[so.v, .func (.func fn_entry_writing_right_1) ⟨[]⟩ ⟨[]⟩]⟩ w fun e w' => ∃ i : Int, e = .returned (.int .i64 i) ∧ (0 ≤ i ↔ l.all rightOp = false) ∧ Keep w w' := by
    refine slices_IndexFunc_Op_entry_writing_right_1_ok _ ?_
    unfold slices_IndexFunc_Op_entry_writing_right_1
    refine ⟨fun i w2 => ∃ k : Nat, i = k ∧ k ≤ l.length ∧ Keep w w2 ∧ (l.take k).all rightOp = true, fun i _ => ((l.length : Int) - i).toNat, ⟨0, rfl, by omega, Ext.refl _ _, by simp⟩, ?_⟩
    rintro i w5 ⟨k, rfl, hkk, k5, hall⟩
    intros
    refine BIf_dec (fun h1 => ?_) (fun h1 => ?_)
    · have hkl : k < l.length := by omega
      obtain ⟨a, ha, hrow⟩ := (h.keep k5).2.2 k hkl
      have hmem : l[k] ∈ l := List.getElem_mem hkl
      have hone : Calls Tryd.prog fn_entry_writing_right_1 ⟨[.agg ⟨opC l[k]⟩]⟩ w5 fun e w' => e = .returned (.bool (!rightOp l[k])) ∧ Keep w5 w' := by
        refine entry_writing_right_1_ok _ _ _ _ _ ?_
        unfold entry_writing_right_1
        refine newS_mk (fun r w7 hr hb k7 hs => ?_)
        have oo : ObjAt w7 r (opC l[k]) := ObjAt.new' hb
        refine ⟨_, _, _, _, _, oo.row, (opRight_spec A l[k] w7 (hE.keep (k5.trans k7)) (hk _ hmem)).mono ?_⟩
        rintro e w14 ⟨rfl, k14⟩
        exact ⟨_, rfl, rfl, k7.trans k14⟩
      refine needSome_mk ha ⟨by omega, h1, _, _, _, _, _, by rw [Int.toNat_natCast]; exact hrow, hone.mono ?_⟩
      rintro e w25 ⟨rfl, k25⟩
      refine ⟨_, rfl, BIf_mk (fun h2 => ⟨_, rfl, ⟨fun _ => List.all_eq_false.2 ⟨_, hmem, by simpa using h2⟩, fun _ => by omega⟩, k5.trans k25⟩) (fun h2 => ⟨inR64 (by omega), ⟨k + 1, rfl, hkl, k5.trans k25, ?_⟩, by first | (dsimp only; omega) | omega⟩)⟩
      rw [List.take_succ_eq_append_getElem hkl, List.all_append, hall]
      simpa using h2
    · rw [List.take_of_length_le (by omega)] at hall
      exact ⟨_, rfl, ⟨fun h => by omega, fun h => by rw [hall] at h; cases h⟩, k5⟩
  refine hidx.mono ?_
  rintro e w3 ⟨i, rfl, hi, k3⟩
  refine ⟨i, rfl, ?_, k3⟩
  cases hh : l.all rightOp
  · rw [decide_eq_true (hi.2 hh)]; rfl
  · rw [decide_eq_false (fun h2 => by rw [hi.1 h2] at hh; cases hh)]; rfl

/-- What right says of a record. -/
theorem recRight_spec (A : Nat → Addr) {n0 : Nat} (e : EnS) (so sd : Slc) (w : World) (h : EnAt w e so sd) (hs : SmallE e) (hkd : kindOk e) (hE : ErrsG keyG A n0 w) :
    ∃ g, isMeth (recT e) "tidewater/entry.right" g ∧ callB g = true ∧ Calls Tryd.prog g ⟨[.agg ⟨recC e so sd⟩]⟩ w fun x w' => x = .returned (.bool (rightE e)) ∧ Keep w w' := by
  have hsl := h.o.1
  have hdl := h.d.1
  unfold recT recC rightE
  by_cases h1 : e.kind = 1
  · simp only [if_pos h1]
    refine ⟨_, meth_wr, by rfl, entry_writing_right_ok _ _ _ _ ?_⟩
    unfold entry_writing_right
    refine newS_mk (fun r w6 hr hb k6 hs6 => ?_)
    have o : ObjAt w6 r [.int .i64 e.shard, .int .i64 e.client, .int .i64 e.seq, so.v] := ObjAt.new' hb
    refine ⟨so, o.cell 3 (by simp), (opsBad_spec A so e.ops w6 (h.o.keep k6) (hE.keep k6) (by have := hs.n; omega) (fun o ho => by have := hs.o o ho; omega)).mono ?_⟩
    rintro x w9 ⟨rfl, k9⟩
    have kk := k6.trans k9
    have o := o.keep k9
    refine ⟨_, rfl, _, o.cell 0 (by simp), (shard_spec _ _).mono ?_⟩
    rintro x w13 ⟨rfl, rfl⟩
    refine ⟨_, rfl, BIf_mk (fun g1 => ⟨_, o.cell 1 (by simp), (within_spec _ _ _).mono ?_⟩) (fun g1 => ⟨by rw [g1]; rfl, kk⟩)⟩
    rintro x w17 ⟨rfl, rfl⟩
    refine ⟨_, rfl, BIf_mk (fun g2 => ⟨_, o.cell 2 (by simp), (within_spec _ _ _).mono ?_⟩) (fun g2 => ⟨by rw [g1, g2]; rfl, kk⟩)⟩
    rintro x w21 ⟨rfl, rfl⟩
    refine ⟨_, rfl, BIf_mk (fun g3 => ⟨so, o.cell 3 (by simp), (within_spec _ _ _).mono ?_⟩) (fun g3 => ⟨by rw [g1, g2, g3]; rfl, kk⟩)⟩
    rintro x w25 ⟨rfl, rfl⟩
    rw [hsl]
    exact ⟨_, rfl, BIf_mk (fun g4 => ⟨by rw [g1, g2, g3, g4]; simp, kk⟩) (fun g4 => ⟨by rw [g1, g2, g3, g4]; rfl, kk⟩)⟩
  simp only [if_neg h1]
  by_cases h2 : e.kind = 2
  · simp only [if_pos h2]
    refine ⟨_, meth_mr, by rfl, entry_moving_right_ok _ _ ?_⟩
    unfold entry_moving_right
    refine newS_mk (fun r w6 hr hb k6 hs6 => ?_)
    have o : ObjAt w6 r [.int .i64 e.shard, .int .i64 e.server] := ObjAt.new' hb
    refine ⟨_, o.cell 0 (by simp), (shard_spec _ _).mono ?_⟩
    rintro x w13 ⟨rfl, rfl⟩
    refine ⟨_, rfl, BIf_mk (fun g1 => ⟨_, o.cell 1 (by simp), (within_spec _ _ _).mono ?_⟩) (fun g1 => ⟨by rw [g1]; rfl, k6⟩)⟩
    rintro x w17 ⟨rfl, rfl⟩
    exact ⟨_, rfl, by rw [g1]; rfl, k6⟩
  simp only [if_neg h2]
  by_cases h3 : e.kind = 3
  · simp only [if_pos h3]
    refine ⟨_, meth_sr, by rfl, entry_splitting_right_ok _ _ _ _ ?_⟩
    unfold entry_splitting_right twoB
    refine newS_mk (fun r w6 hr hb k6 hs6 => ?_)
    have o : ObjAt w6 r [.int .i64 e.shard, .int .i64 e.other, .int .i64 e.server, strV e.key] := ObjAt.new' hb
    refine ⟨_, o.cell 0 (by simp), (shard_spec _ _).mono ?_⟩
    rintro x w13 ⟨rfl, rfl⟩
    refine ⟨_, rfl, BIf_mk (fun g1 => ⟨_, o.cell 1 (by simp), (shard_spec _ _).mono ?_⟩) (fun g1 => ⟨by rw [g1]; rfl, k6⟩)⟩
    rintro x w17 ⟨rfl, rfl⟩
    refine ⟨_, rfl, BIf_mk (fun g2 => ⟨_, o.cell 0 (by simp), _, o.cell 1 (by simp), BIf_ndec (fun g3 => ⟨_, o.cell 2 (by simp), (within_spec _ _ _).mono ?_⟩) (fun g3 => ⟨by rw [g1, g2]; simp [g3], k6⟩)⟩) (fun g2 => ⟨by rw [g1, g2]; rfl, k6⟩)⟩
    rintro x w19 ⟨rfl, rfl⟩
    refine ⟨_, rfl, BIf_mk (fun g4 => ⟨_, o.cell 3 (by simp), (runesKey_spec A e.key (by have := hs.k; omega) _ (hE.keep k6)).mono ?_⟩) (fun g4 => ⟨by rw [g1, g2, g4]; simp, k6⟩)⟩
    rintro x w23 ⟨rfl, k23⟩
    refine ⟨_, rfl, errO_isI A _, ?_, k6.trans k23⟩
    rw [errO_nil, g1, g2, g4]
    simp [g3, keyOk]
  simp only [if_neg h3]
  by_cases h4 : e.kind = 4
  · simp only [if_pos h4]
    refine ⟨_, meth_gr, by rfl, entry_merging_right_ok _ _ ?_⟩
    unfold entry_merging_right twoB
    refine newS_mk (fun r w6 hr hb k6 hs6 => ?_)
    have o : ObjAt w6 r [.int .i64 e.shard, .int .i64 e.other] := ObjAt.new' hb
    refine ⟨_, o.cell 0 (by simp), (shard_spec _ _).mono ?_⟩
    rintro x w13 ⟨rfl, rfl⟩
    refine ⟨_, rfl, BIf_mk (fun g1 => ⟨_, o.cell 1 (by simp), (shard_spec _ _).mono ?_⟩) (fun g1 => ⟨by rw [g1]; rfl, k6⟩)⟩
    rintro x w17 ⟨rfl, rfl⟩
    exact ⟨_, rfl, BIf_mk (fun g2 => ⟨_, o.cell 0 (by simp), _, o.cell 1 (by simp), by rw [g1, g2]; simp, k6⟩) (fun g2 => ⟨by rw [g1, g2]; rfl, k6⟩)⟩
  have h5 : e.kind = 5 := by unfold kindOk at hkd; omega
  simp only [if_neg h4, if_pos h5]
  refine ⟨_, meth_cr, by rfl, entry_checking_right_ok _ _ _ _ _ ?_⟩
  unfold entry_checking_right
  refine newS_mk (fun r w6 hr hb k6 hs6 => ?_)
  have o : ObjAt w6 r [.int .i64 e.shard, .int .i64 e.upto, .int .i64 e.parts, .int .i64 e.part, sd.v] := ObjAt.new' hb
  have ed : decide (((sd.l : Nat) : Int) ≤ 256) = decide (e.data.length ≤ 256) := decide_eq_decide.2 (by omega)
  -- behind the shard
  have rest : ∀ (T U : Bool), T = true → U = true → ∃ n9 : Int, World.cell? w6 (⟨r, 1, none⟩ : Addr) = some (Value.int .i64 n9) ∧
      BIf (decide ((0 : Int) ≤ n9)) (
        ∃ n10 : Int, World.cell? w6 (⟨r, 1, none⟩ : Addr) = some (Value.int .i64 n10) ∧
        BIf (decide (n10 ≤ (4096 : Int))) (
          ∃ n11 : Int, World.cell? w6 (⟨r, 2, none⟩ : Addr) = some (Value.int .i64 n11) ∧
          Calls Tryd.prog fn_entry_within ⟨[(Value.int .i64 n11), (Value.int .i64 (64 : Int))]⟩ w6 fun e12 w13 =>
          ∃ b14 : Bool, e12 = .returned (Value.bool b14) ∧
          BIf b14 (
            ∃ n15 : Int, World.cell? w13 (⟨r, 3, none⟩ : Addr) = some (Value.int .i64 n15) ∧
            BIf (decide ((0 : Int) ≤ n15)) (
              ∃ n16 : Int, World.cell? w13 (⟨r, 3, none⟩ : Addr) = some (Value.int .i64 n16) ∧
              ∃ n17 : Int, World.cell? w13 (⟨r, 2, none⟩ : Addr) = some (Value.int .i64 n17) ∧
              BIf (decide (n16 < n17)) (
                ∃ s18 : Slc, World.cell? w13 (⟨r, 4, none⟩ : Addr) = some (Slc.v s18) ∧
                (Ending.returned (Value.bool (decide (((s18.l : Nat) : Int) ≤ (256 : Int)))) = .returned (.bool (T && (U && (decide (0 ≤ e.upto) && (decide (e.upto ≤ 4096) && (uptoB e.parts 64 && (decide (0 ≤ e.part) && (decide (e.part < e.parts) && decide (e.data.length ≤ 256))))))))) ∧ Keep w w13)) (
                (Ending.returned (Value.bool false) = .returned (.bool (T && (U && (decide (0 ≤ e.upto) && (decide (e.upto ≤ 4096) && (uptoB e.parts 64 && (decide (0 ≤ e.part) && (decide (e.part < e.parts) && decide (e.data.length ≤ 256))))))))) ∧ Keep w w13))) (
              (Ending.returned (Value.bool false) = .returned (.bool (T && (U && (decide (0 ≤ e.upto) && (decide (e.upto ≤ 4096) && (uptoB e.parts 64 && (decide (0 ≤ e.part) && (decide (e.part < e.parts) && decide (e.data.length ≤ 256))))))))) ∧ Keep w w13))) (
            (Ending.returned (Value.bool false) = .returned (.bool (T && (U && (decide (0 ≤ e.upto) && (decide (e.upto ≤ 4096) && (uptoB e.parts 64 && (decide (0 ≤ e.part) && (decide (e.part < e.parts) && decide (e.data.length ≤ 256))))))))) ∧ Keep w w13))) (
          (Ending.returned (Value.bool false) = .returned (.bool (T && (U && (decide (0 ≤ e.upto) && (decide (e.upto ≤ 4096) && (uptoB e.parts 64 && (decide (0 ≤ e.part) && (decide (e.part < e.parts) && decide (e.data.length ≤ 256))))))))) ∧ Keep w w6))) (
        (Ending.returned (Value.bool false) = .returned (.bool (T && (U && (decide (0 ≤ e.upto) && (decide (e.upto ≤ 4096) && (uptoB e.parts 64 && (decide (0 ≤ e.part) && (decide (e.part < e.parts) && decide (e.data.length ≤ 256))))))))) ∧ Keep w w6)) := by
    rintro T U rfl rfl
    refine ⟨_, o.cell 1 (by simp), BIf_dec (fun g1 => ⟨_, o.cell 1 (by simp), BIf_dec (fun g2 => ⟨_, o.cell 2 (by simp), (within_spec _ _ _).mono ?_⟩) (fun g2 => ⟨by rw [decide_eq_false g2]; simp, k6⟩)⟩) (fun g1 => ⟨by rw [decide_eq_false g1]; simp, k6⟩)⟩
    rintro x w13 ⟨rfl, rfl⟩
    rw [decide_eq_true g1, decide_eq_true g2]
    refine ⟨_, rfl, BIf_mk (fun g3 => ⟨_, o.cell 3 (by simp), BIf_dec (fun g4 => ⟨_, o.cell 3 (by simp), _, o.cell 2 (by simp), BIf_dec (fun g5 => ⟨sd, o.cell 4 (by simp), ?_, k6⟩) (fun g5 => ⟨by rw [decide_eq_false g5]; simp, k6⟩)⟩) (fun g4 => ⟨by rw [decide_eq_false g4]; simp, k6⟩)⟩) (fun g3 => ⟨by rw [g3]; simp, k6⟩)⟩
    rw [ed, g3, decide_eq_true g4, decide_eq_true g5]; rfl
  refine ⟨_, o.cell 0 (by simp), BIf_dec (fun g1 => rest _ _ (decide_eq_true (by omega)) (decide_eq_true (by omega))) (fun g1 => ?_)⟩
  refine ⟨_, o.cell 0 (by simp), (shard_spec _ _).mono ?_⟩
  rintro x w21 ⟨rfl, rfl⟩
  refine ⟨_, rfl, BIf_mk (fun g2 => ?_) (fun g2 => ⟨?_, k6⟩)⟩
  · have := uptoB_iff.1 g2
    exact rest _ _ (decide_eq_true (by omega)) (decide_eq_true (by omega))
  · have : ¬ (0 ≤ e.shard ∧ e.shard ≤ 12) := fun hh => by
      have : uptoB e.shard 12 = true := uptoB_iff.2 (by omega)
      rw [this] at g2; cases g2
    by_cases q : 0 ≤ e.shard
    · rw [decide_eq_true q, decide_eq_false (show ¬ e.shard ≤ 12 by omega)]; simp
    · rw [decide_eq_false q]; simp

theorem of_spec05 (e : EnS) (so sd : Slc) (w : World) :
    Calls Tryd.prog fn_entry_of ⟨[.agg ⟨enC e so sd⟩]⟩ w fun x w' => x = .returned (recV e so sd) ∧ Keep w w' := by
  refine entry_of_ok _ _ _ _ _ _ _ _ _ _ _ _ ?_
  unfold entry_of recV recT recC
  refine newS_mk (fun r w14 hr hb k14 hs => ?_)
  have o : ObjAt w14 r (enC e so sd) := ObjAt.new' hb
  refine ⟨_, o.cell 0 (by simp [enC]), BIf_dec (fun h1 => ?_) (fun h1 => BIf_dec (fun h2 => ?_) (fun h2 => BIf_dec (fun h3 => ?_) (fun h3 => BIf_dec (fun h4 => ?_) (fun h4 => BIf_dec (fun h5 => ?_) (fun h5 => ?_)))))⟩
  · refine ⟨_, o.cell 1 (by simp [enC]), _, o.cell 4 (by simp [enC]), _, o.cell 5 (by simp [enC]), so, o.cell 6 (by simp [enC]), ?_, k14⟩
    rw [if_pos (by omega), if_pos h1, if_pos h1]
  · refine ⟨_, o.cell 1 (by simp [enC]), _, o.cell 3 (by simp [enC]), ?_, k14⟩
    rw [if_pos (by omega), if_neg h1, if_neg h1, if_pos h2, if_pos h2]
  · refine ⟨_, o.cell 1 (by simp [enC]), _, o.cell 2 (by simp [enC]), _, o.cell 3 (by simp [enC]), _, o.cell 7 (by simp [enC]), ?_, k14⟩
    rw [if_pos (by omega), if_neg h1, if_neg h1, if_neg h2, if_neg h2, if_pos h3, if_pos h3]
  · refine ⟨_, o.cell 1 (by simp [enC]), _, o.cell 2 (by simp [enC]), ?_, k14⟩
    rw [if_pos (by omega), if_neg h1, if_neg h1, if_neg h2, if_neg h2, if_neg h3, if_neg h3, if_pos h4, if_pos h4]
  · refine ⟨_, o.cell 1 (by simp [enC]), _, o.cell 8 (by simp [enC]), _, o.cell 10 (by simp [enC]), _, o.cell 9 (by simp [enC]), sd, o.cell 11 (by simp [enC]), ?_, k14⟩
    rw [if_pos (by omega), if_neg h1, if_neg h1, if_neg h2, if_neg h2, if_neg h3, if_neg h3, if_neg h4, if_neg h4]
  · refine ⟨?_, k14⟩
    rw [if_neg (by omega)]
theorem right_kind {e : EnS} (h : rightE e = true) : kindOk e := by
  unfold kindOk
  rcases right_cases h with ⟨k, _⟩ | ⟨k, _⟩ | ⟨k, _⟩ | ⟨k, _⟩ | ⟨k, _⟩ <;> omega
theorem entryRight_spec (A : Nat → Addr) {n0 : Nat} (e : EnS) (so sd : Slc) (w : World) (h : EnAt w e so sd) (hs : SmallE e) (hE : ErrsG keyG A n0 w) :
    Calls Tryd.prog fn_entry_Right ⟨[.agg ⟨enC e so sd⟩]⟩ w fun x w' => x = .returned (.bool (rightE e)) ∧ Keep w w' := by
  refine entry_Right_ok _ _ _ _ _ _ _ _ _ _ _ _ ?_
  unfold entry_Right
  refine newS_mk (fun r w14 hr hb k14 hs14 => ?_)
  have o : ObjAt w14 r (enC e so sd) := ObjAt.new' hb
  refine ⟨_, _, _, _, _, _, _, _, _, _, _, _, o.row, (of_spec05 e so sd w14).mono ?_⟩
  rintro x w28 ⟨rfl, k28⟩
  have kk := k14.trans k28
  refine ⟨_, rfl, ?_⟩
  by_cases hk : kindOk e
  · have hv : recV e so sd = .iface (recT e) (.agg ⟨recC e so sd⟩) := if_pos hk
    rw [hv]
    refine ⟨trivial, BIf_mk (fun _ => ?_) (fun h => by cases h)⟩
    obtain ⟨g, hm, hcb, hc⟩ := recRight_spec A e so sd w28 (h.keep kk) hs hk (hE.keep kk)
    refine ⟨_, _, _, g, rfl, hm _, hcb, hc.mono ?_⟩
    rintro x w35 ⟨rfl, k35⟩
    exact ⟨_, rfl, rfl, kk.trans k35⟩
  · have hv : recV e so sd = .nilIface := if_neg hk
    rw [hv]
    refine ⟨trivial, BIf_mk (fun h => by cases h) (fun _ => ⟨?_, kk⟩)⟩
    have : rightE e = false := by
      cases hh : rightE e
      · rfl
      · exact (hk (right_kind hh)).elim
    rw [this]
end Go.D

set_option linter.unusedVariables false
set_option linter.unusedSimpArgs false
namespace Go.D
open Go Go.Proofs

def failE (ev v : Value) : Value := if isNilI ev then v else ev

theorem Out_fail_spec (r : Nat) (s : Slc) (bs : List UInt8) (ev v : Value) (w : World) (h : OutAt w r s bs ev) (hi : isI ev) (hv : ∀ X : Prop, X → oneK v X) :
    Calls Tryd.prog fn_pack_Out_fail ⟨[.pointer (some ⟨r, 0, none⟩), v]⟩ w fun e w' => e = .returned (.tuple #[]) ∧ OutAt w' r s bs (failE ev v) ∧ Foot (OutM r s) (OutM r s) w w' := by
  refine pack_Out_fail_ok _ _ ?_
  refine needSome_mk rfl ⟨_, by rw [add_lit]; exact h.c1, hi, BIf_mk (fun hn => needSome_mk rfl (hv _ (hv _ ?_))) (fun hn => ?_)⟩
  · obtain ⟨h1, h2, h3⟩ := h.setErr v
    rw [add_lit]
    refine ⟨h1, ?_⟩
    rintro w6 rfl
    refine ⟨rfl, ?_, h3⟩
    rw [failE, if_pos hn]; exact h2
  · refine ⟨rfl, ?_, Foot.refl _ _⟩
    rw [failE, if_neg (by rw [hn]; decide)]; exact h

theorem errV_one (A : Nat → Addr) (g : Nat) : ∀ X : Prop, X → oneK (errV A g) X := fun X h => h

theorem Out_Num_spec (A : Nat → Addr) (r : Nat) (s : Slc) (bs : List UInt8) (ev : Value) (n : Int) (w : World) (h : OutAt w r s bs ev) (hi : isI ev) (hn : -9223372036854775808 ≤ n ∧ n ≤ 9223372036854775807) (hl : bs.length ≤ 2 ^ 20)
    (hE : ErrIs tyErr w gl_ErrRange (A gl_ErrRange)) :
    Calls Tryd.prog fn_pack_Out_Num ⟨[.pointer (some ⟨r, 0, none⟩), .int .i64 n]⟩ w fun e w' => e = .returned (.tuple #[]) ∧
      ∃ s', OutAt w' r s' (if n < 0 ∨ 4611686018427387903 < n then bs else bs ++ encN n.toNat) (if n < 0 ∨ 4611686018427387903 < n then failE ev (errV A gl_ErrRange) else ev) ∧ Foot (OutM r s) (OutM r s') w w' := by
  refine pack_Out_Num_ok _ _ ?_
  unfold pack_Out_Num
  by_cases hbad : n < 0 ∨ 4611686018427387903 < n
  · rw [if_pos hbad, if_pos hbad]
    have key := Out_fail_spec r s bs ev (errV A gl_ErrRange) w h hi (errV_one A _)
    refine ⟨fun _ => False, BIf_dec (fun h1 => ⟨_, hE.1, key.mono ?_⟩) (fun h1 => BIf_dec (fun h2 => ⟨_, hE.1, key.mono ?_⟩) (fun h2 => by omega)), fun _ h => h.elim⟩
    · rintro e w' ⟨rfl, h2, h3⟩
      exact ⟨rfl, rfl, s, h2, h3⟩
    · rintro e w' ⟨rfl, h2, h3⟩
      exact ⟨rfl, rfl, s, h2, h3⟩
  · rw [if_neg hbad, if_neg hbad]
    refine ⟨fun w2 => w2 = w, BIf_dec (fun h1 => by omega) (fun h1 => BIf_dec (fun h2 => by omega) (fun h2 => rfl)), ?_⟩
    rintro w2 rfl
    intros
    refine ⟨fun m w3 => ∃ (k : Nat) (s' : Slc) (x : List UInt8), m = k ∧ x ++ encN k = bs ++ encN n.toNat ∧ OutAt w3 r s' x ev ∧ Foot (OutM r s) (OutM r s') w2 w3, fun m _ => m.toNat, ⟨n.toNat, s, bs, by omega, rfl, h, Foot.refl _ _⟩, ?_⟩
    rintro m w3 ⟨k, s', x, rfl, hx, ho, hft⟩
    intros
    have hlen := congrArg List.length hx
    have hle := encN_len n.toNat 8 (by omega)
    have hpos := encN_pos k
    simp only [List.length_append] at hlen
    have hsl : s'.l = x.length := by have := ho.2.1.1; simpa using this
    refine BIf_dec (fun h1 => ?_) (fun h1 => ?_)
    · refine needSome_mk rfl ⟨s', ho.c0, by omega, by omega, inR64 (by omega), newS_mk (fun r43 w44 hr43 hb43 hk43 hs43 => ?_)⟩
      have e1 : ((k : Int) % 128 + 128) = ((k % 128 + 128 : Nat) : Int) := by omega
      rw [e1, wrap8] at hb43
      have hb : bytesAt w44 ⟨some ⟨r43, 0, none⟩, 1, 1⟩ [UInt8.ofNat (k % 128 + 128)] := (Own.new (sz := 1) (n := 1) hb43 (.inl (by simp)) rfl).bytes
      refine (ho.keep hk43).append rfl (srcAt_bytes hb) (by simp only [Src.n]; omega) (fun s45 w46 hc hh => needSome_mk rfl ⟨hc, ?_⟩)
      rintro w48 rfl
      obtain ⟨h5, h6⟩ := hh _ rfl
      refine ⟨by omega, by omega, ⟨k / 128, s45, _, by omega, ?_, h5, (hft.keep hk43).trans h6⟩, by dsimp only; omega⟩
      rw [← hx, encN.eq_1 k, dif_neg (by omega)]; simp
    · refine needSome_mk rfl ⟨s', ho.c0, newS_mk (fun r43 w44 hr43 hb43 hk43 hs43 => ?_)⟩
      rw [wrap8] at hb43
      have hb : bytesAt w44 ⟨some ⟨r43, 0, none⟩, 1, 1⟩ [UInt8.ofNat k] := (Own.new (sz := 1) (n := 1) hb43 (.inl (by simp)) rfl).bytes
      refine (ho.keep hk43).append rfl (srcAt_bytes hb) (by simp only [Src.n]; omega) (fun s45 w46 hc hh => needSome_mk rfl ⟨hc, ?_⟩)
      rintro w48 rfl
      obtain ⟨h5, h6⟩ := hh _ rfl
      refine ⟨rfl, s45, ?_, (hft.keep hk43).trans h6⟩
      rw [encN.eq_1 k, dif_pos (by omega)] at hx
      rw [← hx]; exact h5
end Go.D

set_option linter.unusedVariables false
set_option linter.unusedSimpArgs false
namespace Go.D
open Go Go.Proofs

theorem CloneB_own (s : Slc) (b : List UInt8) (w : World) (hb : bytesAt w s b) (hl : s.l ≤ 2 ^ 30) :
    Calls Tryd.prog fn_slices_Clone_byte ⟨[s.v]⟩ w fun e w' => ∃ t : Slc, e = .returned t.v ∧ Own w' t 1 (b.map byteV) ∧ Fresh w t ∧ Keep w w' := by
  refine slices_Clone_byte_ok _ ?_
  unfold slices_Clone_byte
  refine BIf_mk (fun h => ?_) (fun h => ?_)
  · have hp : s.p = none := by simpa using h
    have hb0 : b = [] := by
      rcases hb.2 with h0 | ⟨a, ha, _⟩
      · simpa using h0
      · rw [hp] at ha; cases ha
    subst hb0
    exact ⟨_, rfl, Own.nil _ _, Fresh.nil _ _ _, Ext.refl _ _⟩
  · refine newS_mk (fun r w1 hr hb1 hk hs => ?_)
    refine append_bytes (vs := []) (w0 := w) (Own.new (sz := 1) (n := 0) hb1 (.inl (by simp)) rfl) rfl (Fresh.at (by omega)) hk (srcAt_bytes (bytesAt_keep hb hk)) (by simp only [Src.n]; omega) (fun s' w' h1 h2 h3 h4 => ?_)
    exact ⟨s', rfl, by simpa using h1, h3, h2⟩
end Go.D

set_option linter.unusedVariables false
set_option linter.unusedSimpArgs false
namespace Go.D
open Go Go.Proofs

theorem Out_Text_spec (A : Nat → Addr) (r : Nat) (s : Slc) (bs : List UInt8) (ev : Value) (t : List UInt8) (w : World) (h : OutAt w r s bs ev) (hi : isI ev) (hl : bs.length ≤ 2 ^ 20) (ht : t.length ≤ 2 ^ 20)
    (hE : ErrIs tyErr w gl_ErrRange (A gl_ErrRange)) :
    Calls Tryd.prog fn_pack_Out_Text ⟨[.pointer (some ⟨r, 0, none⟩), strV t]⟩ w fun e w' => e = .returned (.tuple #[]) ∧
      ∃ s', OutAt w' r s' (bs ++ encN t.length ++ t) ev ∧ Foot (OutM r s) (OutM r s') w w' := by
  refine pack_Out_Text_ok _ _ ?_
  unfold pack_Out_Text
  refine (Out_Num_spec A r s bs ev t.length w h hi (by omega) hl hE).mono ?_
  rintro e w4 ⟨rfl, s4, h4, f4⟩
  rw [if_neg (by omega), if_neg (by omega)] at h4
  have hn : ((t.length : Nat) : Int).toNat = t.length := by omega
  rw [hn] at h4
  have hle := encN_len t.length 8 (by omega)
  have hsl : s4.l = bs.length + (encN t.length).length := by have := h4.2.1.1; simpa using this
  refine ⟨rfl, needSome_mk rfl ⟨s4, h4.c0, h4.append rfl ⟨rfl, rfl⟩ (by simp only [Src.n]; omega) (fun s7 w8 hc hh => needSome_mk rfl ⟨hc, ?_⟩)⟩⟩
  rintro w10 rfl
  obtain ⟨h5, h6⟩ := hh _ rfl
  exact ⟨rfl, s7, h5, f4.trans h6⟩

theorem Out_Done_spec (A : Nat → Addr) (r : Nat) (s : Slc) (bs : List UInt8) (ev : Value) (w : World) (h : OutAt w r s bs ev) (hi : isI ev) (hl : bs.length ≤ 2 ^ 22)
    (hE : ErrIs tyErr w gl_ErrLong (A gl_ErrLong)) :
    Calls Tryd.prog fn_pack_Out_Done ⟨[.pointer (some ⟨r, 0, none⟩)]⟩ w fun e w' => ∃ (t : Slc) (e2 : Value), e = .returned (.tuple ⟨[t.v, e2]⟩) ∧ Keep w w' ∧ Fresh w t ∧
      (if isNilI ev = false then t = ⟨none, 0, 0⟩ ∧ e2 = ev else if 65536 < bs.length then t = ⟨none, 0, 0⟩ ∧ e2 = errV A gl_ErrLong else e2 = .nilIface ∧ bytesAt w' t bs) := by
  refine pack_Out_Done_ok _ ?_
  unfold pack_Out_Done
  have hsl : s.l = bs.length := by have := h.2.1.1; simpa using this
  refine needSome_mk rfl ⟨_, by rw [add_lit]; exact h.c1, hi, BIf_mk (fun hn => ?_) (fun hn => ?_)⟩
  · have hn' : isNilI ev = false := by simpa using hn
    refine needSome_mk rfl ⟨ev, by rw [add_lit]; exact (h.keep (Ext.drew _ w)).c1, _, _, rfl, Ext.drew _ _, Fresh.nil _ _ _, ?_⟩
    rw [if_pos hn']; exact ⟨rfl, rfl⟩
  · have hn' : ¬ isNilI ev = false := by simpa using hn
    refine needSome_mk rfl ⟨s, h.c0, BIf_dec (fun h1 => ?_) (fun h1 => ?_)⟩
    · refine ⟨_, (hE.keep (Ext.drew _ w)).1, _, _, rfl, Ext.drew _ _, Fresh.nil _ _ _, ?_⟩
      rw [if_neg hn', if_pos (by omega)]; exact ⟨rfl, rfl⟩
    · refine needSome_mk rfl ⟨s, h.c0, ?_⟩
      refine (CloneB_own s bs w h.2.1.bytes (by omega)).mono ?_
      rintro e w' ⟨t, rfl, hb, hf, hk⟩
      refine ⟨t, rfl, t, _, rfl, hk, hf, ?_⟩
      rw [if_neg hn', if_neg (by omega)]; exact ⟨rfl, hb.bytes⟩
end Go.D

set_option linter.unusedVariables false
set_option linter.unusedSimpArgs false
namespace Go.D
open Go Go.Proofs

abbrev InS := List UInt8 × Option Nat
def OutS (A : Nat → Addr) (w : World) (r : Nat) (s : Slc) (st : InS) : Prop := OutAt w r s st.1 (errO A st.2)
def oNum (n : Int) (st : InS) : InS := if n < 0 ∨ 4611686018427387903 < n then (st.1, some (st.2.getD 0)) else (st.1 ++ encN n.toNat, st.2)
def oText (t : List UInt8) (st : InS) : InS := (st.1 ++ encN t.length ++ t, st.2)
def oNums (l : List Int) (st : InS) : InS := l.foldl (fun st n => oNum n st) (oNum l.length st)

theorem failE_errO (A : Nat → Addr) (e : Option Nat) : failE (errO A e) (errV A gl_ErrRange) = errO A (some (e.getD 0)) := by
  cases e <;> rfl

theorem OutS_Num (A : Nat → Addr) (n0 r : Nat) (s : Slc) (st : InS) (n : Int) (w : World) (h : OutS A w r s st) (hn : -9223372036854775808 ≤ n ∧ n ≤ 9223372036854775807) (hl : st.1.length ≤ 2 ^ 20) (hE : ErrsB A n0 w) :
    Calls Tryd.prog fn_pack_Out_Num ⟨[.pointer (some ⟨r, 0, none⟩), .int .i64 n]⟩ w fun e w' => e = .returned (.tuple #[]) ∧ ∃ s', OutS A w' r s' (oNum n st) ∧ Foot (OutM r s) (OutM r s') w w' := by
  refine (Out_Num_spec A r s st.1 (errO A st.2) n w h (errO_isI _ _) hn hl (hE.1.1 gl_ErrRange (errG_mem (k := 0) (by omega)))).mono ?_
  rintro e w' ⟨rfl, s', h1, h2⟩
  refine ⟨rfl, s', ?_, h2⟩
  unfold OutS oNum
  split at h1
  · rename_i hh; rw [if_pos hh]
    rw [failE_errO] at h1; exact h1
  · rename_i hh; rw [if_neg hh]
    exact h1

theorem OutS_Text (A : Nat → Addr) (n0 r : Nat) (s : Slc) (st : InS) (t : List UInt8) (w : World) (h : OutS A w r s st) (hl : st.1.length ≤ 2 ^ 20) (ht : t.length ≤ 2 ^ 20) (hE : ErrsB A n0 w) :
    Calls Tryd.prog fn_pack_Out_Text ⟨[.pointer (some ⟨r, 0, none⟩), strV t]⟩ w fun e w' => e = .returned (.tuple #[]) ∧ ∃ s', OutS A w' r s' (oText t st) ∧ Foot (OutM r s) (OutM r s') w w' := by
  exact Out_Text_spec A r s st.1 (errO A st.2) t w h (errO_isI _ _) hl ht (hE.1.1 gl_ErrRange (errG_mem (k := 0) (by omega)))

theorem oNum_len (n : Int) (st : InS) : (oNum n st).1.length ≤ st.1.length + 9 := by
  unfold oNum
  split
  · simp
  · have := encN_len n.toNat 8 (by omega)
    simp; omega

theorem oNums_len : ∀ (l : List Int) (st : InS), (l.foldl (fun st n => oNum n st) st).1.length ≤ st.1.length + 9 * l.length
  | [], st => by simp
  | n :: l, st => by
    have h1 := oNums_len l (oNum n st)
    have h2 := oNum_len n st
    simp only [List.foldl_cons, List.length_cons]; omega

theorem OutS_Done (A : Nat → Addr) (n0 r : Nat) (s : Slc) (st : InS) (w : World) (h : OutS A w r s st) (hl : st.1.length ≤ 2 ^ 22) (hE : ErrsB A n0 w) :
    Calls Tryd.prog fn_pack_Out_Done ⟨[.pointer (some ⟨r, 0, none⟩)]⟩ w fun e w' => ∃ (t : Slc) (e2 : Option Nat), e = .returned (.tuple ⟨[t.v, errO A e2]⟩) ∧ Keep w w' ∧ Fresh w t ∧
      e2 = (match st.2 with | some k => some k | none => if 65536 < st.1.length then some 2 else none) ∧ (e2.isSome = true → t = ⟨none, 0, 0⟩) ∧ (e2 = none → bytesAt w' t st.1) := by
  refine (Out_Done_spec A r s st.1 (errO A st.2) w h (errO_isI _ _) hl (hE.1.1 gl_ErrLong (errG_mem (k := 2) (by omega)))).mono ?_
  rintro e w' ⟨t, e2, rfl, h1, h2, h3⟩
  obtain ⟨bs, er⟩ := st
  cases er with
  | some k =>
    rw [if_pos (by rfl)] at h3
    obtain ⟨rfl, rfl⟩ := h3
    exact ⟨_, some k, rfl, h1, h2, rfl, fun _ => rfl, fun h => by cases h⟩
  | none =>
    rw [if_neg (by intro h; cases h)] at h3
    dsimp only at h3 ⊢
    split at h3
    · rename_i hh
      obtain ⟨rfl, rfl⟩ := h3
      exact ⟨_, some 2, rfl, h1, h2, by rw [if_pos hh], fun _ => rfl, fun h => by cases h⟩
    · rename_i hh
      obtain ⟨rfl, h4⟩ := h3
      exact ⟨_, none, rfl, h1, h2, by rw [if_neg hh], fun h => by simp at h, fun _ => h4⟩

/-- A new writer. -/
theorem OutS.new {w1 : World} {r : Nat} {T : TypeId} (A : Nat → Addr) (h : w1.heap[r]? = some (.cells ⟨[(Slc.v (⟨none, 0, 0⟩ : Slc)), Value.nilIface]⟩ T)) : OutS A w1 r ⟨none, 0, 0⟩ ([], none) :=
  ⟨⟨T, (0, 0), h, .inl (by simp)⟩, Own.nil _ _, by rintro ⟨a, ha, _⟩; cases ha⟩
theorem OutM_nil {r k : Nat} (h : OutM r ⟨none, 0, 0⟩ k) : k = r := by
  rcases h with h | ⟨a, ha, _⟩
  · exact h
  · cases ha

theorem Foot.newM {w0 w w' : World} {M M' : Nat → Prop} (h : Foot M M' w w') (hk : Keep w0 w) (hm : ∀ k, M k → w0.heap.size ≤ k) : Keep w0 w' := (h.new hk hm).1

end Go.D

set_option linter.unusedVariables false
set_option linter.unusedSimpArgs false
set_option maxRecDepth 8000
namespace Go.D
open Go Go.Proofs

/-! ### a writer without an error, whose blocks are new since w0 -/
structure OutK (A : Nat → Addr) (w0 w : World) (r : Nat) (s : Slc) (b : List UInt8) : Prop where
  o : OutS A w r s (b, none)
  m : ∀ k, OutM r s k → w0.heap.size ≤ k
  k : Keep w0 w
section
variable {A : Nat → Addr} {n0 : Nat} {w0 w : World} {r : Nat} {s : Slc} {b : List UInt8}
theorem OutK.keep {w' : World} (h : OutK A w0 w r s b) (k : Keep w w') : OutK A w0 w' r s b := ⟨OutAt.keep h.o k, h.m, h.k.trans k⟩
theorem OutK.lt (h : OutK A w0 w r s b) : ∀ k, OutM r s k → k < w.heap.size := by
  rintro k (rfl | hk)
  · exact h.o.1.lt
  · exact OwnLt h.o.2.1 k hk
theorem foot_obj {w' : World} {s' : Slc} {x : Nat} {cs : List Value} (f : Foot (OutM r s) (OutM r s') w w') (ho : ObjAt w x cs) (hn : ¬ OutM r s x) : ObjAt w' x cs ∧ ¬ OutM r s' x :=
  ⟨ho.ext f.1 hn, fun hh => (f.2 x hh).elim hn (fun h => by have := ho.lt; omega)⟩
theorem outNum {n : Int} (h : OutK A w0 w r s b) (hn : 0 ≤ n ∧ n ≤ 2 ^ 40) (hb : b.length ≤ 2 ^ 19) (hE : ErrsB A n0 w0) :
    Calls Tryd.prog fn_pack_Out_Num ⟨[.pointer (some ⟨r, 0, none⟩), .int .i64 n]⟩ w fun e w' => e = .returned (.tuple #[]) ∧ ∃ s', OutK A w0 w' r s' (b ++ numB n) ∧ Foot (OutM r s) (OutM r s') w w' := by
  refine (OutS_Num A n0 r s (b, none) n w h.o (by omega) (by simp only; omega) (hE.keep h.k)).mono ?_
  rintro e w' ⟨rfl, s', g1, g2⟩
  have e1 : oNum n (b, none) = (b ++ numB n, none) := by unfold oNum numB; rw [if_neg (by omega)]
  rw [e1] at g1
  obtain ⟨g3, g4⟩ := g2.new h.k h.m
  exact ⟨rfl, s', ⟨g1, g4, g3⟩, g2⟩
theorem outText {t : List UInt8} (h : OutK A w0 w r s b) (ht : t.length ≤ 2 ^ 19) (hb : b.length ≤ 2 ^ 19) (hE : ErrsB A n0 w0) :
    Calls Tryd.prog fn_pack_Out_Text ⟨[.pointer (some ⟨r, 0, none⟩), strV t]⟩ w fun e w' => e = .returned (.tuple #[]) ∧ ∃ s', OutK A w0 w' r s' (b ++ textB t) ∧ Foot (OutM r s) (OutM r s') w w' := by
  refine (OutS_Text A n0 r s (b, none) t w h.o (by simp only; omega) (by omega) (hE.keep h.k)).mono ?_
  rintro e w' ⟨rfl, s', g1, g2⟩
  have e1 : oText t (b, none) = (b ++ textB t, none) := by unfold oText textB; simp
  rw [e1] at g1
  obtain ⟨g3, g4⟩ := g2.new h.k h.m
  exact ⟨rfl, s', ⟨g1, g4, g3⟩, g2⟩
end

theorem nums_spec (A : Nat → Addr) {n0 : Nat} {w0 w : World} {r : Nat} {s : Slc} {b : List UInt8} (l : List Int) (rl : Nat) (h : OutK A w0 w r s b) (hE : ErrsB A n0 w0) (ho : ObjAt w rl (l.map intV)) (hr : ¬ OutM r s rl) (hl : l.length ≤ 10) (hn : ∀ n ∈ l, 0 ≤ n ∧ n ≤ 2 ^ 40) (hb : b.length ≤ 2 ^ 18) :
    Calls Tryd.prog fn_entry_nums ⟨[.pointer (some ⟨r, 0, none⟩), (⟨some ⟨rl, 0, none⟩, l.length, l.length⟩ : Slc).v]⟩ w fun e w' => e = .returned (.tuple #[]) ∧ ∃ s', OutK A w0 w' r s' (b ++ l.flatMap numB) ∧ Foot (OutM r s) (OutM r s') w w' := by
  refine entry_nums_ok _ _ ?_
  unfold entry_nums
  refine ⟨fun i w2 => ∃ (k : Nat) (s' : Slc), i = k ∧ k ≤ l.length ∧ OutK A w0 w2 r s' (b ++ (l.take k).flatMap numB) ∧ Foot (OutM r s) (OutM r s') w w2, fun i _ => ((l.length : Int) - i).toNat, ⟨0, s, rfl, by omega, by simpa using h, Foot.refl _ _⟩, ?_⟩
  rintro i w6 ⟨k, s', rfl, hk, h6, f6⟩
  intros
  obtain ⟨o6, hr6⟩ := foot_obj f6 ho hr
  have hlen := heads_len (l.take k) (fun n hn' => (hn n (List.mem_of_mem_take hn')).2)
  have htk : (l.take k).length ≤ 10 := by rw [List.length_take]; omega
  refine BIf_dec (fun h1 => ?_) (fun h1 => ?_)
  · have hkl : k < l.length := by simp only at h1; omega
    have hc := o6.cell k (by simpa using hkl)
    rw [List.getElem_map] at hc
    refine needSome_mk rfl ⟨by omega, by simp only; omega, l[k], by rw [add_lit, show 0 + Int.toNat (k : Int) * 1 = k by omega]; exact hc, ?_⟩
    refine (outNum h6 (hn _ (List.getElem_mem hkl)) (by rw [List.length_append]; omega) hE).mono ?_
    rintro e w18 ⟨rfl, s18, g1, g2⟩
    refine ⟨rfl, inR64 (by omega), ⟨k + 1, s18, rfl, hkl, ?_, f6.trans g2⟩, by first | (dsimp only; omega) | omega⟩
    rw [List.take_succ_eq_append_getElem hkl, List.flatMap_append, ← List.append_assoc]
    simpa using g1
  · rw [List.take_of_length_le (by simp only at h1; omega)] at h6
    exact ⟨rfl, s', h6, f6⟩

/-- What write writes of a record. -/
theorem recWrite_spec (A : Nat → Addr) {n0 : Nat} (e : EnS) (so sd : Slc) {w0 w : World} {r : Nat} {s : Slc} {b : List UInt8} (h : EnAt w0 e so sd) (hs : SmallE e) (hr : rightE e = true) (hO : OutK A w0 w r s b) (hE : ErrsB A n0 w0) (hb : b.length ≤ 2 ^ 16) :
    ∃ g, isMeth (recT e) "tidewater/entry.write" g ∧ callB g = true ∧ Calls Tryd.prog g ⟨[.agg ⟨recC e so sd⟩, .pointer (some ⟨r, 0, none⟩)]⟩ w fun x w' => x = .returned (.tuple #[]) ∧ ∃ s', OutK A w0 w' r s' (b ++ bytesE e) := by
  have hsl := h.o.1
  obtain ⟨hh5, hin⟩ := head_ok hr
  have hlt := hO.lt
  have hhl := heads_len (headE e) (fun n hn => (hin n hn).2)
  unfold bytesE recT recC
  by_cases h1 : e.kind = 1
  · simp only [if_pos h1]
    refine ⟨_, meth_ww, by rfl, entry_writing_write_ok _ _ _ _ _ ?_⟩
    unfold entry_writing_write
    refine newS_mk (fun r6 w7 hr6 hb6 k6 hs6 => ?_)
    have o6 : ObjAt w7 r6 [.int .i64 e.shard, .int .i64 e.client, .int .i64 e.seq, so.v] := ObjAt.new' hb6
    refine ⟨_, o6.cell 0 (by simp), _, o6.cell 1 (by simp), _, o6.cell 2 (by simp), so, o6.cell 3 (by simp), newS_mk (fun r12 w13 hr12 hb12 k12 hs12 => ?_)⟩
    have hhd : headE e = [1, e.shard, e.client, e.seq, (e.ops.length : Int)] := by unfold headE; rw [h1]; rfl
    rw [hsl] at hb12
    have z6 := k6.size
    have n6 : ¬ OutM r s r6 := fun hx => by have := hlt _ hx; omega
    have n12 : ¬ OutM r s r12 := fun hx => by have := hlt _ hx; omega
    have o12 : ObjAt w13 r12 ((headE e).map intV) := by rw [hhd]; exact ObjAt.new' hb12
    have hN := nums_spec A (headE e) r12 ((hO.keep k6).keep k12) hE o12 n12 (by omega) hin (by omega)
    rw [show (headE e).length = 5 by rw [hhd]; rfl] at hN
    refine hN.mono ?_
    rintro x w15 ⟨rfl, s15, g15, f15⟩
    obtain ⟨o15, n15⟩ := foot_obj f15 (o6.keep k12) n6
    refine ⟨rfl, so, o15.cell 3 (by simp), ?_⟩
    have hrops : ∀ o ∈ e.ops, rightOp o = true := by
      rcases right_cases hr with ⟨k, _, _, _, _, hh⟩ | ⟨k, _⟩ | ⟨k, _⟩ | ⟨k, _⟩ | ⟨k, _⟩
      · exact hh
      all_goals omega
    have hsn := hs.n
    generalize hH : (headE e).flatMap numB = H at *
    refine ⟨fun i w2 => ∃ (k : Nat) (s' : Slc), i = k ∧ k ≤ e.ops.length ∧ OutK A w0 w2 r s' (b ++ H ++ (e.ops.take k).flatMap bytesOp) ∧ ((e.ops.take k).flatMap bytesOp).length ≤ 1000 * k, fun i _ => ((e.ops.length : Int) - i).toNat, ⟨0, s15, rfl, by omega, by simpa using g15, by simp⟩, ?_⟩
    rintro i w20 ⟨k, s20, rfl, hk, g20, hbl⟩
    intros
    refine BIf_dec (fun h7 => ?_) (fun h7 => ?_)
    · have hkl : k < e.ops.length := by omega
      obtain ⟨a, ha, hrow⟩ := (h.o.keep g20.k).2.2 k hkl
      have hsm := hs.o _ (List.getElem_mem hkl)
      have hro := hrops _ (List.getElem_mem hkl)
      obtain ⟨_, hkind⟩ := rightOp_cases hro
      have hsp : (e.ops.take (k + 1)).flatMap bytesOp = (e.ops.take k).flatMap bytesOp ++ bytesOp e.ops[k] := by
        rw [List.take_succ_eq_append_getElem hkl, List.flatMap_append]; simp
      generalize hop : e.ops[k] = op at *
      have hk14 : 1 ≤ op.kind ∧ op.kind ≤ 4 := by rcases hkind with ⟨h, _⟩ | h | ⟨h, _⟩ | ⟨h, _⟩ <;> omega
      generalize hB : b ++ H ++ (e.ops.take k).flatMap bytesOp = B at g20
      have hBl : B.length ≤ 2 ^ 16 + 30 + 1000 * 20 := by rw [← hB]; simp only [List.length_append]; omega
      refine needSome_mk ha ⟨by omega, h7, _, _, _, _, _, by rw [Int.toNat_natCast]; exact hrow, ?_⟩
      refine var_mk (cs := opC op) rfl rfl (fun r64 w66 hr64 o64 k64 hs64 => ?_)
      have n64 : ¬ OutM r s20 r64 := fun hx => by have := g20.lt _ hx; omega
      have l1 := numB_len op.kind (by omega)
      have l2 := textB_len op.key (by omega)
      have lv := textB_len op.val (by omega)
      have lo := textB_len op.old (by omega)
      refine ⟨_, o64.cell 0 (by simp [opC]), (outNum (g20.keep k64) (by omega) (by omega) hE).mono ?_⟩
      rintro x w69 ⟨rfl, s69, g69, f69⟩
      obtain ⟨o69, n69⟩ := foot_obj f69 o64 n64
      refine ⟨rfl, _, o69.cell 1 (by simp [opC]), (outText g69 (by omega) (by rw [List.length_append]; omega) hE).mono ?_⟩
      rintro x w72 ⟨rfl, s72, g72, f72⟩
      obtain ⟨o72, n72⟩ := foot_obj f72 o69 n69
      have next : ∀ {s' : Slc} {w' : World} {c : List UInt8}, OutK A w0 w' r s' c → c = B ++ bytesOp op → (bytesOp op).length ≤ 1000 →
          inR .i64 ((k : Int) + 1) ∧ (∃ (k2 : Nat) (s' : Slc), ((k : Int) + 1) = k2 ∧ k2 ≤ e.ops.length ∧ OutK A w0 w' r s' (b ++ H ++ (e.ops.take k2).flatMap bytesOp) ∧ ((e.ops.take k2).flatMap bytesOp).length ≤ 1000 * k2) ∧ ((e.ops.length : Int) - ((k : Int) + 1)).toNat < ((e.ops.length : Int) - (k : Int)).toNat := by
        intro s' w' c q1 q4 q5
        refine ⟨inR64 (by omega), ⟨k + 1, s', rfl, hkl, ?_, by rw [hsp, List.length_append]; omega⟩, by omega⟩
        rw [hsp, ← List.append_assoc, hB, ← q4]; exact q1
      have l3 : (B ++ numB op.kind ++ textB op.key).length ≤ 2 ^ 18 := by simp only [List.length_append]; omega
      refine ⟨rfl, _, o72.cell 0 (by simp [opC]), BIf_dec (fun h8 => ?_) (fun h8 => BIf_dec (fun h9 => ?_) (fun h9 => BIf_dec (fun h10 => ?_) (fun h10 => next g72 ?_ ?_)))⟩
      · refine ⟨_, o72.cell 2 (by simp [opC]), (outText g72 (by omega) (by omega) hE).mono ?_⟩
        rintro x w76 ⟨rfl, s76, g76, f76⟩
        refine ⟨rfl, next g76 ?_ ?_⟩
        · unfold bytesOp; rw [h8]; simp
        · unfold bytesOp; rw [h8] at l1 ⊢; simp at l1 ⊢; omega
      · refine ⟨_, o72.cell 3 (by simp [opC]), (outText g72 (by omega) (by omega) hE).mono ?_⟩
        rintro x w79 ⟨rfl, s79, g79, f79⟩
        obtain ⟨o79, n79⟩ := foot_obj f79 o72 n72
        refine ⟨rfl, _, o79.cell 2 (by simp [opC]), (outText g79 (by omega) (by rw [List.length_append]; omega) hE).mono ?_⟩
        rintro x w82 ⟨rfl, s82, g82, f82⟩
        refine ⟨rfl, next g82 ?_ ?_⟩
        · unfold bytesOp; rw [h9]; simp
        · unfold bytesOp; rw [h9] at l1 ⊢; simp at l1 ⊢; omega
      · have hver : 0 ≤ op.ver ∧ op.ver ≤ 4096 := by rcases hkind with ⟨h, _⟩ | h | ⟨h, _⟩ | ⟨h, h2⟩ <;> omega
        have l5 := numB_len op.ver (by omega)
        refine ⟨_, o72.cell 4 (by simp [opC]), (outNum g72 (by omega) (by omega) hE).mono ?_⟩
        rintro x w85 ⟨rfl, s85, g85, f85⟩
        refine ⟨rfl, next g85 ?_ ?_⟩
        · unfold bytesOp; rw [h10]; simp
        · unfold bytesOp; rw [h10] at l1 ⊢; simp at l1 ⊢; omega
      · unfold bytesOp; rw [if_neg h9, if_neg (by omega), if_neg h10]; simp
      · unfold bytesOp; rw [if_neg h9, if_neg (by omega), if_neg h10]; simp; omega
    · have hkn : k = e.ops.length := by omega
      subst hkn
      rw [List.take_length] at g20
      refine ⟨rfl, s20, ?_⟩
      unfold tailE
      rw [if_pos h1, ← List.append_assoc]; exact g20
  simp only [if_neg h1]
  by_cases h2 : e.kind = 2
  · simp only [if_pos h2]
    refine ⟨_, meth_mw, by rfl, entry_moving_write_ok _ _ _ ?_⟩
    unfold entry_moving_write
    refine newS_mk (fun r6 w7 hr6 hb6 k6 hs6 => ?_)
    have o6 : ObjAt w7 r6 [.int .i64 e.shard, .int .i64 e.server] := ObjAt.new' hb6
    refine ⟨_, o6.cell 0 (by simp), _, o6.cell 1 (by simp), newS_mk (fun r12 w13 hr12 hb12 k12 hs12 => ?_)⟩
    have hhd : headE e = [2, e.shard, e.server] := by unfold headE; rw [h2]; rfl
    have z6 := k6.size
    have n12 : ¬ OutM r s r12 := fun hx => by have := hlt _ hx; omega
    have o12 : ObjAt w13 r12 ((headE e).map intV) := by rw [hhd]; exact ObjAt.new' hb12
    have hN := nums_spec A (headE e) r12 ((hO.keep k6).keep k12) hE o12 n12 (by omega) hin (by omega)
    rw [show (headE e).length = 3 by rw [hhd]; rfl] at hN
    refine hN.mono ?_
    rintro x w15 ⟨rfl, s15, g15, f15⟩
    refine ⟨rfl, rfl, s15, ?_⟩
    unfold tailE
    rw [if_neg h1, if_neg (by omega), if_neg (by omega), List.append_nil]; exact g15
  simp only [if_neg h2]
  by_cases h3 : e.kind = 3
  · simp only [if_pos h3]
    refine ⟨_, meth_sw, by rfl, entry_splitting_write_ok _ _ _ _ _ ?_⟩
    unfold entry_splitting_write
    refine newS_mk (fun r6 w7 hr6 hb6 k6 hs6 => ?_)
    have o6 : ObjAt w7 r6 [.int .i64 e.shard, .int .i64 e.other, .int .i64 e.server, strV e.key] := ObjAt.new' hb6
    refine ⟨_, o6.cell 0 (by simp), _, o6.cell 1 (by simp), _, o6.cell 2 (by simp), newS_mk (fun r12 w13 hr12 hb12 k12 hs12 => ?_)⟩
    have hhd : headE e = [3, e.shard, e.other, e.server] := by unfold headE; rw [h3]; rfl
    have z6 := k6.size
    have n6 : ¬ OutM r s r6 := fun hx => by have := hlt _ hx; omega
    have n12 : ¬ OutM r s r12 := fun hx => by have := hlt _ hx; omega
    have o12 : ObjAt w13 r12 ((headE e).map intV) := by rw [hhd]; exact ObjAt.new' hb12
    have hN := nums_spec A (headE e) r12 ((hO.keep k6).keep k12) hE o12 n12 (by omega) hin (by omega)
    rw [show (headE e).length = 4 by rw [hhd]; rfl] at hN
    refine hN.mono ?_
    rintro x w15 ⟨rfl, s15, g15, f15⟩
    obtain ⟨o15, n15⟩ := foot_obj f15 (o6.keep k12) n6
    refine ⟨rfl, _, o15.cell 3 (by simp), (outText g15 (by have := hs.k; omega) (by rw [List.length_append]; omega) hE).mono ?_⟩
    rintro x w17 ⟨rfl, s17, g17, f17⟩
    refine ⟨rfl, rfl, s17, ?_⟩
    unfold tailE
    rw [if_neg h1, if_pos h3, ← List.append_assoc]; exact g17
  simp only [if_neg h3]
  by_cases h4 : e.kind = 4
  · simp only [if_pos h4]
    refine ⟨_, meth_gw, by rfl, entry_merging_write_ok _ _ _ ?_⟩
    unfold entry_merging_write
    refine newS_mk (fun r6 w7 hr6 hb6 k6 hs6 => ?_)
    have o6 : ObjAt w7 r6 [.int .i64 e.shard, .int .i64 e.other] := ObjAt.new' hb6
    refine ⟨_, o6.cell 0 (by simp), _, o6.cell 1 (by simp), newS_mk (fun r12 w13 hr12 hb12 k12 hs12 => ?_)⟩
    have hhd : headE e = [4, e.shard, e.other] := by unfold headE; rw [h4]; rfl
    have z6 := k6.size
    have n12 : ¬ OutM r s r12 := fun hx => by have := hlt _ hx; omega
    have o12 : ObjAt w13 r12 ((headE e).map intV) := by rw [hhd]; exact ObjAt.new' hb12
    have hN := nums_spec A (headE e) r12 ((hO.keep k6).keep k12) hE o12 n12 (by omega) hin (by omega)
    rw [show (headE e).length = 3 by rw [hhd]; rfl] at hN
    refine hN.mono ?_
    rintro x w15 ⟨rfl, s15, g15, f15⟩
    refine ⟨rfl, rfl, s15, ?_⟩
    unfold tailE
    rw [if_neg h1, if_neg h3, if_neg (by omega), List.append_nil]; exact g15
  have h5 : e.kind = 5 := by have := right_kind hr; unfold kindOk at this; omega
  simp only [if_neg h4]
  refine ⟨_, meth_cw, by rfl, entry_checking_write_ok _ _ _ _ _ _ ?_⟩
  unfold entry_checking_write
  refine newS_mk (fun r6 w7 hr6 hb6 k6 hs6 => ?_)
  have o6 : ObjAt w7 r6 [.int .i64 e.shard, .int .i64 e.upto, .int .i64 e.parts, .int .i64 e.part, sd.v] := ObjAt.new' hb6
  refine ⟨_, o6.cell 0 (by simp), _, o6.cell 1 (by simp), _, o6.cell 2 (by simp), _, o6.cell 3 (by simp), newS_mk (fun r12 w13 hr12 hb12 k12 hs12 => ?_)⟩
  have hhd : headE e = [5, e.shard, e.upto, e.parts, e.part] := by unfold headE; rw [h5]; rfl
  have z6 := k6.size
  have n6 : ¬ OutM r s r6 := fun hx => by have := hlt _ hx; omega
  have n12 : ¬ OutM r s r12 := fun hx => by have := hlt _ hx; omega
  have o12 : ObjAt w13 r12 ((headE e).map intV) := by rw [hhd]; exact ObjAt.new' hb12
  have hN := nums_spec A (headE e) r12 ((hO.keep k6).keep k12) hE o12 n12 (by omega) hin (by omega)
  rw [show (headE e).length = 5 by rw [hhd]; rfl] at hN
  refine hN.mono ?_
  rintro x w15 ⟨rfl, s15, g15, f15⟩
  obtain ⟨o15, n15⟩ := foot_obj f15 (o6.keep k12) n6
  refine ⟨rfl, sd, o15.cell 4 (by simp), e.data, bytesAt_keep h.d g15.k, (outText g15 (by have := hs.d; omega) (by rw [List.length_append]; omega) hE).mono ?_⟩
  rintro x w17 ⟨rfl, s17, g17, f17⟩
  refine ⟨rfl, rfl, s17, ?_⟩
  unfold tailE
  rw [if_neg h1, if_neg h3, if_pos h5, ← List.append_assoc]; exact g17

theorem bytesE_len {e : EnS} (hs : SmallE e) (hr : rightE e = true) : (bytesE e).length ≤ 30000 := by
  obtain ⟨hh5, hin⟩ := head_ok hr
  have hhl := heads_len (headE e) (fun n hn => (hin n hn).2)
  unfold bytesE tailE
  rw [List.length_append]
  have hops : e.kind = 1 → (e.ops.flatMap bytesOp).length ≤ 1000 * e.ops.length := by
    intro h1
    have hrops : ∀ o ∈ e.ops, rightOp o = true := by
      rcases right_cases hr with ⟨k, _, _, _, _, hh⟩ | ⟨k, _⟩ | ⟨k, _⟩ | ⟨k, _⟩ | ⟨k, _⟩
      · exact hh
      all_goals omega
    have go : ∀ (l : List OpS), (∀ o ∈ l, rightOp o = true ∧ o.key.length ≤ 300 ∧ o.val.length ≤ 300 ∧ o.old.length ≤ 300) → (l.flatMap bytesOp).length ≤ 1000 * l.length := by
      intro l
      induction l with
      | nil => simp
      | cons o l ih =>
        intro hl
        have h1 := ih (fun o ho => hl o (by simp [ho]))
        obtain ⟨hro, q1, q2, q3⟩ := hl o (by simp)
        obtain ⟨_, hkind⟩ := rightOp_cases hro
        have hk14 : 1 ≤ o.kind ∧ o.kind ≤ 4 := by rcases hkind with ⟨h, _⟩ | h | ⟨h, _⟩ | ⟨h, _⟩ <;> omega
        have l1 := numB_len o.kind (by omega)
        have l2 := textB_len o.key (by omega)
        have lv := textB_len o.val (by omega)
        have lo := textB_len o.old (by omega)
        have : (bytesOp o).length ≤ 1000 := by
          unfold bytesOp
          simp only [List.length_append]
          by_cases h4 : o.kind = 4
          · have hver : 0 ≤ o.ver ∧ o.ver ≤ 4096 := by rcases hkind with ⟨h, _⟩ | h | ⟨h, _⟩ | ⟨h, h2⟩ <;> omega
            have l5 := numB_len o.ver (by omega)
            rw [if_neg (by omega), if_neg (by omega), if_pos h4]
            simp only [List.length_nil]; omega
          · rw [if_neg h4]
            split <;> split <;> simp only [List.length_nil] <;> omega
        simp at h1 ⊢; omega
    exact go e.ops (fun o ho => ⟨hrops o ho, hs.o o ho⟩)
  have := hs.n
  have l2 := textB_len e.key (by have := hs.k; omega)
  have l3 := textB_len e.data (by have := hs.d; omega)
  have := hs.k
  have := hs.d
  split
  · rename_i h1; have := hops h1; omega
  · split
    · omega
    · split <;> (try simp only [List.length_nil]) <;> omega

/-- What Bytes hands back. -/
def entG : List Nat := [gl_ErrForm, gl_ErrLong]
theorem entryBytes_spec (A : Nat → Addr) {n0 : Nat} (e : EnS) (so sd : Slc) (w : World) (h : EnAt w e so sd) (hs : SmallE e) (hE : ErrsB A n0 w) :
    Calls Tryd.prog fn_entry_Bytes ⟨[.agg ⟨enC e so sd⟩]⟩ w fun x w' => Keep w w' ∧ ∃ (t : Slc) (er : Option Nat), x = .returned (.tuple ⟨[t.v, errO A er]⟩) ∧
      (rightE e = false → er = some 3 ∧ t = ⟨none, 0, 0⟩) ∧ (rightE e = true → 1848 < (bytesE e).length → er = some 2 ∧ t = ⟨none, 0, 0⟩) ∧ (rightE e = true → (bytesE e).length ≤ 1848 → er = none ∧ bytesAt w' t (bytesE e)) := by
  have hEG := hE.g
  refine entry_Bytes_ok _ _ _ _ _ _ _ _ _ _ _ _ ?_
  unfold entry_Bytes
  refine newS_mk (fun r w14 hr hb k14 hs14 => ?_)
  have o : ObjAt w14 r (enC e so sd) := ObjAt.new' hb
  refine ⟨_, _, _, _, _, _, _, _, _, _, _, _, o.row, (entryRight_spec A e so sd w14 (h.keep k14) hs ((hEG.keep k14).sub (by decide))).mono ?_⟩
  rintro x w28 ⟨rfl, k28⟩
  have kk := k14.trans k28
  refine ⟨_, rfl, BIf_mk (fun hf => ?_) (fun ht => ?_)⟩
  · have hrf : rightE e = false := by simpa using hf
    refine ⟨_, errG_at (hEG.keep kk.drew) 3 gl_ErrForm rfl (by decide), kk.drew, ⟨none, 0, 0⟩, some 3, rfl, fun _ => ⟨rfl, rfl⟩, fun hh => ?_, fun hh => ?_⟩
    · rw [hrf] at hh; cases hh
    · rw [hrf] at hh; cases hh
  have hrt : rightE e = true := by simpa using ht
  refine newS_mk (fun r31 w32 hr31 hb31 k31 hs31 => ?_)
  have kk32 := kk.trans k31
  refine ⟨_, _, _, _, _, _, _, _, _, _, _, _, ((o.keep k28).keep k31).row, (of_spec05 e so sd w32).mono ?_⟩
  rintro x w46 ⟨rfl, k46⟩
  have kk46 := kk32.trans k46
  refine ⟨_, rfl, ?_⟩
  have hv : recV e so sd = .iface (recT e) (.agg ⟨recC e so sd⟩) := if_pos (right_kind hrt)
  rw [hv]
  have z28 := kk.size
  have hO : OutK A w w46 r31 ⟨none, 0, 0⟩ [] := OutK.keep (w := w32) ⟨OutS.new A hb31, fun k hk => by rw [OutM_nil hk]; omega, kk32⟩ k46
  obtain ⟨g, hm, hcb, hc⟩ := recWrite_spec A e so sd h hs hrt hO hE (by simp)
  refine ⟨_, _, _, g, rfl, hm _, hcb, hc.mono ?_⟩
  rintro x w53 ⟨rfl, s53, g53⟩
  rw [List.nil_append] at g53
  have hbl := bytesE_len hs hrt
  refine ⟨rfl, (OutS_Done A n0 r31 s53 _ w53 g53.o (by simp only; omega) (hE.keep g53.k)).mono ?_⟩
  rintro x w55 ⟨t, e2, rfl, k55, ft, he2, ht2, hby⟩
  have kk55 := g53.k.trans k55
  have he2' : e2 = none := by rw [he2]; simp only; rw [if_neg (by omega)]
  subst he2'
  have hby' := hby rfl
  have htl := hby'.1
  refine ⟨t, _, rfl, errO_isI A _, BIf_mk (fun _ => BIf_dec (fun h1 => ?_) (fun h1 => ?_)) (fun hh => by cases hh)⟩
  · refine ⟨_, errG_at (hEG.keep kk55.drew) 2 gl_ErrLong rfl (by decide), kk55.drew, ⟨none, 0, 0⟩, some 2, rfl, fun hh => ?_, fun _ _ => ⟨rfl, rfl⟩, fun _ hl => by simp only at htl; omega⟩
    rw [hrt] at hh; cases hh
  · refine ⟨kk55, t, none, rfl, fun hh => ?_, fun _ hl => by simp only at htl; omega, fun _ _ => ⟨rfl, hby'⟩⟩
    rw [hrt] at hh; cases hh
end Go.D

set_option linter.unusedVariables false
set_option linter.unusedSimpArgs false
namespace Go.D
open Go Go.Proofs

theorem SameInts_spec (s t : Slc) (a b : List Int) (w : World) (ha : intsAt w s a) (hb : intsAt w t b) (hl : a.length ≤ 2 ^ 40) :
    Calls Tryd.prog fn_tidewaternum_SameInts ⟨[s.v, t.v]⟩ w fun e w' => e = .returned (.bool (decide (a = b))) ∧ Keep w w' := by
  have hsl := ha.1
  have htl := hb.1
  refine tidewaternum_SameInts_ok _ _ ?_
  unfold tidewaternum_SameInts
  refine BIf_ndec (fun h => ?_) (fun h => ?_)
  · rw [decide_eq_false (fun hh => h (by rw [hsl, htl, hh]))]
    exact ⟨rfl, Ext.refl _ _⟩
  · have hlen : a.length = b.length := by omega
    refine ⟨fun i w2 => ∃ k : Nat, i = k ∧ k ≤ a.length ∧ Keep w w2 ∧ ∀ j, j < k → a[j]? = b[j]?, fun i _ => ((a.length : Int) - i).toNat, ⟨0, rfl, by omega, Ext.refl _ _, fun j h => by omega⟩, ?_⟩
    rintro i w2 ⟨k, rfl, hk, hkp, hpre⟩
    intros
    refine BIf_dec (fun h1 => ?_) (fun h1 => ?_)
    · have hka : k < a.length := by omega
      have hkb : k < b.length := by omega
      obtain ⟨p, hp, hcp⟩ := intsAt_cell (intsAt_keep ha hkp.drew) hka
      obtain ⟨q, hq, hcq⟩ := intsAt_cell (intsAt_keep hb hkp.drew) hkb
      refine needSome_mk hp ⟨by omega, h1, a[k], by rw [show Int.toNat (k : Int) * 1 = k by omega]; exact hcp, needSome_mk hq ⟨by omega, by omega, b[k], by rw [show Int.toNat (k : Int) * 1 = k by omega]; exact hcq, ?_⟩⟩
      refine BIf_ndec (fun h2 => ?_) (fun h2 => ?_)
      · rw [decide_eq_false (fun hh => h2 (by subst hh; rfl))]
        exact ⟨rfl, hkp.drew⟩
      · refine ⟨inR64 (by omega), ⟨k + 1, rfl, by omega, hkp.drew, fun j hj => ?_⟩, by dsimp only; omega⟩
        rcases Nat.lt_or_ge j k with h | h
        · exact hpre j h
        · have : j = k := by omega
          subst this
          rw [List.getElem?_eq_getElem hka, List.getElem?_eq_getElem hkb, h2]
    · rw [decide_eq_true (List.ext_getElem? fun j => ?_)]
      · exact ⟨rfl, hkp⟩
      · rcases Nat.lt_or_ge j k with h | h
        · exact hpre j h
        · rw [List.getElem?_eq_none (by omega), List.getElem?_eq_none (by omega)]

end Go.D

set_option linter.unusedVariables false
set_option linter.unusedSimpArgs false
set_option maxRecDepth 8000
namespace Go.D
open Go Go.Proofs

/-! ### streams -/
def inS (k s o n : Int) : Bool := (decide (n = 0) && (decide (2 ≤ k) && decide (k ≤ 4))) || (decide (n = s) || ((decide (k = 3) || decide (k = 4)) && decide (n = o)))
def stE (k s o : Int) : List Int := if k = 1 ∨ k = 5 then [s] else if k = 2 then [0, s] else [0, if o < s then o else s, if o > s then o else s]
def refS (k s o : Int) (n : Nat) : List Int := ((List.range n).filter fun j : Nat => inS k s o (j : Int)).map fun j : Nat => (j : Int)
theorem refS_succ (k s o : Int) (n : Nat) : refS k s o (n + 1) = refS k s o n ++ (if inS k s o n = true then [(n : Int)] else []) := by
  unfold refS
  rw [List.range_succ, List.filter_append, List.map_append]
  congr 1
  by_cases h : inS k s o n = true
  · rw [if_pos h, List.filter_cons_of_pos (p := fun j : Nat => inS k s o (j : Int)) h]; rfl
  · rw [if_neg h, List.filter_cons_of_neg (p := fun j : Nat => inS k s o (j : Int)) h]; rfl
theorem refS_len (k s o : Int) (n : Nat) : (refS k s o n).length ≤ n := by
  unfold refS
  rw [List.length_map]
  exact Nat.le_trans (List.length_filter_le _ _) (by rw [List.length_range]; exact Nat.le_refl _)
theorem st_fin : ∀ k : Fin 6, ∀ s : Fin 13, ∀ o : Fin 13, (1 ≤ k.1 ∧ (k.1 = 2 → 1 ≤ s.1) ∧ (k.1 = 3 ∨ k.1 = 4 → 1 ≤ s.1 ∧ 1 ≤ o.1 ∧ ¬ s.1 = o.1)) → refS (k.1 : Int) (s.1 : Int) (o.1 : Int) 13 = stE (k.1 : Int) (s.1 : Int) (o.1 : Int) := by decide +kernel
theorem st_one {k s o : Int} (hk : 1 ≤ k ∧ k ≤ 5) (hs : 0 ≤ s ∧ s ≤ 12) (ho : 0 ≤ o ∧ o ≤ 12) (h2 : k = 2 → 1 ≤ s) (h3 : k = 3 ∨ k = 4 → 1 ≤ s ∧ 1 ≤ o ∧ ¬ s = o) : refS k s o 13 = stE k s o := by
  have := st_fin ⟨k.toNat, by omega⟩ ⟨s.toNat, by omega⟩ ⟨o.toNat, by omega⟩ ⟨by simp only; omega, fun h => by simp only at h ⊢; omega, fun h => by simp only at h ⊢; omega⟩
  simp only [show ((k.toNat : Nat) : Int) = k by omega, show ((s.toNat : Nat) : Int) = s by omega, show ((o.toNat : Nat) : Int) = o by omega] at this
  exact this
theorem st_right {e : EnS} (h : rightE e = true) : refS e.kind e.shard e.other 13 = stE e.kind e.shard e.other := by
  have key : ∀ {k s o : Int}, ¬ (k = 3 ∨ k = 4) → refS k s o 13 = refS k s 0 13 ∧ stE k s o = stE k s 0 ∨ ¬ (1 ≤ k ∧ k ≤ 5) := by
    intro k s o hk
    by_cases h5 : 1 ≤ k ∧ k ≤ 5
    · refine .inl ⟨?_, ?_⟩
      · unfold refS inS
        rw [decide_eq_false (fun h => hk (.inl h)), decide_eq_false (fun h => hk (.inr h))]
        simp
      · unfold stE
        by_cases h1 : k = 1 ∨ k = 5
        · rw [if_pos h1, if_pos h1]
        · have h2 : k = 2 := by omega
          rw [if_neg h1, if_neg h1, if_pos h2, if_pos h2]
    · exact .inr h5
  have kd := right_kind h
  unfold kindOk at kd
  by_cases h34 : e.kind = 3 ∨ e.kind = 4
  · have ht : twoB e = true := by
      rcases right_cases h with ⟨k, _⟩ | ⟨k, _⟩ | ⟨k, hh⟩ | ⟨k, hh⟩ | ⟨k, _⟩
      · omega
      · omega
      · exact twoB_iff.2 hh.1
      · exact twoB_iff.2 hh
      · omega
    obtain ⟨⟨a1, a2⟩, ⟨a3, a4⟩, a5⟩ := twoB_iff.1 ht
    exact st_one kd (by omega) (by omega) (by omega) (fun _ => ⟨a1, a3, a5⟩)
  · rcases key (s := e.shard) (o := e.other) h34 with ⟨q1, q2⟩ | q
    · rw [q1, q2]
      have hsb : 0 ≤ e.shard ∧ e.shard ≤ 12 ∧ (e.kind = 2 → 1 ≤ e.shard) := by
        unfold rightE uptoB at h
        by_cases k1 : e.kind = 1
        · rw [if_pos k1] at h; simp at h; omega
        · by_cases k2 : e.kind = 2
          · rw [if_neg k1, if_pos k2] at h; simp at h; omega
          · rw [if_neg k1, if_neg k2, if_neg (by omega), if_neg (by omega), if_pos (by omega)] at h; simp at h; omega
      exact st_one kd ⟨hsb.1, hsb.2.1⟩ (by omega) hsb.2.2 (fun hh => (h34 hh).elim)
    · exact (q kd).elim

theorem refStreams05_spec (e : EnS) (so sd : Slc) (w : World) :
    Calls Tryd.prog fn_tidewaterref05_Streams ⟨[.agg ⟨enC e so sd⟩]⟩ w fun x w' => ∃ t : Slc, x = .returned t.v ∧ IntsAt w' t (refS e.kind e.shard e.other 13) ∧ Keep w w' := by
  refine tidewaterref05_Streams_ok _ _ _ _ _ _ _ _ _ _ _ _ ?_
  unfold tidewaterref05_Streams
  refine newS_mk (fun r w14 hr hb k14 hs14 => ?_)
  have o : ObjAt w14 r (enC e so sd) := ObjAt.new' hb
  refine newS_mk (fun r15 w16 hr15 hb15 k16 hs16 => ?_)
  refine ⟨fun out s w2 => ∃ k : Nat, s = k ∧ k ≤ 13 ∧ IntsAt w2 out (refS e.kind e.shard e.other k) ∧ Fresh w14 out ∧ Keep w14 w2, fun _ s _ => (13 - s).toNat, ⟨0, rfl, by omega, IntsAt.new hb15, fun j hj => ?_, k16⟩, ?_⟩
  · obtain ⟨a, ha, rfl⟩ := hj
    cases ha
    simp only at *
    omega
  rintro out s w2 ⟨k, rfl, hk, hi, hf, kk⟩
  intros
  have o2 := o.keep kk
  have hl : (refS e.kind e.shard e.other k).length < 2 ^ 30 := by have := refS_len e.kind e.shard e.other k; omega
  refine BIf_dec (fun hlt => ?_) (fun hge => ?_)
  · have P : inS e.kind e.shard e.other k = true → ∀ s' w', IntsAt w' s' (refS e.kind e.shard e.other k ++ [(k : Int)]) → Fresh w14 s' → Keep w14 w' →
        inR .i64 ((k : Int) + 1) ∧ (∃ k2 : Nat, ((k : Int) + 1) = k2 ∧ k2 ≤ 13 ∧ IntsAt w' s' (refS e.kind e.shard e.other k2) ∧ Fresh w14 s' ∧ Keep w14 w') ∧ (13 - ((k : Int) + 1)).toNat < (13 - (k : Int)).toNat := by
      intro hin s' w' g1 g2 g3
      refine ⟨inR64 (by omega), ⟨k + 1, rfl, by omega, ?_, g2, g3⟩, by omega⟩
      rw [refS_succ, if_pos hin]; exact g1
    have N : inS e.kind e.shard e.other k = false →
        inR .i64 ((k : Int) + 1) ∧ (∃ k2 : Nat, ((k : Int) + 1) = k2 ∧ k2 ≤ 13 ∧ IntsAt w2 out (refS e.kind e.shard e.other k2) ∧ Fresh w14 out ∧ Keep w14 w2) ∧ (13 - ((k : Int) + 1)).toNat < (13 - (k : Int)).toNat := by
      intro hin
      refine ⟨inR64 (by omega), ⟨k + 1, rfl, by omega, ?_, hf, kk⟩, by omega⟩
      rw [refS_succ, if_neg (by rw [hin]; decide), List.append_nil]; exact hi
    have c0 := o2.cell 0 (by simp [enC])
    have c1 := o2.cell 1 (by simp [enC])
    have c2 := o2.cell 2 (by simp [enC])
    refine BIf_dec (fun z => ⟨_, c0, BIf_dec (fun a => ⟨_, c0, BIf_dec (fun b => ?_) (fun b => ?_)⟩) (fun a => ?_)⟩) (fun z => ?_)
    · exact IntsAt.push hi hf kk hl (fun s' w' g1 g2 g3 _ _ => P (by unfold inS; simp; omega) s' w' g1 g2 g3)
    all_goals
      refine ⟨_, c1, BIf_dec (fun h1 => ?_) (fun h1 => ⟨_, c0, BIf_dec (fun h3 => ⟨_, c2, BIf_dec (fun h2 => ?_) (fun h2 => ?_)⟩) (fun h3 => ⟨_, c0, BIf_dec (fun h4 => ⟨_, c2, BIf_dec (fun h2 => ?_) (fun h2 => ?_)⟩) (fun h4 => ?_)⟩)⟩)⟩
      · exact IntsAt.push hi hf kk hl (fun s' w' g1 g2 g3 _ _ => P (by unfold inS; simp; omega) s' w' g1 g2 g3)
      · exact IntsAt.push hi hf kk hl (fun s' w' g1 g2 g3 _ _ => P (by unfold inS; simp; omega) s' w' g1 g2 g3)
      · exact N (by unfold inS; simp; omega)
      · exact IntsAt.push hi hf kk hl (fun s' w' g1 g2 g3 _ _ => P (by unfold inS; simp; omega) s' w' g1 g2 g3)
      · exact N (by unfold inS; simp; omega)
      · exact N (by unfold inS; simp; omega)
  · have : k = 13 := by omega
    subst this
    exact ⟨out, rfl, hi, k14.trans kk⟩

theorem ints_new {w : World} {r n : Nat} {l : List Int} {T : TypeId} (h : w.heap[r]? = some (.cells ⟨l.map intV⟩ T)) (hn : n = l.length) : intsAt w ⟨some ⟨r, 0, none⟩, n, n⟩ l := by
  refine ⟨hn, .inr ⟨_, rfl, fun i hi => ?_⟩⟩
  have := cell_of h i
  rw [show (Addr.add ⟨r, 0, none⟩ i) = ⟨r, i, none⟩ by simp [Addr.add]; intro hh; exact hh.symm]
  rw [this, List.getElem?_eq_getElem hi]
theorem recStreams_spec (e : EnS) (so sd : Slc) (hkd : kindOk e) (w : World) :
    ∃ g, isMeth (recT e) "tidewater/entry.streams" g ∧ callB g = true ∧ Calls Tryd.prog g ⟨[.agg ⟨recC e so sd⟩]⟩ w fun x w' => ∃ t : Slc, x = .returned t.v ∧ intsAt w' t (stE e.kind e.shard e.other) ∧ Keep w w' := by
  unfold recT recC stE
  obtain ⟨d1, d2⟩ := hkd
  by_cases h1 : e.kind = 1
  · rw [if_pos h1, if_pos h1, if_pos (.inl h1)]
    refine ⟨_, meth_ws, by kernel_rfl, entry_writing_streams_ok _ _ _ _ ?_⟩
    unfold entry_writing_streams
    refine newS_mk (fun r w4 hr hb k4 hs => ⟨_, (ObjAt.new' hb).cell 0 (by simp), newS_mk (fun r5 w5 hr5 hb5 k5 hs5 => ⟨_, rfl, ints_new hb5 rfl, k4.trans k5⟩)⟩)
  by_cases h2 : e.kind = 2
  · rw [if_neg h1, if_neg h1, if_pos h2, if_pos h2, if_neg (by omega), if_pos h2]
    refine ⟨_, meth_ms, by kernel_rfl, entry_moving_streams_ok _ _ ?_⟩
    unfold entry_moving_streams
    refine newS_mk (fun r w4 hr hb k4 hs => ⟨_, (ObjAt.new' hb).cell 0 (by simp), newS_mk (fun r5 w5 hr5 hb5 k5 hs5 => ⟨_, rfl, ints_new hb5 rfl, k4.trans k5⟩)⟩)
  by_cases h3 : e.kind = 3
  · rw [if_neg h1, if_neg h1, if_neg h2, if_neg h2, if_pos h3, if_pos h3, if_neg (by omega), if_neg h2]
    refine ⟨_, meth_ss, by kernel_rfl, entry_splitting_streams_ok _ _ _ _ ?_⟩
    unfold entry_splitting_streams
    refine newS_mk (fun r w4 hr hb k4 hs => ⟨_, (ObjAt.new' hb).cell 0 (by simp), _, (ObjAt.new' hb).cell 1 (by simp), _, (ObjAt.new' hb).cell 0 (by simp), _, (ObjAt.new' hb).cell 1 (by simp), newS_mk (fun r5 w5 hr5 hb5 k5 hs5 => ⟨_, rfl, ints_new hb5 rfl, k4.trans k5⟩)⟩)
  by_cases h4 : e.kind = 4
  · rw [if_neg h1, if_neg h1, if_neg h2, if_neg h2, if_neg h3, if_neg h3, if_pos h4, if_pos h4, if_neg (by omega), if_neg h2]
    refine ⟨_, meth_gs, by kernel_rfl, entry_merging_streams_ok _ _ ?_⟩
    unfold entry_merging_streams
    refine newS_mk (fun r w4 hr hb k4 hs => ⟨_, (ObjAt.new' hb).cell 0 (by simp), _, (ObjAt.new' hb).cell 1 (by simp), _, (ObjAt.new' hb).cell 0 (by simp), _, (ObjAt.new' hb).cell 1 (by simp), newS_mk (fun r5 w5 hr5 hb5 k5 hs5 => ⟨_, rfl, ints_new hb5 rfl, k4.trans k5⟩)⟩)
  · rw [if_neg h1, if_neg h1, if_neg h2, if_neg h2, if_neg h3, if_neg h3, if_neg h4, if_neg h4, if_pos (by omega)]
    refine ⟨_, meth_cs, by kernel_rfl, entry_checking_streams_ok _ _ _ _ _ ?_⟩
    unfold entry_checking_streams
    refine newS_mk (fun r w4 hr hb k4 hs => ⟨_, (ObjAt.new' hb).cell 0 (by simp), newS_mk (fun r5 w5 hr5 hb5 k5 hs5 => ⟨_, rfl, ints_new hb5 rfl, k4.trans k5⟩)⟩)
theorem entryStreams_spec (A : Nat → Addr) {n0 : Nat} (e : EnS) (so sd : Slc) (w : World) (h : EnAt w e so sd) (hs : SmallE e) (hE : ErrsG keyG A n0 w) :
    Calls Tryd.prog fn_entry_Streams ⟨[.agg ⟨enC e so sd⟩]⟩ w fun x w' => Keep w w' ∧ ∃ t : Slc, x = .returned t.v ∧ (rightE e = false → t = ⟨none, 0, 0⟩) ∧ (rightE e = true → intsAt w' t (stE e.kind e.shard e.other)) := by
  refine entry_Streams_ok _ _ _ _ _ _ _ _ _ _ _ _ ?_
  unfold entry_Streams
  refine newS_mk (fun r w14 hr hb k14 hs14 => ?_)
  have o : ObjAt w14 r (enC e so sd) := ObjAt.new' hb
  refine ⟨_, _, _, _, _, _, _, _, _, _, _, _, o.row, (entryRight_spec A e so sd w14 (h.keep k14) hs (hE.keep k14)).mono ?_⟩
  rintro x w28 ⟨rfl, k28⟩
  have kk := k14.trans k28
  refine ⟨_, rfl, BIf_mk (fun hf => ?_) (fun ht => ?_)⟩
  · have hrf : rightE e = false := by simpa using hf
    refine ⟨kk, _, rfl, fun _ => rfl, fun hh => ?_⟩
    rw [hrf] at hh; cases hh
  have hrt : rightE e = true := by simpa using ht
  refine ⟨_, _, _, _, _, _, _, _, _, _, _, _, (o.keep k28).row, (of_spec05 e so sd w28).mono ?_⟩
  rintro x w43 ⟨rfl, k43⟩
  have kk43 := kk.trans k43
  refine ⟨_, rfl, ?_⟩
  have hv : recV e so sd = .iface (recT e) (.agg ⟨recC e so sd⟩) := if_pos (right_kind hrt)
  rw [hv]
  obtain ⟨g, hm, hcb, hc⟩ := recStreams_spec e so sd (right_kind hrt) w43
  refine ⟨_, _, _, g, rfl, hm _, hcb, hc.mono ?_⟩
  rintro x w50 ⟨t, rfl, ht, k50⟩
  refine ⟨_, rfl, kk43.trans k50, t, rfl, fun hh => ?_, fun _ => ht⟩
  rw [hrt] at hh; cases hh
theorem isOther_of {t T : Nat} {v : Value} (h : t ≠ T) : asrtK.isOther (.iface t v) T := .inr ⟨t, v, rfl, h⟩
end Go.D

set_option linter.unusedVariables false
set_option linter.unusedSimpArgs false
namespace Go.D
open Go Go.Proofs

/-- A number read off bytes: its value and what is behind, or the error's place. -/
def rawR : Nat → Nat → List UInt8 → Except Nat (Nat × List UInt8)
  | _, _, [] => .error 1
  | k, n, c :: rest =>
    if 128 ≤ c.toNat ∧ k < 8 then rawR (k + 1) (n + (c.toNat % 128) * 2 ^ (7 * k)) rest
    else if 128 ≤ c.toNat ∨ (c.toNat = 0 ∧ 0 < k) ∨ 4611686018427387903 < n + (c.toNat % 128) * 2 ^ (7 * k) then .error 3
    else .ok (n + (c.toNat % 128) * 2 ^ (7 * k), rest)

/-- A reader: a struct that holds a slice of bytes and an error. -/
def InAt (w : World) (r : Nat) (s : Slc) (bs : List UInt8) (ev : Value) : Prop := ObjAt w r [s.v, ev] ∧ bytesAt w s bs ∧ ¬ ownB s r ∧ s.l ≤ s.c
def eqB (r k : Nat) : Prop := k = r

theorem InAt.ext {M : Nat → Prop} {w w' : World} {r : Nat} {s : Slc} {bs : List UInt8} {ev : Value} (h : InAt w r s bs ev) (he : Ext M w w') (hm : ∀ k, OutM r s k → ¬ M k) : InAt w' r s bs ev :=
  ⟨h.1.ext he (hm r (.inl rfl)), bytesAt_ext h.2.1 he (fun k hk => hm k (.inr hk)), h.2.2⟩
theorem InAt.keep {w w' : World} {r : Nat} {s : Slc} {bs : List UInt8} {ev : Value} (h : InAt w r s bs ev) (he : Keep w w') : InAt w' r s bs ev := h.ext he (fun _ _ h => h)
theorem InAt.c0 {w : World} {r : Nat} {s : Slc} {bs : List UInt8} {ev : Value} (h : InAt w r s bs ev) : w.cell? ⟨r, 0, none⟩ = some s.v := h.1.cell 0 (by simp)
theorem InAt.c1 {w : World} {r : Nat} {s : Slc} {bs : List UInt8} {ev : Value} (h : InAt w r s bs ev) : w.cell? ⟨r, 1, none⟩ = some ev := h.1.cell 1 (by simp)
theorem InAt.setErr {w : World} {r : Nat} {s : Slc} {bs : List UInt8} {ev : Value} (h : InAt w r s bs ev) (v : Value) :
    canW w ⟨r, 1, none⟩ 1 ∧ InAt (w.setCell ⟨r, 1, none⟩ v) r s bs v ∧ Ext (eqB r) w (w.setCell ⟨r, 1, none⟩ v) := by
  obtain ⟨h1, h2, h3⟩ := h.1.set 1 (by simp) v
  exact ⟨h1, ⟨h2, bytesAt_ext h.2.1 h3 (fun k hk he => h.2.2.1 (he ▸ hk)), h.2.2⟩, h3⟩

theorem In_fail_spec (r : Nat) (s : Slc) (bs : List UInt8) (ev v : Value) (w : World) (h : InAt w r s bs ev) (hi : isI ev) (hv : ∀ X : Prop, X → oneK v X) :
    Calls Tryd.prog fn_pack_In_fail ⟨[.pointer (some ⟨r, 0, none⟩), v]⟩ w fun e w' => e = .returned (.int .i64 0) ∧ InAt w' r s bs (failE ev v) ∧ Ext (eqB r) w w' := by
  refine pack_In_fail_ok _ _ ?_
  refine needSome_mk rfl ⟨_, by rw [add_lit]; exact h.c1, hi, BIf_mk (fun hn => needSome_mk rfl (hv _ (hv _ ?_))) (fun hn => ?_)⟩
  · obtain ⟨h1, h2, h3⟩ := h.setErr v
    rw [add_lit]
    refine ⟨h1, ?_⟩
    rintro w6 rfl
    refine ⟨rfl, ?_, h3⟩
    rw [failE, if_pos hn]; exact h2
  · refine ⟨rfl, ?_, Ext.refl _ _⟩
    rw [failE, if_neg (by rw [hn]; decide)]; exact h

theorem ownB_sub {s : Slc} {sz lo hi c k : Nat} (h : ownB (Slc.sub s sz lo hi c) k) : ownB s k := by
  obtain ⟨a, ha, rfl⟩ := h
  simp only [Slc.sub] at ha
  split at ha
  · exact ⟨a, ha, rfl⟩
  · obtain ⟨b, hb, rfl⟩ := Option.map_eq_some_iff.1 ha
    exact ⟨b, hb, (add_block b _).symm⟩

/-- The reader's slice is cut. -/
theorem InAt.cut {w : World} {r : Nat} {s : Slc} {bs : List UInt8} {ev : Value} (h : InAt w r s bs ev) {k : Nat} (hk : k ≤ bs.length) :
    canW w ⟨r, 0, none⟩ 1 ∧ InAt (w.setCell ⟨r, 0, none⟩ (Slc.sub s 1 k s.l s.c).v) r (Slc.sub s 1 k s.l s.c) (bs.drop k) ev ∧ Ext (eqB r) w (w.setCell ⟨r, 0, none⟩ (Slc.sub s 1 k s.l s.c).v) := by
  obtain ⟨h1, h2, h3⟩ := h.1.set 0 (by simp) (Slc.sub s 1 k s.l s.c).v
  have hl := h.2.1.1
  have hc := h.2.2.2
  have hb : bytesAt w (Slc.sub s 1 k s.l s.c) (bs.drop k) := by
    have := bytesAt_sub h.2.1 (lo := k) (hi := s.l) (c := s.c) (by omega) (by omega) (by omega)
    rw [hl, List.take_length] at this
    rw [hl]; exact this
  have hn : ¬ ownB (Slc.sub s 1 k s.l s.c) r := fun hh => h.2.2.1 (ownB_sub hh)
  refine ⟨h1, ⟨h2, bytesAt_ext hb h3 (fun x hx he => hn (he ▸ hx)), hn, ?_⟩, h3⟩
  simp only [Slc.sub]
  omega

/-- How a reading of a number ends. -/
def RawRes (A : Nat → Addr) (w w' : World) (r : Nat) (s : Slc) (bs : List UInt8) (n : Int) : Except Nat (Nat × List UInt8) → Prop
  | .error k => n = 0 ∧ InAt w' r s bs (errV A (errG.getD k 0)) ∧ Ext (eqB r) w w'
  | .ok (m, rest) => n = m ∧ ∃ s', InAt w' r s' rest .nilIface ∧ (∀ k, ownB s' k → ownB s k) ∧ Ext (eqB r) w w'

theorem In_raw_spec (A : Nat → Addr) (r : Nat) (s : Slc) (bs : List UInt8) (w : World) (h : InAt w r s bs .nilIface) (hl : bs.length ≤ 2 ^ 30) (hE : Errs A w) :
    Calls Tryd.prog fn_pack_In_raw ⟨[.pointer (some ⟨r, 0, none⟩)]⟩ w fun e w' => ∃ n : Int, e = .returned (.int .i64 n) ∧ RawRes A w w' r s bs n (rawR 0 0 bs) := by
  have hsl := h.2.1.1
  refine pack_In_raw_ok _ ?_
  unfold pack_In_raw
  refine needSome_mk rfl ⟨s, h.c0, ?_⟩
  refine ⟨fun n i w2 => w2 = w ∧ ∃ k m : Nat, i = k ∧ n = m ∧ k ≤ bs.length ∧ k ≤ 8 ∧ m < 2 ^ (7 * k) ∧ rawR k m (bs.drop k) = rawR 0 0 bs, fun _ i _ => ((bs.length : Int) - i).toNat, ⟨rfl, 0, 0, rfl, rfl, by omega, by omega, by simp, rfl⟩, ?_⟩
  rintro n6 i7 w8 ⟨rfl, k, m, rfl, rfl, hk, hk8, hm, hraw⟩
  intros
  have fail : ∀ (j : Nat), j < 19 → Calls Tryd.prog fn_pack_In_fail ⟨[.pointer (some ⟨r, 0, none⟩), errV A (errG.getD j 0)]⟩ w8 fun e w' => e = .returned (.int .i64 0) ∧ InAt w' r s bs (errV A (errG.getD j 0)) ∧ Ext (eqB r) w8 w' :=
    fun j hj => In_fail_spec r s bs .nilIface _ w8 h trivial (errV_one A _)
  refine BIf_dec (fun h1 => ?_) (fun h1 => ?_)
  · have hkl : k < bs.length := by omega
    obtain ⟨a, ha, hc⟩ := bytesAt_cell h.2.1 hkl
    have hd : bs.drop k = bs[k] :: bs.drop (k + 1) := drop_get hkl
    rw [hd, rawR] at hraw
    have hcl := bs[k].toNat_lt
    generalize hcc : bs[k].toNat = c at hraw hcl
    have hc' : w8.cell? (a.add k) = some (.int .u8 (c : Int)) := by rw [hc, byteV, hcc]
    have hmin : min (Int.toNat ((7 : Int) * (k : Int))) 64 = 7 * k := by omega
    have hP : 2 ^ (7 * k) ≤ 2 ^ 56 := Nat.pow_le_pow_right (by omega) (by omega)
    have hP1 : 2 ^ (7 * (k + 1)) = 128 * 2 ^ (7 * k) := by rw [show 7 * (k + 1) = 7 + 7 * k by omega, Nat.pow_add]
    have hor := or_disj m (c % 128) (7 * k) hm
    have hdm : (c % 128) * 2 ^ (7 * k) ≤ 127 * 2 ^ (7 * k) := Nat.mul_le_mul_right _ (by omega)
    rw [hmin]
    have ecast : ((c : Int) % 128) * ((2 ^ (7 * k) : Nat) : Int) = (((c % 128) * 2 ^ (7 * k) : Nat) : Int) := by
      rw [Int.natCast_mul]; congr 1
    refine needSome_mk ha ⟨by omega, h1, (c : Int), by rw [show (Int.toNat (k : Int)) * 1 = k by omega]; exact hc', ?_⟩
    rw [ecast, bits_or, hor]
    generalize hdv : (c % 128) * 2 ^ (7 * k) = d at hraw hdm
    generalize hPv : 2 ^ (7 * k) = P at hP hP1 hm hdm
    refine ⟨by omega, by omega, inR64 (by omega), inR64 (by omega), by omega, inR64 (by omega), by omega, by omega, inR64 (by omega), inR64 (by omega), ?_⟩
    refine ⟨fun w2 => w2 = w8 ∧ ¬ (128 ≤ c ∧ k < 8), BIf_dec (fun h2 => BIf_dec (fun h3 => ?_) (fun h3 => ⟨rfl, by omega⟩)) (fun h2 => ⟨rfl, by omega⟩), ?_⟩
    · rw [if_pos (by omega)] at hraw
      exact ⟨inR64 (by omega), ⟨rfl, k + 1, m + d, rfl, rfl, by omega, by omega, by rw [hP1]; omega, hraw⟩, by dsimp only; omega⟩
    · rintro w66 ⟨rfl, hno⟩
      intros
      rw [if_neg hno] at hraw
      have form : (128 ≤ c ∨ (c = 0 ∧ 0 < k) ∨ 4611686018427387903 < m + d) → ∃ v : Value, w66.cell? ⟨gl_ErrForm, 0, none⟩ = some v ∧ Calls Tryd.prog fn_pack_In_fail ⟨[.pointer (some ⟨r, 0, none⟩), v]⟩ w66 fun e w' => ∃ n : Int, e = .returned (.int .i64 n) ∧ ∃ n' : Int, Ending.returned (Value.int .i64 n) = .returned (.int .i64 n') ∧ RawRes A w66 w' r s bs n' (rawR 0 0 bs) := by
        intro hbad
        refine ⟨_, Errs.at hE 3 (by omega), (fail 3 (by omega)).mono ?_⟩
        rintro e w' ⟨rfl, g1, g2⟩
        rw [if_pos hbad] at hraw
        refine ⟨0, rfl, 0, rfl, ?_⟩
        rw [← hraw]
        exact ⟨rfl, g1, g2⟩
      have good : ¬ (128 ≤ c ∨ (c = 0 ∧ 0 < k) ∨ 4611686018427387903 < m + d) →
          needSome (some (⟨r, 0, none⟩ : Addr)) fun a102 => ∃ s103 : Slc, w66.cell? a102 = some s103.v ∧ inR .i64 ((k : Int) + 1) ∧ 0 ≤ ((k : Int) + 1) ∧ ((k : Int) + 1) ≤ ((s103.l : Nat) : Int) ∧ ((s103.l : Nat) : Int) ≤ ((s103.c : Nat) : Int) ∧ ((s103.c : Nat) : Int) ≤ ((s103.c : Nat) : Int) ∧
            needSome (some (⟨r, 0, none⟩ : Addr)) fun a105 => canW w66 a105 1 ∧ ∀ w106 : World, w106 = w66.setCell a105 (Slc.v (Slc.sub s103 1 (Int.toNat ((k : Int) + 1)) s103.l s103.c)) →
              ∃ n' : Int, Ending.returned (Value.int .i64 ((m + d : Nat) : Int)) = .returned (.int .i64 n') ∧ RawRes A w66 w106 r s bs n' (rawR 0 0 bs) := by
        intro hgood
        rw [if_neg hgood] at hraw
        have ek : Int.toNat ((k : Int) + 1) = k + 1 := by omega
        obtain ⟨g1, g2, g3⟩ := h.cut (k := k + 1) (by omega)
        refine needSome_mk rfl ⟨s, h.c0, inR64 (by omega), by omega, by omega, by have := h.2.2.2; omega, by omega, needSome_mk rfl ⟨g1, ?_⟩⟩
        rintro w106 rfl
        rw [ek]
        refine ⟨_, rfl, ?_⟩
        rw [← hraw]
        exact ⟨rfl, _, g2, fun x hx => ownB_sub hx, g3⟩
      refine BIf_dec (fun h2 => form (.inl (by omega))) (fun h2 => BIf_dec (fun h3 => BIf_dec (fun h4 => form (.inr (.inl (by omega)))) (fun h4 => ?_)) (fun h3 => ?_))
      · refine BIf_dec (fun h5 => form (.inr (.inr (by omega)))) (fun h5 => BIf_dec (fun h6 => by omega) (fun h6 => good (by omega)))
      · refine BIf_dec (fun h5 => form (.inr (.inr (by omega)))) (fun h5 => BIf_dec (fun h6 => by omega) (fun h6 => good (by omega)))
  · refine ⟨_, Errs.at hE 1 (by omega), (fail 1 (by omega)).mono ?_⟩
    rintro e w' ⟨rfl, g1, g2⟩
    have : bs.drop k = [] := List.drop_eq_nil_of_le (by omega)
    rw [this, rawR] at hraw
    refine ⟨0, rfl, 0, rfl, ?_⟩
    rw [← hraw]
    exact ⟨rfl, g1, g2⟩
end Go.D

set_option linter.unusedVariables false
set_option linter.unusedSimpArgs false
namespace Go.D
open Go Go.Proofs

theorem ofNat_toNat8 {n : Nat} (h : n < 256) : (UInt8.ofNat n).toNat = n := by
  simp [UInt8.toNat_ofNat', Nat.mod_eq_of_lt h]
theorem toNat_ofNat8 (c : UInt8) : UInt8.ofNat c.toNat = c := by simp

theorem pow7 (k : Nat) : 2 ^ (7 * (k + 1)) = 128 * 2 ^ (7 * k) := by rw [show 7 * (k + 1) = 7 + 7 * k by omega, Nat.pow_add]

/-- What is read is what was written. -/
theorem rawR_enc : ∀ (bs : List UInt8) (k m n : Nat) (rest : List UInt8), rawR k m bs = .ok (n, rest) →
    ∃ q, n = m + q * 2 ^ (7 * k) ∧ bs = encN q ++ rest ∧ (0 < k → 0 < q) ∧ n ≤ 4611686018427387903
  | [], k, m, n, rest, h => by simp [rawR] at h
  | c :: bs, k, m, n, rest, h => by
    rw [rawR] at h
    have hc := c.toNat_lt
    split at h
    · rename_i h1
      obtain ⟨q, h2, h3, h4, h5⟩ := rawR_enc bs (k + 1) _ n rest h
      refine ⟨c.toNat % 128 + 128 * q, ?_, ?_, fun _ => by have := h4 (by omega); omega, h5⟩
      · rw [h2, pow7, Nat.add_mul, Nat.add_assoc, ← Nat.mul_assoc, Nat.mul_comm q 128]
      · have hq := h4 (by omega)
        rw [encN_ge (by omega), h3]
        have e1 : (c.toNat % 128 + 128 * q) % 128 + 128 = c.toNat := by omega
        have e2 : (c.toNat % 128 + 128 * q) / 128 = q := by omega
        rw [e1, e2, toNat_ofNat8]; rfl
    · split at h
      · cases h
      · rename_i h1 h2
        simp only [Except.ok.injEq, Prod.mk.injEq] at h
        obtain ⟨rfl, rfl⟩ := h
        have h3 : c.toNat < 128 := by omega
        have e1 : c.toNat % 128 = c.toNat := by omega
        rw [e1] at h2 ⊢
        refine ⟨c.toNat, rfl, ?_, fun _ => by omega, by omega⟩
        rw [encN_lt h3, toNat_ofNat8]; rfl

/-- What was written is read. -/
theorem enc_rawR : ∀ (q k m : Nat) (rest : List UInt8), k ≤ 8 → (0 < k → 0 < q) → m + q * 2 ^ (7 * k) ≤ 4611686018427387903 →
    rawR k m (encN q ++ rest) = .ok (m + q * 2 ^ (7 * k), rest) := by
  intro q
  induction q using Nat.strongRecOn with
  | ind q ih =>
    intro k m rest hk hq hm
    by_cases h : q < 128
    · rw [encN_lt h]
      simp only [List.cons_append, List.nil_append, rawR, ofNat_toNat8 (show q < 256 by omega)]
      have e1 : q % 128 = q := by omega
      rw [e1, if_neg (by omega), if_neg (by omega)]
    · rw [encN_ge h]
      simp only [List.cons_append, rawR, ofNat_toNat8 (show q % 128 + 128 < 256 by omega)]
      have e1 : (q % 128 + 128) % 128 = q % 128 := by omega
      have hk8 : k < 8 := by
        rcases Nat.lt_or_ge k 8 with h | h
        · exact h
        · have hk8 : k = 8 := by omega
          subst hk8
          exfalso
          have e9 : (2 : Nat) ^ (7 * 8) = 72057594037927936 := by decide
          rw [e9] at hm
          have : 128 * 72057594037927936 ≤ q * 72057594037927936 := Nat.mul_le_mul_right _ (by omega)
          omega
      have e2 : m + q % 128 * 2 ^ (7 * k) + q / 128 * 2 ^ (7 * (k + 1)) = m + q * 2 ^ (7 * k) := by
        rw [pow7, Nat.add_assoc]
        congr 1
        rw [← Nat.mul_assoc, ← Nat.add_mul]
        congr 1
        omega
      rw [e1, if_pos ⟨by omega, hk8⟩, ih (q / 128) (by omega) (k + 1) _ rest (by omega) (fun _ => by omega) (by rw [e2]; exact hm), e2]

theorem enc_raw (n : Nat) (rest : List UInt8) (h : n ≤ 4611686018427387903) : rawR 0 0 (encN n ++ rest) = .ok (n, rest) := by
  have := enc_rawR n 0 0 rest (by omega) (fun h => by omega) (by simpa using h)
  simpa using this
theorem raw_enc {bs : List UInt8} {n : Nat} {rest : List UInt8} (h : rawR 0 0 bs = .ok (n, rest)) : bs = encN n ++ rest ∧ n ≤ 4611686018427387903 := by
  obtain ⟨q, h1, h2, _, h4⟩ := rawR_enc bs 0 0 n rest h
  have : n = q := by simpa using h1
  subst this
  exact ⟨h2, h4⟩
theorem rawR_err : ∀ (bs : List UInt8) (k m j : Nat), rawR k m bs = .error j → j = 1 ∨ j = 3
  | [], k, m, j, h => by simp [rawR] at h; exact .inl h.symm
  | c :: bs, k, m, j, h => by
    rw [rawR] at h
    split at h
    · exact rawR_err bs _ _ j h
    · split at h
      · simp at h; exact .inr h.symm
      · cases h
end Go.D

set_option linter.unusedVariables false
set_option linter.unusedSimpArgs false
namespace Go.D
open Go Go.Proofs

/-- A reader at block r, which holds bytes that lie in the blocks F. -/
def InR (A : Nat → Addr) (w : World) (r : Nat) (F : Nat → Prop) (st : InS) : Prop :=
  ∃ s, InAt w r s st.1 (errO A st.2) ∧ (∀ k, ownB s k → F k) ∧ ¬ F r

theorem InR.ext {A : Nat → Addr} {M : Nat → Prop} {w w' : World} {r : Nat} {F : Nat → Prop} {st : InS} (h : InR A w r F st) (he : Ext M w w') (h1 : ¬ M r) (h2 : ∀ k, F k → ¬ M k) : InR A w' r F st := by
  obtain ⟨s, g1, g2, g3⟩ := h
  exact ⟨s, g1.ext he (fun k hk => hk.elim (fun h => h ▸ h1) (fun h => h2 k (g2 k h))), g2, g3⟩
theorem InR.keep {A : Nat → Addr} {w w' : World} {r : Nat} {F : Nat → Prop} {st : InS} (h : InR A w r F st) (he : Keep w w') : InR A w' r F st := h.ext he (fun h => h) (fun _ _ h => h)

def rNum (most : Int) : InS → Int × InS
  | (bs, some k) => (0, (bs, some k))
  | (bs, none) => match rawR 0 0 bs with
    | .error k => (0, (bs, some k))
    | .ok (n, rest) => if most < (n : Int) then (0, (rest, some 0)) else ((n : Int), (rest, none))

theorem rNum_bad {bs : List UInt8} {k : Nat} (most : Int) (h : rawR 0 0 bs = .error k) : rNum most (bs, none) = (0, (bs, some k)) := by simp [rNum, h]
theorem rNum_big {bs rest : List UInt8} {n : Nat} {most : Int} (h : rawR 0 0 bs = .ok (n, rest)) (hm : most < (n : Int)) : rNum most (bs, none) = (0, (rest, some 0)) := by simp [rNum, h, hm]
theorem rNum_ok {bs rest : List UInt8} {n : Nat} {most : Int} (h : rawR 0 0 bs = .ok (n, rest)) (hm : ¬ most < (n : Int)) : rNum most (bs, none) = ((n : Int), (rest, none)) := by simp [rNum, h, hm]
theorem Ext.trans' {M : Nat → Prop} {a b c : World} (h1 : Ext M a b) (h2 : Ext M b c) : Ext M a c := h1.trans h2 (fun _ h => h) (fun _ h => .inl h)

theorem Read_spec (A : Nat → Addr) (s : Slc) (bs : List UInt8) (w : World) (h : bytesAt w s bs) (hl : s.l ≤ 2 ^ 30) :
    Calls Tryd.prog fn_pack_Read ⟨[s.v]⟩ w fun e w' => ∃ (r : Nat) (F : Nat → Prop), e = .returned (.pointer (some ⟨r, 0, none⟩)) ∧ InR A w' r F (bs, none) ∧ Keep w w' ∧ w.heap.size ≤ r ∧ (∀ k, F k → w.heap.size ≤ k ∧ k < w'.heap.size) := by
  refine pack_Read_ok _ ?_
  unfold pack_Read
  refine (CloneB_own s bs w h hl).mono ?_
  rintro e w3 ⟨t, rfl, ht, hf, hk⟩
  refine ⟨t, rfl, newS_mk (fun r w6 hr hb hk6 hs6 => ?_)⟩
  have hnot : ¬ ownB t r := fun hh => by have := OwnLt ht r hh; omega
  exact ⟨r, ownB t, rfl, ⟨t, ⟨⟨_, _, hb, .inl (by simp)⟩, bytesAt_keep ht.bytes hk6, hnot, ht.le (by omega)⟩, fun _ h => h, hnot⟩, hk.trans hk6, by have := hk.size; omega, fun k hk => ⟨hf k hk, by have := OwnLt ht k hk; omega⟩⟩

theorem In_failR {A : Nat → Addr} {r : Nat} {F : Nat → Prop} {bs : List UInt8} {w : World} (h : InR A w r F (bs, none)) (k : Nat) :
    Calls Tryd.prog fn_pack_In_fail ⟨[.pointer (some ⟨r, 0, none⟩), errV A (errG.getD k 0)]⟩ w fun e w' => e = .returned (.int .i64 0) ∧ InR A w' r F (bs, some k) ∧ Ext (eqB r) w w' := by
  obtain ⟨s, h1, h2, h3⟩ := h
  refine (In_fail_spec r s bs .nilIface (errV A (errG.getD k 0)) w h1 trivial (errV_one A _)).mono ?_
  rintro e w' ⟨rfl, g1, g2⟩
  exact ⟨rfl, ⟨s, g1, h2, h3⟩, g2⟩

theorem In_Num_spec (A : Nat → Addr) (n0 r : Nat) (F : Nat → Prop) (st : InS) (most : Int) (w : World) (h : InR A w r F st) (hl : st.1.length ≤ 2 ^ 30) (hE : ErrsB A n0 w) (hr : n0 ≤ r) :
    Calls Tryd.prog fn_pack_In_Num ⟨[.pointer (some ⟨r, 0, none⟩), .int .i64 most]⟩ w fun e w' => e = .returned (.int .i64 (rNum most st).1) ∧ InR A w' r F (rNum most st).2 ∧ Ext (eqB r) w w' := by
  obtain ⟨bs, er⟩ := st
  refine pack_In_Num_ok _ _ ?_
  unfold pack_In_Num
  have h0 := h
  obtain ⟨s, h1, h2, h3⟩ := h
  refine needSome_mk rfl ⟨_, by rw [add_lit]; exact h1.c1, errO_isI _ _, ?_⟩
  cases er with
  | some k =>
    refine BIf_mk (fun _ => ?_) (fun hh => by cases hh)
    exact ⟨rfl, h0, Ext.refl _ _⟩
  | none =>
    refine BIf_mk (fun hh => by cases hh) (fun _ => ?_)
    refine (In_raw_spec A r s bs w h1 hl hE.1).mono ?_
    rintro e w6 ⟨n, rfl, hres⟩
    refine ⟨n, rfl, ?_⟩
    cases hraw : rawR 0 0 bs with
    | error k =>
      rw [hraw] at hres
      obtain ⟨rfl, g1, g2⟩ := hres
      rw [rNum_bad most hraw]
      refine needSome_mk rfl ⟨errV A (errG.getD k 0), by rw [add_lit]; exact g1.c1, trivial, BIf_mk (fun hh => by cases hh) (fun _ => ?_)⟩
      exact ⟨rfl, ⟨s, g1, h2, h3⟩, g2⟩
    | ok x =>
      obtain ⟨m, rest⟩ := x
      rw [hraw] at hres
      obtain ⟨rfl, s', g1, g2, g3⟩ := hres
      have hR : InR A w6 r F (rest, none) := ⟨s', g1, fun k hk => h2 k (g2 k hk), h3⟩
      refine needSome_mk rfl ⟨.nilIface, by rw [add_lit]; exact g1.c1, trivial, BIf_mk (fun _ => BIf_dec (fun hlt => ?_) (fun hlt => ?_)) (fun hh => by cases hh)⟩
      · refine ⟨_, Errs.at (hE.ext g3 (fun k hk => by rw [show k = r from hk]; exact hr)).1 0 (by omega), (In_failR hR 0).mono ?_⟩
        rintro e w12 ⟨rfl, q1, q2⟩
        rw [rNum_big hraw hlt]
        exact ⟨_, rfl, rfl, q1, g3.trans' q2⟩
      · rw [rNum_ok hraw hlt]
        exact ⟨rfl, hR, g3⟩

theorem rNum_cases (most : Int) (st : InS) :
    (∃ bs k, st = (bs, some k) ∧ rNum most st = (0, (bs, some k))) ∨
    (∃ bs k, st = (bs, none) ∧ (k = 1 ∨ k = 3) ∧ rNum most st = (0, (bs, some k))) ∨
    (∃ n rest, st = (encN n ++ rest, none) ∧ n ≤ 4611686018427387903 ∧ most < (n : Int) ∧ rNum most st = (0, (rest, some 0))) ∨
    (∃ n rest, st = (encN n ++ rest, none) ∧ n ≤ 4611686018427387903 ∧ (n : Int) ≤ most ∧ rNum most st = ((n : Int), (rest, none))) := by
  obtain ⟨bs, er⟩ := st
  cases er with
  | some k => exact .inl ⟨bs, k, rfl, rfl⟩
  | none =>
    cases h : rawR 0 0 bs with
    | error k => exact .inr (.inl ⟨bs, k, rfl, rawR_err _ _ _ _ h, rNum_bad most h⟩)
    | ok x =>
      obtain ⟨n, rest⟩ := x
      obtain ⟨h1, h2⟩ := raw_enc h
      by_cases hm : most < (n : Int)
      · exact .inr (.inr (.inl ⟨n, rest, by rw [h1], h2, hm, rNum_big h hm⟩))
      · exact .inr (.inr (.inr ⟨n, rest, by rw [h1], h2, by omega, rNum_ok h hm⟩))
theorem rNum_enc (most : Int) (n : Nat) (rest : List UInt8) (h : n ≤ 4611686018427387903) (hm : (n : Int) ≤ most) : rNum most (encN n ++ rest, none) = ((n : Int), (rest, none)) :=
  rNum_ok (enc_raw n rest h) (by omega)
theorem rNum_len (most : Int) (st : InS) : (rNum most st).2.1.length ≤ st.1.length := by
  rcases rNum_cases most st with ⟨bs, k, rfl, h⟩ | ⟨bs, k, rfl, _, h⟩ | ⟨n, rest, rfl, _, _, h⟩ | ⟨n, rest, rfl, _, _, h⟩ <;> rw [h] <;> simp
theorem rNum_nonneg (most : Int) (st : InS) : 0 ≤ (rNum most st).1 ∧ (rNum most st).1 ≤ 4611686018427387903 := by
  rcases rNum_cases most st with ⟨bs, k, rfl, h⟩ | ⟨bs, k, rfl, _, h⟩ | ⟨n, rest, rfl, _, _, h⟩ | ⟨n, rest, rfl, _, _, h⟩ <;> rw [h] <;> simp <;> omega
theorem rNum_pos (most : Int) (st : InS) (h0 : 0 < (rNum most st).1) : (rNum most st).2.2 = none := by
  rcases rNum_cases most st with ⟨bs, k, rfl, h⟩ | ⟨bs, k, rfl, _, h⟩ | ⟨n, rest, rfl, _, _, h⟩ | ⟨n, rest, rfl, _, _, h⟩ <;> rw [h] at h0 ⊢ <;> simp at h0
theorem rNum_most (most : Int) (st : InS) (h0 : (rNum most st).2.2 = none) : (rNum most st).1 ≤ most := by
  rcases rNum_cases most st with ⟨bs, k, rfl, h⟩ | ⟨bs, k, rfl, _, h⟩ | ⟨n, rest, rfl, _, _, h⟩ | ⟨n, rest, rfl, _, hm, h⟩ <;> rw [h] at h0 ⊢ <;> simp at h0
  exact hm

def rEnd : InS → Option Nat
  | (bs, some k) => some k
  | (bs, none) => if 0 < bs.length then some 3 else none
theorem In_End_spec (A : Nat → Addr) (n0 r : Nat) (F : Nat → Prop) (st : InS) (w : World) (h : InR A w r F st) (hE : ErrsB A n0 w) :
    Calls Tryd.prog fn_pack_In_End ⟨[.pointer (some ⟨r, 0, none⟩)]⟩ w fun e w' => e = .returned (errO A (rEnd st)) ∧ w' = w := by
  refine pack_In_End_ok _ ?_
  obtain ⟨bs, er⟩ := st
  obtain ⟨s, h1, h2, h3⟩ := h
  have hl := h1.2.1.1
  dsimp only at hl
  refine needSome_mk rfl ⟨_, by rw [add_lit]; exact h1.c1, errO_isI _ _, ?_⟩
  cases er with
  | some k => exact BIf_mk (fun hh => by cases hh) (fun _ => needSome_mk rfl ⟨_, by rw [add_lit]; exact h1.c1, rfl, rfl⟩)
  | none =>
    refine BIf_mk (fun _ => needSome_mk rfl ⟨s, h1.c0, BIf_dec (fun hlt => ?_) (fun hlt => ?_)⟩) (fun hh => by cases hh)
    · refine ⟨_, Errs.at hE.1 3 (by omega), ?_, rfl⟩
      rw [rEnd, if_pos (by omega)]; rfl
    · refine needSome_mk rfl ⟨_, by rw [add_lit]; exact h1.c1, ?_, rfl⟩
      rw [rEnd, if_neg (by omega)]

def rTextF (n : Int) : InS → List UInt8 × InS
  | (bs, some k) => ([], (bs, some k))
  | (bs, none) => if (bs.length : Int) < n then ([], (bs, some 1)) else (bs.take n.toNat, (bs.drop n.toNat, none))
theorem rTextF_short {n : Int} {bs : List UInt8} (h : (bs.length : Int) < n) : rTextF n (bs, none) = ([], (bs, some 1)) := by simp [rTextF, h]
theorem rTextF_ok {n : Int} {bs : List UInt8} (h : ¬ (bs.length : Int) < n) : rTextF n (bs, none) = (bs.take n.toNat, (bs.drop n.toNat, none)) := by simp [rTextF, h]
def rText (most : Int) (st : InS) : List UInt8 × InS := rTextF (rNum most st).1 (rNum most st).2
theorem rText_enc (most : Int) (t rest : List UInt8) (h : t.length ≤ 4611686018427387903) (hm : (t.length : Int) ≤ most) : rText most (encN t.length ++ (t ++ rest), none) = (t, (rest, none)) := by
  rw [rText, rNum_enc most _ _ h hm, rTextF_ok (by simp; omega)]
  simp

theorem In_Text_spec (A : Nat → Addr) (n0 r : Nat) (F : Nat → Prop) (st : InS) (most : Int) (w : World) (h : InR A w r F st) (hl : st.1.length ≤ 2 ^ 30) (hE : ErrsB A n0 w) (hr : n0 ≤ r) :
    Calls Tryd.prog fn_pack_In_Text ⟨[.pointer (some ⟨r, 0, none⟩), .int .i64 most]⟩ w fun e w' => e = .returned (strV (rText most st).1) ∧ InR A w' r F (rText most st).2 ∧ Ext (eqB r) w w' := by
  refine pack_In_Text_ok _ _ ?_
  unfold pack_In_Text
  refine (In_Num_spec A n0 r F st most w h hl hE hr).mono ?_
  rintro e w4 ⟨rfl, hR, k4⟩
  have hlen := rNum_len most st
  have hnn := rNum_nonneg most st
  unfold rText
  generalize hst : rNum most st = x at hR hlen hnn ⊢
  obtain ⟨n, bs, er⟩ := x
  dsimp only at hR hlen hnn ⊢
  have hE4 : ErrsB A n0 w4 := hE.ext k4 (fun k hk => by rw [show k = r from hk]; exact hr)
  have hR0 := hR
  obtain ⟨s, h1, h2, h3⟩ := hR
  have hsl := h1.2.1.1
  have hsc := h1.2.2.2
  dsimp only at hsl h1
  refine ⟨_, rfl, needSome_mk rfl ⟨_, by rw [add_lit]; exact h1.c1, errO_isI _ _, ?_⟩⟩
  cases er with
  | some k => exact BIf_mk (fun _ => ⟨rfl, hR0, k4⟩) (fun hh => by cases hh)
  | none =>
    refine BIf_mk (fun hh => by cases hh) (fun _ => needSome_mk rfl ⟨s, h1.c0, BIf_dec (fun hlt => ?_) (fun hlt => ?_)⟩)
    · refine ⟨_, Errs.at hE4.1 1 (by omega), (In_failR hR0 1).mono ?_⟩
      rintro e w12 ⟨rfl, q1, q2⟩
      rw [rTextF_short (by omega)]
      exact ⟨_, rfl, rfl, q1, k4.trans' q2⟩
    · rw [rTextF_ok (by omega)]
      obtain ⟨g1, g2, g3⟩ := h1.cut (k := n.toNat) (by omega)
      have hb := bytesAt_sub h1.2.1 (lo := 0) (hi := n.toNat) (c := s.c) (by omega) (by omega) (by omega)
      refine needSome_mk rfl ⟨s, h1.c0, by omega, by omega, by omega, by omega, bs.take n.toNat, by simpa using hb, needSome_mk rfl ⟨s, h1.c0, by omega, by omega, by omega, by omega, needSome_mk rfl ⟨g1, ?_⟩⟩⟩
      rintro w22 rfl
      exact ⟨rfl, ⟨_, g2, fun k hk => h2 k (ownB_sub hk), h3⟩, k4.trans' g3⟩

end Go.D

set_option linter.unusedVariables false
set_option linter.unusedSimpArgs false
set_option maxRecDepth 8000
namespace Go.D
open Go Go.Proofs

/-! ### operations, read -/
structure RdK (A : Nat → Addr) (n0 : Nat) (w0 w : World) (r : Nat) (F : Nat → Prop) (bs : List UInt8) : Prop where
  i : InR A w r F (bs, none)
  ge : w0.heap.size ≤ r
  l : r < w.heap.size
  f : ∀ k, F k → w0.heap.size ≤ k ∧ k < w.heap.size
  k : Keep w0 w
  e : ErrsB A n0 w0
  n : n0 ≤ w0.heap.size
  b : bs.length ≤ 2 ^ 20
section
variable {A : Nat → Addr} {n0 : Nat} {w0 w : World} {r : Nat} {F : Nat → Prop} {bs rest : List UInt8}
theorem RdK.ext {M : Nat → Prop} {w' : World} (h : RdK A n0 w0 w r F bs) (he : Ext M w w') (hm : ∀ k, M k → w.heap.size ≤ k ∨ (w0.heap.size ≤ k ∧ k ≠ r ∧ ¬ F k)) : RdK A n0 w0 w' r F bs := by
  have z := he.size
  have z0 := h.k.size
  refine ⟨h.i.ext he (fun hh => ?_) (fun k hk hh => ?_), h.ge, by have := h.l; omega, fun k hk => ⟨(h.f k hk).1, by have := (h.f k hk).2; omega⟩, h.k.ext he (fun k hk => ?_), h.e, h.n, h.b⟩
  · rcases hm _ hh with g | g
    · have := h.l; omega
    · exact g.2.1 rfl
  · rcases hm _ hh with g | g
    · have := (h.f k hk).2; omega
    · exact g.2.2 hk
  · rcases hm _ hk with g | g
    · omega
    · exact g.1
theorem RdK.keep {w' : World} (h : RdK A n0 w0 w r F bs) (he : Keep w w') : RdK A n0 w0 w' r F bs := h.ext he (fun _ h => h.elim)
theorem RdK.step {w' : World} {bs' : List UInt8} (h : RdK A n0 w0 w r F bs) (he : Ext (eqB r) w w') (hi : InR A w' r F (bs', none)) (hb : bs'.length ≤ 2 ^ 20) : RdK A n0 w0 w' r F bs' := by
  have z := he.size
  exact ⟨hi, h.ge, by have := h.l; omega, fun k hk => ⟨(h.f k hk).1, by have := (h.f k hk).2; omega⟩, h.k.ext he (fun k hk => by rw [show k = r from hk]; exact h.ge), h.e, h.n, hb⟩
theorem rdNum {n most : Int} (h : RdK A n0 w0 w r F (numB n ++ rest)) (hn : 0 ≤ n) (hm : n ≤ most) (hb : most ≤ 2 ^ 40) :
    Calls Tryd.prog fn_pack_In_Num ⟨[.pointer (some ⟨r, 0, none⟩), .int .i64 most]⟩ w fun e w' => e = .returned (.int .i64 n) ∧ RdK A n0 w0 w' r F rest ∧ Ext (eqB r) w w' := by
  have hl := h.b
  have q := rNum_enc most n.toNat rest (by omega) (by omega)
  have hrl : rest.length ≤ 2 ^ 20 := by rw [List.length_append] at hl; omega
  refine (In_Num_spec A n0 r F _ most w h.i (by dsimp only; omega) (h.e.keep h.k) (by have := h.n; have := h.ge; omega)).mono ?_
  rintro e w' ⟨rfl, g, k⟩
  unfold numB at *
  rw [q] at g ⊢
  refine ⟨?_, h.step k g hrl, k⟩
  rw [show ((n.toNat : Nat) : Int) = n by omega]
theorem rdText {t : List UInt8} {most : Int} (h : RdK A n0 w0 w r F (textB t ++ rest)) (hm : (t.length : Int) ≤ most) (hb : most ≤ 2 ^ 40) :
    Calls Tryd.prog fn_pack_In_Text ⟨[.pointer (some ⟨r, 0, none⟩), .int .i64 most]⟩ w fun e w' => e = .returned (strV t) ∧ RdK A n0 w0 w' r F rest ∧ Ext (eqB r) w w' := by
  have hl := h.b
  have q := rText_enc most t rest (by omega) (by omega)
  have hrl : rest.length ≤ 2 ^ 20 := by rw [List.length_append] at hl; omega
  refine (In_Text_spec A n0 r F _ most w h.i (by dsimp only; omega) (h.e.keep h.k) (by have := h.n; have := h.ge; omega)).mono ?_
  rintro e w' ⟨rfl, g, k⟩
  unfold textB at *
  rw [List.append_assoc] at g ⊢
  rw [q] at g ⊢
  exact ⟨rfl, h.step k g hrl, k⟩
end

def cleanOp (o : OpS) : OpS := if o.kind = 1 then ⟨o.kind, o.key, o.val, [], 0⟩ else if o.kind = 3 then ⟨o.kind, o.key, o.val, o.old, 0⟩ else if o.kind = 4 then ⟨o.kind, o.key, [], [], o.ver⟩ else ⟨o.kind, o.key, [], [], 0⟩
theorem clean_spec (o : OpS) (w : World) : Calls Tryd.prog fn_entry_clean ⟨[.agg ⟨opC o⟩]⟩ w fun x w' => x = .returned (.agg ⟨opC (cleanOp o)⟩) ∧ Keep w w' := by
  refine entry_clean_ok _ _ _ _ _ ?_
  unfold entry_clean
  refine newS_mk (fun r6 w7 hr6 hb6 k7 hs7 => newS_mk (fun r8 w9 hr8 hb8 k9 hs9 => ?_))
  have o6 : ObjAt w7 r6 (opC o) := ObjAt.new' hb6
  have o8 := ObjAt.new' hb8
  refine ⟨_, (o6.keep k9).cell 0 (by simp [opC]), _, (o6.keep k9).cell 1 (by simp [opC]), var_mk (cs := opC ⟨o.kind, o.key, [], [], 0⟩) rfl rfl (fun r12 w14 hr12 o12 k14 hs14 => ?_)⟩
  have kk := (k7.trans k9).trans k14
  have p6 := (o6.keep k9).keep k14
  have p8 := o8.keep k14
  have fin : ∀ {c : OpS} {w' : World}, ObjAt w' r12 (opC c) → ObjAt w' r8 [.int .i64 0, strV [], strV [], strV [], .int .i64 0] → Keep w w' → c = cleanOp o →
      ∃ n18 : Int, ∃ t19 : List UInt8, ∃ t20 : List UInt8, ∃ t21 : List UInt8, ∃ n22 : Int, rowAt w' (⟨r12, 0, none⟩ : Addr) 0 [(Value.int .i64 n18), (strV t19), (strV t20), (strV t21), (Value.int .i64 n22)] ∧
      canW w' (⟨r8, 0, none⟩ : Addr) 5 ∧ ∀ w23 : World, w23 = setCells w' (⟨r8, 0, none⟩ : Addr) 0 [(Value.int .i64 n18), (strV t19), (strV t20), (strV t21), (Value.int .i64 n22)] →
      ∃ n24 : Int, ∃ t25 : List UInt8, ∃ t26 : List UInt8, ∃ t27 : List UInt8, ∃ n28 : Int, rowAt w23 (⟨r8, 0, none⟩ : Addr) 0 [(Value.int .i64 n24), (strV t25), (strV t26), (strV t27), (Value.int .i64 n28)] ∧
      (Ending.returned (Value.agg ⟨[(Value.int .i64 n24), (strV t25), (strV t26), (strV t27), (Value.int .i64 n28)]⟩) = .returned (.agg ⟨opC (cleanOp o)⟩) ∧ Keep w w23) := by
    rintro c w' q12 q8 kw rfl
    obtain ⟨cw, g⟩ := q8.setAll (n := 5) (cs := opC (cleanOp o)) rfl rfl
    refine ⟨_, _, _, _, _, q12.row, cw, fun w23 h23 => ?_⟩
    obtain ⟨g1, g2, _⟩ := g w23 h23
    exact ⟨_, _, _, _, _, g1.row, rfl, kw.step (by have := k7.size; omega) g2⟩
  have n6 : r6 ≠ r12 := by have := k9.size; omega
  have n8 : r8 ≠ r12 := by omega
  have zz := (k7.trans k9).size
  refine ⟨_, p6.cell 0 (by simp [opC]), BIf_dec (fun h1 => ?_) (fun h1 => BIf_dec (fun h3 => ?_) (fun h3 => BIf_dec (fun h4 => ?_) (fun h4 => ?_)))⟩
  · refine ⟨_, p6.cell 2 (by simp [opC]), ?_⟩
    obtain ⟨cw, g⟩ := o12.setOne 2 (by simp [opC]) (strV o.val)
    refine ⟨cw, fun w17 h17 => ?_⟩
    obtain ⟨g1, g2, _⟩ := g w17 h17
    refine fin (c := ⟨o.kind, o.key, o.val, [], 0⟩) g1 (p8.ext g2 n8) (kk.step (by omega) g2) ?_
    unfold cleanOp; rw [if_pos h1]
  · have kd : Keep w14 (World.drew w14) := Keep.drew (Ext.refl _ _)
    refine ⟨_, (p6.keep kd).cell 3 (by simp [opC]), _, (p6.keep kd).cell 2 (by simp [opC]), ?_⟩
    obtain ⟨cw, g⟩ := (o12.keep kd).setOne 3 (by simp [opC]) (strV o.old)
    refine ⟨cw, fun w31 h31 => ?_⟩
    obtain ⟨g1, g2, _⟩ := g w31 h31
    obtain ⟨cw2, g3⟩ := g1.setOne 2 (by simp [opC]) (strV o.val)
    refine ⟨⟨_, ((p6.keep kd).ext g2 n6).cell 2 (by simp [opC]), rfl⟩, cw2, fun w33 h33 => ?_⟩
    obtain ⟨g4, g5, _⟩ := g3 w33 h33
    refine fin (c := ⟨o.kind, o.key, o.val, o.old, 0⟩) g4 (((p8.keep kd).ext g2 n8).ext g5 n8) (((kk.trans kd).step (by omega) g2).step (by omega) g5) ?_
    unfold cleanOp; rw [if_neg h1, if_pos h3]
  · refine ⟨_, p6.cell 4 (by simp [opC]), ?_⟩
    obtain ⟨cw, g⟩ := o12.setOne 4 (by simp [opC]) (.int .i64 o.ver)
    refine ⟨cw, fun w17 h17 => ?_⟩
    obtain ⟨g1, g2, _⟩ := g w17 h17
    refine fin (c := ⟨o.kind, o.key, [], [], o.ver⟩) g1 (p8.ext g2 n8) (kk.step (by omega) g2) ?_
    unfold cleanOp; rw [if_neg h1, if_neg h3, if_pos h4]
  · refine fin (c := ⟨o.kind, o.key, [], [], 0⟩) o12 p8 kk ?_
    unfold cleanOp; rw [if_neg h1, if_neg h3, if_neg h4]

theorem readOp_spec {A : Nat → Addr} {n0 : Nat} {w0 w : World} {r : Nat} {F : Nat → Prop} {rest : List UInt8} (o : OpS) (hr : rightOp o = true) (hs : o.key.length ≤ 300 ∧ o.val.length ≤ 300 ∧ o.old.length ≤ 300) (h : RdK A n0 w0 w r F (bytesOp o ++ rest)) :
    Calls Tryd.prog fn_entry_readOp ⟨[.pointer (some ⟨r, 0, none⟩)]⟩ w fun x w' => x = .returned (.agg ⟨opC (cleanOp o)⟩) ∧ RdK A n0 w0 w' r F rest ∧ Ext (eqB r) w w' := by
  refine entry_readOp_ok _ ?_
  unfold entry_readOp
  have hk14 : 1 ≤ o.kind ∧ o.kind ≤ 4 := by rcases (rightOp_cases hr).2 with ⟨h, _⟩ | h | ⟨h, _⟩ | ⟨h, _⟩ <;> omega
  have hver : o.kind = 4 → 0 ≤ o.ver ∧ o.ver ≤ 4096 := by
    intro h4
    rcases (rightOp_cases hr).2 with ⟨h, _⟩ | h | ⟨h, _⟩ | ⟨_, h⟩
    · omega
    · omega
    · omega
    · exact h
  refine newS_mk (fun r2 w3 hr2 hb2 k3 hs3 => ?_)
  have o2 := ObjAt.new' hb2
  have e3 : Ext (eqB r) w w3 := k3.mono (fun _ h => h.elim)
  unfold bytesOp at h
  simp only [List.append_assoc] at h
  have hrl := h.l
  refine (rdNum (h.keep k3) (by omega) (by omega) (by omega)).mono ?_
  rintro x w5 ⟨rfl, h5, e5⟩
  refine ⟨_, rfl, (rdText h5 (by omega) (by omega)).mono ?_⟩
  rintro x w8 ⟨rfl, h8, e8⟩
  have n2 : r2 ≠ r := by omega
  have e8' : Ext (eqB r) w w8 := (e3.trans' e5).trans' e8
  have q8 := (o2.ext e5 (fun hh => n2 hh)).ext e8 (fun hh => n2 hh)
  refine ⟨_, rfl, var_mk (cs := opC ⟨o.kind, o.key, [], [], 0⟩) rfl rfl (fun r10 w12 hr10 o10 k12 hs12 => ?_)⟩
  have h12 := h8.keep k12
  have e12 : Ext (eqB r) w w12 := e8'.trans' (k12.mono (fun _ h => h.elim))
  have z8 := e8'.size
  have q2 := q8.keep k12
  have hrl8 := h8.l
  have n10 : r10 ≠ r := by omega
  have nF : ¬ F r10 := fun hf => by have := (h8.f _ hf).2; omega
  have nF2 : ¬ F r2 := fun hf => by have := (h.f _ hf).2; omega
  have n210 : r2 ≠ r10 := by have := q8.lt; omega
  have fin : ∀ {c : OpS} {w' : World}, ObjAt w' r10 (opC c) → ObjAt w' r2 [.int .i64 0, strV [], strV [], strV [], .int .i64 0] → RdK A n0 w0 w' r F rest → Ext (eqB r) w w' → c = cleanOp o →
      ∃ n18 : Int, ∃ t19 : List UInt8, ∃ t20 : List UInt8, ∃ t21 : List UInt8, ∃ n22 : Int, rowAt w' (⟨r10, 0, none⟩ : Addr) 0 [(Value.int .i64 n18), (strV t19), (strV t20), (strV t21), (Value.int .i64 n22)] ∧
      canW w' (⟨r2, 0, none⟩ : Addr) 5 ∧ ∀ w23 : World, w23 = setCells w' (⟨r2, 0, none⟩ : Addr) 0 [(Value.int .i64 n18), (strV t19), (strV t20), (strV t21), (Value.int .i64 n22)] →
      ∃ n24 : Int, ∃ t25 : List UInt8, ∃ t26 : List UInt8, ∃ t27 : List UInt8, ∃ n28 : Int, rowAt w23 (⟨r2, 0, none⟩ : Addr) 0 [(Value.int .i64 n24), (strV t25), (strV t26), (strV t27), (Value.int .i64 n28)] ∧
      (Ending.returned (Value.agg ⟨[(Value.int .i64 n24), (strV t25), (strV t26), (strV t27), (Value.int .i64 n28)]⟩) = .returned (.agg ⟨opC (cleanOp o)⟩) ∧ RdK A n0 w0 w23 r F rest ∧ Ext (eqB r) w w23) := by
    rintro c w' p10 p2 hR he rfl
    obtain ⟨cw, g⟩ := p2.setAll (n := 5) (cs := opC (cleanOp o)) rfl rfl
    refine ⟨_, _, _, _, _, p10.row, cw, fun w23 h23 => ?_⟩
    obtain ⟨g1, g2, _⟩ := g w23 h23
    have z := h.k.size
    exact ⟨_, _, _, _, _, g1.row, rfl, hR.ext g2 (fun k hk => .inr (by rw [show k = r2 from hk]; exact ⟨by omega, n2, nF2⟩)), Ext.trans he g2 (fun _ h => h) (fun k hk => .inr (by rw [show k = r2 from hk]; omega))⟩
  have set1 : ∀ {w' : World} {cs : List Value} (bs : List UInt8) (i : Nat) (hi : i < cs.length) (v : Value), ObjAt w' r10 cs → ObjAt w' r2 [.int .i64 0, strV [], strV [], strV [], .int .i64 0] → RdK A n0 w0 w' r F bs → Ext (eqB r) w w' →
      canW w' (⟨r10, i, none⟩ : Addr) 1 ∧ ∀ w2 : World, w2 = World.setCell w' (⟨r10, i, none⟩ : Addr) v → ObjAt w2 r10 (cs.set i v) ∧ ObjAt w2 r2 [.int .i64 0, strV [], strV [], strV [], .int .i64 0] ∧ RdK A n0 w0 w2 r F bs ∧ Ext (eqB r) w w2 := by
    intro w' cs bs i hi v p10 p2 hR he
    obtain ⟨cw, g⟩ := p10.setOne i hi v
    refine ⟨cw, fun w2 h2 => ?_⟩
    obtain ⟨g1, g2, _⟩ := g w2 h2
    have z := h.k.size
    exact ⟨g1, p2.ext g2 n210, hR.ext g2 (fun k hk => .inr (by rw [show k = r10 from hk]; exact ⟨by omega, n10, nF⟩)), Ext.trans he g2 (fun _ h => h) (fun k hk => .inr (by rw [show k = r10 from hk]; omega))⟩
  refine ⟨_, o10.cell 0 (by simp [opC]), BIf_dec (fun h1 => ?_) (fun h1 => BIf_dec (fun h3 => ?_) (fun h3 => BIf_dec (fun h4 => ?_) (fun h4 => ?_)))⟩
  · have h1 : o.kind = 1 := h1
    rw [if_neg (show ¬ o.kind = 3 by omega), if_pos (.inl h1), if_neg (show ¬ o.kind = 4 by omega), List.nil_append, List.nil_append] at h12
    refine (rdText h12 (by omega) (by omega)).mono ?_
    rintro x w15 ⟨rfl, h15, e15⟩
    obtain ⟨cw, g⟩ := set1 _ 2 (by simp [opC]) (strV o.val) (o10.ext e15 (fun hh => n10 hh)) (q2.ext e15 (fun hh => n2 hh)) h15 (e12.trans' e15)
    refine ⟨_, rfl, cw, fun w17 h17 => ?_⟩
    obtain ⟨g1, g2, g3, g4⟩ := g w17 h17
    refine fin (c := ⟨o.kind, o.key, o.val, [], 0⟩) g1 g2 g3 g4 ?_
    unfold cleanOp; rw [if_pos h1]
  · have h1 : ¬ o.kind = 1 := h1
    have h3 : o.kind = 3 := h3
    rw [if_pos h3, if_pos (.inr h3), if_neg (show ¬ o.kind = 4 by omega), List.nil_append] at h12
    refine (rdText h12 (by omega) (by omega)).mono ?_
    rintro x w30 ⟨rfl, h30, e30⟩
    obtain ⟨cw, g⟩ := set1 _ 3 (by simp [opC]) (strV o.old) (o10.ext e30 (fun hh => n10 hh)) (q2.ext e30 (fun hh => n2 hh)) h30 (e12.trans' e30)
    refine ⟨_, rfl, cw, fun w32 h32 => ?_⟩
    obtain ⟨g1, g2, g3, g4⟩ := g w32 h32
    refine (rdText g3 (by omega) (by omega)).mono ?_
    rintro x w34 ⟨rfl, h34, e34⟩
    obtain ⟨cw2, gg⟩ := set1 _ 2 (by simp [opC]) (strV o.val) (g1.ext e34 (fun hh => n10 hh)) (g2.ext e34 (fun hh => n2 hh)) h34 (g4.trans' e34)
    refine ⟨_, rfl, cw2, fun w36 h36 => ?_⟩
    obtain ⟨g5, g6, g7, g8⟩ := gg w36 h36
    refine fin (c := ⟨o.kind, o.key, o.val, o.old, 0⟩) g5 g6 g7 g8 ?_
    unfold cleanOp; rw [if_neg h1, if_pos h3]
  · have h1 : ¬ o.kind = 1 := h1
    have h3 : ¬ o.kind = 3 := h3
    have h4 : o.kind = 4 := h4
    rw [if_neg h3, if_neg (show ¬ (o.kind = 1 ∨ o.kind = 3) by omega), if_pos h4, List.nil_append, List.nil_append] at h12
    refine (rdNum h12 (hver h4).1 (hver h4).2 (by omega)).mono ?_
    rintro x w15 ⟨rfl, h15, e15⟩
    obtain ⟨cw, g⟩ := set1 _ 4 (by simp [opC]) (.int .i64 o.ver) (o10.ext e15 (fun hh => n10 hh)) (q2.ext e15 (fun hh => n2 hh)) h15 (e12.trans' e15)
    refine ⟨_, rfl, cw, fun w17 h17 => ?_⟩
    obtain ⟨g1, g2, g3, g4⟩ := g w17 h17
    refine fin (c := ⟨o.kind, o.key, [], [], o.ver⟩) g1 g2 g3 g4 ?_
    unfold cleanOp; rw [if_neg h1, if_neg h3, if_pos h4]
  · have h1 : ¬ o.kind = 1 := h1
    have h3 : ¬ o.kind = 3 := h3
    have h4 : ¬ o.kind = 4 := h4
    rw [if_neg h3, if_neg (show ¬ (o.kind = 1 ∨ o.kind = 3) by omega), if_neg h4, List.nil_append, List.nil_append, List.nil_append] at h12
    refine fin (c := ⟨o.kind, o.key, [], [], 0⟩) o10 q2 h12 e12 ?_
    unfold cleanOp; rw [if_neg h1, if_neg h3, if_neg h4]
end Go.D

set_option linter.unusedVariables false
set_option linter.unusedSimpArgs false
set_option maxRecDepth 8000
namespace Go.D
open Go Go.Proofs

/-! ### falling addresses -/
def fallsFrom : Int → List Int → Bool
  | _, [] => true
  | last, a :: l => !decide (a < 0) && (!decide (last ≤ a) && fallsFrom a l)
def fallsB (l : List Int) : Bool := fallsFrom 4096 l && decide (l.length ≤ 4)
theorem pageFalls_spec (s : Slc) (l : List Int) (w : World) (h : intsAt w s l) (hl : l.length ≤ 2 ^ 40) :
    Calls Tryd.prog fn_page_falls ⟨[s.v]⟩ w fun e w' => e = .returned (.bool (fallsB l)) ∧ w' = w := by
  have hsl := h.1
  refine page_falls_ok _ ?_
  unfold page_falls
  refine ⟨fun last i w2 => ∃ k : Nat, i = k ∧ k ≤ l.length ∧ w2 = w ∧ fallsFrom last (l.drop k) = fallsFrom 4096 l, fun _ i _ => ((l.length : Int) - i).toNat, ⟨0, rfl, by omega, rfl, by simp⟩, ?_⟩
  rintro last i w2 ⟨k, rfl, hk, rfl, hp⟩
  intros
  refine BIf_dec (fun hlt => ?_) (fun hge => ?_)
  · have hkl : k < l.length := by omega
    obtain ⟨p, hpp, hc⟩ := intsAt_cell h hkl
    rw [List.drop_eq_getElem_cons hkl] at hp
    rw [fallsFrom] at hp
    refine needSome_mk hpp ⟨by omega, hlt, _, by rw [show Int.toNat (k : Int) * 1 = k by omega]; exact hc, BIf_dec (fun h1 => ⟨?_, rfl⟩) (fun h1 => BIf_dec (fun h2 => ⟨?_, rfl⟩) (fun h2 => ⟨inR64 (by omega), ⟨k + 1, rfl, by omega, rfl, ?_⟩, by dsimp only; omega⟩))⟩
    · unfold fallsB; rw [← hp, decide_eq_true h1]; rfl
    · unfold fallsB; rw [← hp, decide_eq_true h2]; simp
    · rw [decide_eq_false h1, decide_eq_false h2] at hp
      simpa using hp
  · have hke : k = l.length := by omega
    subst hke
    rw [List.drop_length] at hp
    refine ⟨?_, rfl⟩
    unfold fallsB
    rw [← hp]
    have : ((s.l : Nat) : Int) ≤ 4 ↔ l.length ≤ 4 := by omega
    simp only [fallsFrom, Bool.true_and, this]
end Go.D

