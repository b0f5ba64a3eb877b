/-
  WHAT IS PROVED: contracts of functions, and the plain law, for this proof. No further conditions.
-/
import Derived.Test.YtojcoegekkcojaaDoorRowsM
import Derived.Test.YtojcoegekkcojaaDoorRd
set_option linter.unusedVariables false
set_option linter.unusedSimpArgs false
namespace Go.D
open Go

/-! ### integers that are the call's own -/
def intC (x : Int) : List Value := [.int .i64 x]
theorem foot_int {x : Int} {k : Nat} : ¬ footV (intC x) k := by rintro ⟨s, hs, _⟩; simp [intC, Slc.v] at hs
def IntR : RowD Int where
  n := 1
  pos := by omega
  R _ x cs := cs = intC x
  len h := by rw [h]; rfl
  one h := by rw [h]; intro v hv; simp [intC] at hv; subst hv; rfl
  ext h _ _ := h
  lt h := by rw [h]; intro k hk; exact (foot_int hk).elim
def IntsAt (w : World) (s : Slc) (l : List Int) : Prop := Rows IntR w s l (l.map intC)
theorem IntsAt.of {w : World} {s : Slc} {l : List Int} {css : List (List Value)} (h : Rows IntR w s l css) : IntsAt w s l := by
  have : css = l.map intC := by
    apply List.ext_getElem
    · rw [h.len, List.length_map]
    · intro i h1 h2
      rw [List.getElem_map]
      exact h.row i h1 (by simpa using h2)
  rw [this] at h
  exact h
theorem footC_int {l : List Int} {k : Nat} : ¬ footC (l.map intC) k := by
  rintro ⟨cs, hc, hk⟩
  obtain ⟨x, _, rfl⟩ := List.mem_map.1 hc
  exact foot_int hk
theorem IntsAt.ext {M : Nat → Prop} {w w' : World} {s : Slc} {l : List Int} (h : IntsAt w s l) (he : Ext M w w') (h1 : ∀ k, ownB s k → ¬ M k) : IntsAt w' s l := Rows.ext h he h1 (fun k hk => (footC_int hk).elim)
theorem IntsAt.keep {w w' : World} {s : Slc} {l : List Int} (h : IntsAt w s l) (he : Keep w w') : IntsAt w' s l := h.ext he (fun _ _ h => h)
theorem IntsAt.nil (w : World) : IntsAt w ⟨none, 0, 0⟩ [] := Rows.nil _ _
theorem flat_int (l : List Int) : (l.map intC).flatten = l.map fun x => Value.int .i64 x := by
  induction l with
  | nil => rfl
  | cons a l ih => rw [List.map_cons, List.flatten_cons, ih]; rfl
theorem IntsAt.ints {w : World} {s : Slc} {l : List Int} (h : IntsAt w s l) : intsAt w s l := by
  have h1 := h.sl
  have h2 := h.own.cells
  rw [flat_int] at h2
  exact ⟨h1, h2⟩
theorem IntsAt.new {w : World} {r : Nat} {T : TypeId} (h : w.heap[r]? = some (.cells ⟨[]⟩ T)) : IntsAt w ⟨some ⟨r, 0, none⟩, 0, 0⟩ [] :=
  ⟨Own.new (sz := 1) (n := 0) h (.inl (by simp)) rfl, rfl, fun i h => by simp at h, fun k hk => (footC_int (l := []) hk).elim⟩
theorem IntsAt.get {w : World} {s : Slc} {l : List Int} (h : IntsAt w s l) {i : Nat} (hi : i < l.length) : ∃ a, s.p = some a ∧ World.cell? w (Addr.add a (i * 1)) = some (.int .i64 l[i]) := by
  obtain ⟨a, ha, _, hrow⟩ := Rows.get h (i := i) (by simpa using hi)
  rw [List.getElem_map] at hrow
  have := hrow.1
  have e : (a.add (i * IntR.n)).add 0 = a.add (i * 1) := by simp [Addr.add, IntR]
  rw [e] at this
  exact ⟨a, ha, this⟩
theorem IntsAt.set {w : World} {s : Slc} {l : List Int} (h : IntsAt w s l) {i : Nat} (hi : i < l.length) (x : Int) {a : Addr} (ha : s.p = some a) :
    canW w (Addr.add a (i * 1)) 1 ∧ ∀ w', w' = World.setCell w (Addr.add a (i * 1)) (.int .i64 x) → IntsAt w' s (l.set i x) ∧ Ext (ownB s) w w' ∧ w'.heap.size = w.heap.size := by
  have hi2 : i < (l.map intC).length := by simpa using hi
  have hcs : (l.map intC)[i].take 0 ++ [Value.int .i64 x] ++ (l.map intC)[i].drop (0 + [Value.int .i64 x].length) = intC x := by rw [List.getElem_map]; rfl
  obtain ⟨cw, g⟩ := Rows.set h hi2 0 [.int .i64 x] (Nat.le_refl 1) x ha (fun w' _ => by rw [hcs]; rfl) (fun k hk => by rw [hcs] at hk; exact (foot_int hk).elim)
  have e : (a.add (i * IntR.n)).add 0 = a.add (i * 1) := by simp [Addr.add, IntR]
  rw [e] at cw g
  refine ⟨cw, fun w' hw' => ?_⟩
  obtain ⟨g1, g2, g3⟩ := g w' (by rw [hw']; simp [setCells, Addr.add])
  exact ⟨IntsAt.of g1, g2, g3⟩
/-- An integer is appended. -/
theorem IntsAt.push {T E : TypeId} {w w0 : World} {s : Slc} {l : List Int} {x : Int} {K : Slc → World → Prop} (h : IntsAt w s l) (hf : Fresh w0 s) (hk : Keep w0 w) (hlen : l.length < 2 ^ 30)
    (hK : ∀ s' w', IntsAt w' s' (l ++ [x]) → Fresh w0 s' → Keep w0 w' → Ext (ownB s) w w' → (∀ k, ownB s' k → ownB s k ∨ w.heap.size ≤ k) → K s' w') :
    newS w (.cells ⟨[.int .i64 x]⟩ T) fun r w2 => appendS 1 E [.int .i64 0] w2 s (.slc ⟨some ⟨r, 0, none⟩, 1, 1⟩) K := by
  refine newS_mk (fun r w2 hr hb k2 hs2 => ?_)
  have h2 : Rows IntR w2 s l (l.map intC) := h.keep k2
  have z2 := k2.size
  have z0 := hk.size
  refine h2.snoc (cs := intC x) (x := x) (z := [.int .i64 0]) rfl rfl (fun k hk => (foot_int hk).elim) hb (.inl (by simp)) hlen (fun s' w' g1 g2 g3 => ?_)
  have g3' : ∀ k, ownB s' k → ownB s k ∨ w.heap.size ≤ k := fun k hk => (g3 k hk).imp (fun h => h) (fun h => by omega)
  exact hK s' w' (IntsAt.of (by simpa using g1)) (fun j hj => (g3' j hj).elim (fun h => hf j h) (fun h => by omega)) ((hk.trans k2).ext g2 (fun j hj => hf j hj)) (Ext.trans k2 g2 (fun _ h => h.elim) (fun _ h => .inl h)) g3'
end Go.D
