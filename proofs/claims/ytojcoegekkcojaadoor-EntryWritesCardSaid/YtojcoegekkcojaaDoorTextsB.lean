/-
  WHAT IS PROVED: contracts of functions, and the plain law, for this proof. No further conditions.
-/
import Derived.Test.YtojcoegekkcojaaDoorVCnum
import Derived.Test.YtojcoegekkcojaaDoorRowsM
import Derived.Test.YtojcoegekkcojaaDoorRd
set_option linter.unusedVariables false
set_option linter.unusedSimpArgs false
namespace Go.D
open Go Go.Proofs

/-! ### texts that are the call's own -/
def txtC (x : List UInt8) : List Value := [strV x]
theorem foot_txt {x : List UInt8} {k : Nat} : ¬ footV (txtC x) k := by rintro ⟨s, hs, _⟩; simp [txtC, Slc.v, strV] at hs
def TxtR : RowD (List UInt8) where
  n := 1
  pos := by omega
  R _ x cs := cs = txtC x
  len h := by rw [h]; rfl
  one h := by rw [h]; intro v hv; simp [txtC] at hv; subst hv; rfl
  ext h _ _ := h
  lt h := by rw [h]; intro k hk; exact (foot_txt hk).elim
def TxtAt (w : World) (s : Slc) (l : List (List UInt8)) : Prop := Rows TxtR w s l (l.map txtC)
theorem TxtAt.of {w : World} {s : Slc} {l : List (List UInt8)} {css : List (List Value)} (h : Rows TxtR w s l css) : TxtAt w s l := by
  have : css = l.map txtC := by
    apply List.ext_getElem
    · rw [h.len, List.length_map]
    · intro i h1 h2
      rw [List.getElem_map]
      exact h.row i h1 (by simpa using h2)
  rw [this] at h
  exact h
theorem footC_txt {l : List (List UInt8)} {k : Nat} : ¬ footC (l.map txtC) k := by
  rintro ⟨cs, hc, hk⟩
  obtain ⟨x, _, rfl⟩ := List.mem_map.1 hc
  exact foot_txt hk
theorem TxtAt.keep {w w' : World} {s : Slc} {l : List (List UInt8)} (h : TxtAt w s l) (he : Keep w w') : TxtAt w' s l := Rows.ext h he (fun _ _ h => h) (fun k hk => (footC_txt hk).elim)
theorem TxtAt.nil (w : World) : TxtAt w ⟨none, 0, 0⟩ [] := Rows.nil _ _
theorem TxtAt.new {w : World} {r : Nat} {T : TypeId} (h : w.heap[r]? = some (.cells ⟨[]⟩ T)) : TxtAt w ⟨some ⟨r, 0, none⟩, 0, 0⟩ [] :=
  ⟨Own.new (sz := 1) (n := 0) h (.inl (by simp)) rfl, rfl, fun i h => by simp at h, fun k hk => (footC_txt (l := []) hk).elim⟩
theorem TxtAt.one {w : World} {r : Nat} {T : TypeId} {t : List UInt8} (h : w.heap[r]? = some (.cells ⟨[strV t]⟩ T)) : TxtAt w ⟨some ⟨r, 0, none⟩, 1, 1⟩ [t] :=
  ⟨Own.new (sz := 1) (n := 1) h (.inl (by simp)) rfl, rfl, fun i h1 h2 => by
    simp at h2; subst h2; rfl, fun k hk => (footC_txt (l := [t]) hk).elim⟩
theorem TxtAt.get {w : World} {s : Slc} {l : List (List UInt8)} (h : TxtAt w s l) {i : Nat} (hi : i < l.length) : ∃ a, s.p = some a ∧ World.cell? w (Addr.add a (i * 1)) = some (strV l[i]) := by
  obtain ⟨a, ha, _, hrow⟩ := Rows.get h (i := i) (by simpa using hi)
  rw [List.getElem_map] at hrow
  have := hrow.1
  have e : (a.add (i * TxtR.n)).add 0 = a.add (i * 1) := by simp [Addr.add, TxtR]
  rw [e] at this
  exact ⟨a, ha, this⟩
/-- A text is appended. -/
theorem TxtAt.push {T E : TypeId} {w w0 : World} {s : Slc} {l : List (List UInt8)} {x : List UInt8} {K : Slc → World → Prop} (h : TxtAt w s l) (hf : Fresh w0 s) (hk : Keep w0 w) (hlen : l.length < 2 ^ 30)
    (hK : ∀ s' w', TxtAt w' s' (l ++ [x]) → Fresh w0 s' → Keep w0 w' → Ext (ownB s) w w' → (∀ k, ownB s' k → ownB s k ∨ w.heap.size ≤ k) → K s' w') :
    newS w (.cells ⟨[strV x]⟩ T) fun r w2 => appendS 1 E [strV []] w2 s (.slc ⟨some ⟨r, 0, none⟩, 1, 1⟩) K := by
  refine newS_mk (fun r w2 hr hb k2 hs2 => ?_)
  have h2 : Rows TxtR w2 s l (l.map txtC) := h.keep k2
  have z2 := k2.size
  have z0 := hk.size
  refine h2.snoc (cs := txtC x) (x := x) (z := [strV []]) rfl rfl (fun k hk => (foot_txt hk).elim) hb (.inl (by simp)) hlen (fun s' w' g1 g2 g3 => ?_)
  have g3' : ∀ k, ownB s' k → ownB s k ∨ w.heap.size ≤ k := fun k hk => (g3 k hk).imp (fun h => h) (fun h => by omega)
  exact hK s' w' (TxtAt.of (by simpa using g1)) (fun j hj => (g3' j hj).elim (fun h => hf j h) (fun h => by omega)) ((hk.trans k2).ext g2 (fun j hj => hf j hj)) (Ext.trans k2 g2 (fun _ h => h.elim) (fun _ h => .inl h)) g3'

theorem SameTexts_spec (s t : Slc) (a b : List (List UInt8)) (w : World) (ha : TxtAt w s a) (hb : TxtAt w t b) (hl : a.length ≤ 2 ^ 40) :
    Calls Tryd.prog fn_tidewaternum_SameTexts ⟨[s.v, t.v]⟩ w fun e w' => e = .returned (.bool (decide (a = b))) ∧ Keep w w' := by
  have hsl := Rows.sl ha
  have htl := Rows.sl hb
  refine tidewaternum_SameTexts_ok _ _ ?_
  unfold tidewaternum_SameTexts
  refine BIf_ndec (fun h => ?_) (fun h => ?_)
  · rw [decide_eq_false (fun hh => h (by rw [hsl, htl, hh]))]
    exact ⟨rfl, Ext.refl _ _⟩
  · have hlen : a.length = b.length := by omega
    refine ⟨fun i w2 => ∃ k : Nat, i = k ∧ k ≤ a.length ∧ Keep w w2 ∧ ∀ j, j < k → a[j]? = b[j]?, fun i _ => ((a.length : Int) - i).toNat, ⟨0, rfl, by omega, Ext.refl _ _, fun j h => by omega⟩, ?_⟩
    rintro i w2 ⟨k, rfl, hk, hkp, hpre⟩
    intros
    refine BIf_dec (fun h1 => ?_) (fun h1 => ?_)
    · have hka : k < a.length := by omega
      have hkb : k < b.length := by omega
      obtain ⟨p, hp, hcp⟩ := (ha.keep hkp.drew).get hka
      obtain ⟨q, hq, hcq⟩ := (hb.keep hkp.drew).get hkb
      refine needSome_mk hp ⟨by omega, h1, a[k], by rw [Int.toNat_natCast]; exact hcp, needSome_mk hq ⟨by omega, by omega, b[k], by rw [Int.toNat_natCast]; exact hcq, ?_⟩⟩
      refine BIf_ndec (fun h2 => ?_) (fun h2 => ?_)
      · rw [decide_eq_false (fun hh => h2 (by subst hh; rfl))]
        exact ⟨rfl, hkp.drew⟩
      · refine ⟨inR64 (by omega), ⟨k + 1, rfl, by omega, hkp.drew, fun j hj => ?_⟩, by dsimp only; omega⟩
        rcases Nat.lt_or_ge j k with h | h
        · exact hpre j h
        · have : j = k := by omega
          subst this
          rw [List.getElem?_eq_getElem hka, List.getElem?_eq_getElem hkb, h2]
    · rw [decide_eq_true (List.ext_getElem? fun j => ?_)]
      · exact ⟨rfl, hkp⟩
      · rcases Nat.lt_or_ge j k with h | h
        · exact hpre j h
        · rw [List.getElem?_eq_none (by omega), List.getElem?_eq_none (by omega)]
end Go.D
