/-
  WHAT IS PROVED: contracts of functions, and the plain law, for this proof. No further conditions.
-/
import Derived.Test.YtfnibbccnbmkoaaDoorMem
import Derived.Stop.LaidErr
set_option linter.unusedSimpArgs false
set_option linter.unusedVariables false
namespace Go.D
open Go
def p3 (tp : TypeId) (w : World) (g : Nat) (a : Addr) : Prop :=
 w.cell? ⟨g, 0, none⟩ = some (.iface tp (.pointer (some a))) /\ ∃ c t, w.heap[a.block]? = some (.cells c t (0, 0))
theorem kR {P : Program} {nm : String} {W : World} {ti tp te ts : TypeId} {ms : Array (String × TypeId)} {f : Field}
  (hi : P.underlying ti = some (.interface ms)) (hrow : ∀ u, P.typeName? 3 u = some nm -> u = tp)
  (hp : P.underlying tp = some (.pointer te)) (he : P.underlying te = some (.struct #[f])) (hft : f.type = ts) (hfo : f.offset = 0) (hs : P.underlying ts = some .string) (hc : P.cellsOf te = 1) (hcs : P.cellsOf ts = 1) :
  ∀ (L : List (String × List UInt8)) (gs : List Nat) (ps : List MemPlace), L.map (fun x => P.globalNamed x.1) = gs.map some -> (∀ g ∈ gs, (P.globals[g]?).map (·.type) = some ti) ->
   DataW.LaidVars P W (L.map fun x => (x.1, .iface nm (.ptr (.agg [.lit (.string x.2)])))) ps -> ps.Nodup ->
   (∀ b off, MemPlace.cell b off ∈ ps -> (∃ c t, W.heap[b]? = some (.cells c t (0, 0))) /\ ∀ u v, W.cell? ⟨b, off, none⟩ = some (.iface u v) -> Value.okWide P W .any 0 u v) ->
   ∃ as : List Addr, as.length = gs.length /\ (∀ i (h : i < gs.length) (h' : i < as.length), p3 tp W gs[i] as[i]) /\ as.Nodup /\ ∀ a ∈ as, MemPlace.cell a.block a.off ∈ ps
 | [], gs, ps, hg, _, _, _, _ => by
  have : gs = [] := by simpa using hg.symm
  subst this
  exact ⟨[], rfl, fun i h => by simp at h, List.nodup_nil, fun a h => by simp at h⟩
 | x :: L, [], ps, hg, _, _, _, _ => by simp at hg
 | x :: L, g :: gs, ps, hg, ht, h, hnd, hrows => by
  simp only [List.map_cons, List.cons.injEq] at hg
  obtain ⟨g0, t0, cs0, f0, p0, q0, hg0, ht0, hv0, hd0, hr, e0⟩ := h
  obtain rfl := Option.some.inj (hg.1.symm.trans hg0)
  obtain rfl := Option.some.inj ((ht g (by simp)).symm.trans ht0)
  subst e0
  obtain ⟨l0⟩ := cs0
  have ok0 : ∀ u v, l0 = [.iface u v] -> Value.okWide P W .any 0 u v := fun u v e => by
   subst e
   exact (hrows g 0 (by simp [MemPlace.row])).2 u v (by simpa using World.var?_cell hg0 hv0 0)
  obtain ⟨a, s, hl0, hc0, hs0, hz0, rfl⟩ := errorString_of_trod hi hrow hp he hft hfo hs hc hcs hd0 ok0
  simp only at hl0
  subst hl0
  obtain ⟨as, h1, h2, h3, h4⟩ := kR hi hrow hp he hft hfo hs hc hcs L gs q0 hg.2 (fun g h => ht g (by simp [h])) hr (List.nodup_append.1 hnd).2.1
   (fun b off hm => hrows b off (by simp [hm]))
  have hin : MemPlace.cell a.block a.off ∈ MemPlace.row a 1 := by simp [MemPlace.row]
  refine ⟨a :: as, by simp [h1], fun i hi1 hi2 => ?_, List.nodup_cons.2 ⟨fun hm => ?_, h3⟩, fun b hb => ?_⟩
  ·cases i with
   | zero => exact ⟨by simpa using World.var?_cell hg0 hv0 0, (hrows a.block a.off (by simp [hin])).1⟩
   | succ i => exact h2 i (by simpa using hi1) (by simpa using hi2)
  ·exact (List.nodup_append.1 hnd).2.2 _ (List.mem_append_right _ hin) _ (h4 a hm) rfl
  ·rcases List.mem_cons.1 hb with rfl | hb
   ·exact List.mem_append_left _ (List.mem_append_right _ hin)
   ·exact List.mem_append_right _ (h4 b hb)
theorem lH {P : Program} {nm : String} {W : World} {ti tp te ts : TypeId} {ms : Array (String × TypeId)} {f : Field}
  (hi : P.underlying ti = some (.interface ms)) (hrow : ∀ u, P.typeName? 3 u = some nm -> u = tp)
  (hp : P.underlying tp = some (.pointer te)) (he : P.underlying te = some (.struct #[f])) (hft : f.type = ts) (hfo : f.offset = 0) (hs : P.underlying ts = some .string) (hc : P.cellsOf te = 1) (hcs : P.cellsOf ts = 1)
  (L : List (String × List UInt8)) (gs : List Nat) (hg : L.map (fun x => P.globalNamed x.1) = gs.map some) (ht : ∀ g ∈ gs, (P.globals[g]?).map (·.type) = some ti)
  (h : laidMet P (L.map fun x => (x.1, .iface nm (.ptr (.agg [.lit (.string x.2)])))) W) :
  ∃ as : List Addr, as.length = gs.length /\ (∀ i (h : i < gs.length) (h' : i < as.length), p3 tp W gs[i] as[i]) /\ as.Nodup := by
 obtain ⟨ps, h1, h2, h3⟩ := h
 obtain ⟨as, a1, a2, a3, _⟩ := kR hi hrow hp he hft hfo hs hc hcs L gs ps hg ht h1 h2 h3
 exact ⟨as, a1, a2, a3⟩
def eZ (tp : TypeId) (gs : List Nat) (A : Nat -> Addr) (w : World) : Prop :=
 (∀ g ∈ gs, p3 tp w g (A g)) /\ ∀ g ∈ gs, ∀ h ∈ gs, A g = A h -> g = h
theorem eZ.sub {tp : TypeId} {gs hs : List Nat} {A : Nat -> Addr} {w : World} (h : eZ tp gs A w) (k : ∀ g ∈ hs, g ∈ gs) : eZ tp hs A w :=
 ⟨fun g hg => h.1 g (k g hg), fun g hg g' hg' => h.2 g (k g hg) g' (k g' hg')⟩
theorem mA {P : Program} {nm : String} {W : World} {ti tp te ts : TypeId} {ms : Array (String × TypeId)} {f : Field}
  (hi : P.underlying ti = some (.interface ms)) (hrow : ∀ u, P.typeName? 3 u = some nm -> u = tp)
  (hp : P.underlying tp = some (.pointer te)) (he : P.underlying te = some (.struct #[f])) (hft : f.type = ts) (hfo : f.offset = 0) (hs : P.underlying ts = some .string) (hc : P.cellsOf te = 1) (hcs : P.cellsOf ts = 1)
  (L : List (String × List UInt8)) (gs : List Nat) (hg : L.map (fun x => P.globalNamed x.1) = gs.map some) (ht : ∀ g ∈ gs, (P.globals[g]?).map (·.type) = some ti)
  (h : laidMet P (L.map fun x => (x.1, .iface nm (.ptr (.agg [.lit (.string x.2)])))) W) : ∃ A, eZ tp gs A W := by
 obtain ⟨as, h1, h2, h3⟩ := lH hi hrow hp he hft hfo hs hc hcs L gs hg ht h
 have key : ∀ g ∈ gs, ∃ h : gs.idxOf g < gs.length, gs[gs.idxOf g] = g := fun g hg => ⟨List.idxOf_lt_length_iff.2 hg, List.getElem_idxOf _⟩
 have e : ∀ i (h : i < as.length), as.getD i ⟨0, 0, none⟩ = as[i] := fun i h => by simp [List.getD, h]
 refine ⟨fun g => as.getD (gs.idxOf g) ⟨0, 0, none⟩, fun g hg => ?_, fun g hg g' hg' he' => ?_⟩
 ·obtain ⟨a, b⟩ := key g hg
  have := h2 _ a (by omega)
  rw [b] at this
  dsimp only
  rw [e _ (by omega)]
  exact this
 ·obtain ⟨a, b⟩ := key g hg
  obtain ⟨a', b'⟩ := key g' hg'
  dsimp only at he'
  rw [e _ (by omega), e _ (by omega)] at he'
  have hp := List.pairwise_iff_getElem.1 h3
  have : gs.idxOf g = gs.idxOf g' := by
   rcases Nat.lt_trichotomy (gs.idxOf g) (gs.idxOf g') with hlt | heq | hlt
   ·exact absurd he' (hp _ _ (by omega) (by omega) hlt)
   ·exact heq
   ·exact absurd he'.symm (hp _ _ (by omega) (by omega) hlt)
  have hh : ∀ i j (hi : i < gs.length) (hj : j < gs.length), i = j -> gs[i] = gs[j] := fun i j hi hj e => by subst e; rfl
  rw [<- b, <- b']
  exact hh _ _ a a' this
def ov (tp : TypeId) : List Nat -> Nat -> Array Obj -> Array Obj
 | [], _, h => h
 | g :: gs, k, h => ov tp gs (k + 1) (h.modify g fun
   | .cells _ t frozen => .cells #[.iface tp (.pointer (some ⟨k, 0, none⟩))] t frozen
   | o => o)
end Go.D

