/-
  WHAT IS PROVED: contracts of functions, and the plain law, for this proof. No further conditions.
-/
import Derived.Test.YtmfdpgjnmdlajaaDoorVCorder
import Derived.Test.YtmfdpgjnmdlajaaDoorVCref35
import Derived.Test.YtmfdpgjnmdlajaaDoorSameInts
import Derived.Test.YtmfdpgjnmdlajaaDoorMapM
import Derived.Test.YtmfdpgjnmdlajaaDoorRowsM
import Derived.Test.YtmfdpgjnmdlajaaDoorRangeM
set_option linter.unusedVariables false
set_option linter.unusedSimpArgs false
namespace Go.D
open Go Go.Proofs

/-! ### events -/
structure Ev where
  b : Int
  en : Int
  kind : Int
  key : List UInt8
  val : List UInt8
  old : List UInt8
  yes : Bool
def evC (e : Ev) : List Value := [.int .i64 e.b, .int .i64 e.en, .int .i64 e.kind, strV e.key, strV e.val, strV e.old, .bool e.yes]
def EvAt (w : World) (s : Slc) (xs : List Ev) : Prop := s.l = xs.length ∧ s.l ≤ s.c ∧ ∀ i (h : i < xs.length), ∃ a, s.p = some a ∧ rowAt w (Addr.add a (i * 7)) 0 (evC xs[i])
theorem EvAt.ext {M : Nat → Prop} {w w' : World} {s : Slc} {xs : List Ev} (h : EvAt w s xs) (he : Ext M w w') (hm : 0 < xs.length → ∀ k, ownB s k → ¬ M k) : EvAt w' s xs :=
  ⟨h.1, h.2.1, fun i hi => let ⟨a, ha, hr⟩ := h.2.2 i hi; ⟨a, ha, rowAt_ext hr he (by rw [add_block]; exact hm (by omega) _ ⟨a, ha, rfl⟩)⟩⟩
theorem EvAt.lt {w : World} {s : Slc} {xs : List Ev} (h : EvAt w s xs) (h0 : 0 < xs.length) : ∀ k, ownB s k → k < w.heap.size := by
  rintro k ⟨a, ha, rfl⟩
  obtain ⟨a', ha', hr⟩ := h.2.2 0 h0
  rw [ha] at ha'; cases ha'
  have := World.block_lt_of_cell? w _ (rowAt_get hr 0 (by simp [evC]))
  rwa [add_block, add_block] at this
theorem EvAt.keep {w w' : World} {s : Slc} {xs : List Ev} (h : EvAt w s xs) (he : Keep w w') : EvAt w' s xs := h.ext he (fun _ _ _ h => h)
theorem add00 (a : Addr) : a.add 0 = a := by simp [Addr.add]
theorem sub0 (s : Slc) (sz n : Nat) : Slc.sub s sz 0 n s.c = ⟨s.p, n, s.c⟩ := by
  unfold Slc.sub
  have : s.p.map (·.add (0 * sz)) = s.p := by
    cases s.p with
    | none => rfl
    | some a => simp [add00]
  rw [this]; simp
theorem EvAt.sub {w : World} {s : Slc} {xs : List Ev} (h : EvAt w s xs) (n : Nat) (hn : n ≤ xs.length) : EvAt w ⟨s.p, n, s.c⟩ (xs.take n) := by
  refine ⟨by simp; omega, by have := h.1; have := h.2.1; show n ≤ s.c; omega, fun i hi => ?_⟩
  have hi2 : i < n := by simp at hi; omega
  obtain ⟨a, ha, hr⟩ := h.2.2 i (by omega)
  exact ⟨a, ha, by simpa using hr⟩

def rightB (e : Ev) : Bool := decide (e.b ≤ e.en) && (decide (1 ≤ e.kind) && decide (e.kind ≤ 4))
theorem right_spec (e : Ev) (w : World) : Calls Tryd.prog fn_order_Event_right ⟨[.agg ⟨evC e⟩]⟩ w fun x w' => x = .returned (.bool (rightB e)) ∧ Keep w w' := by
  refine order_Event_right_ok _ _ _ _ _ _ _ ?_
  unfold order_Event_right rightB
  refine newS_mk (fun r w1 hr hb hk hs => ?_)
  have o := ObjAt.new' hb
  refine ⟨_, o.cell 0 (by simp), _, o.cell 1 (by simp), BIf_dec (fun h1 => ⟨_, o.cell 2 (by simp), BIf_dec (fun h2 => ⟨_, o.cell 2 (by simp), ?_, hk⟩) (fun h2 => ⟨?_, hk⟩)⟩) (fun h1 => ⟨?_, hk⟩)⟩
  · rw [decide_eq_true h1, decide_eq_true h2]; rfl
  · rw [decide_eq_false h2]; simp
  · rw [decide_eq_false h1]; rfl
theorem Right_spec35 (e : Ev) (w : World) : Calls Tryd.prog fn_tidewaterref35_Right ⟨[.agg ⟨evC e⟩]⟩ w fun x w' => x = .returned (.bool (rightB e)) ∧ Keep w w' := by
  refine tidewaterref35_Right_ok _ _ _ _ _ _ _ ?_
  unfold tidewaterref35_Right rightB
  refine newS_mk (fun r w1 hr hb hk hs => ?_)
  have o := ObjAt.new' hb
  refine ⟨_, o.cell 1 (by simp), _, o.cell 0 (by simp), BIf_dec (fun h1 => ⟨_, o.cell 2 (by simp), BIf_dec (fun h2 => ⟨_, o.cell 2 (by simp), ?_, hk⟩) (fun h2 => ⟨?_, hk⟩)⟩) (fun h1 => ⟨?_, hk⟩)⟩
  · rw [decide_eq_true h1, decide_eq_true h2]; rfl
  · rw [decide_eq_false h2]; simp
  · rw [decide_eq_false h1]; rfl

/-! ### an event, done to a table -/
abbrev Tab := List (List UInt8 × List UInt8)
abbrev MO : KV (List UInt8) (List UInt8) := KV.str strV
def doneB (e : Ev) (t : Tab) : Bool := (lookL t e.key).isSome && decide ((lookL t e.key).getD [] = e.old)
def doB (e : Ev) (t : Tab) : Bool × Tab :=
  if e.kind = 1 then (true, putL t e.key e.val)
  else if e.kind = 2 then (e.yes == (lookL t e.key).isSome, delL t e.key)
  else if e.kind = 3 then (e.yes == doneB e t, if doneB e t then putL t e.key e.val else t)
  else (e.yes == (lookL t e.key).isSome && (!(lookL t e.key).isSome || decide ((lookL t e.key).getD [] = e.val)), t)

theorem do_spec35 (e : Ev) (m : Nat) (t : Tab) (w : World) (h : MapAt MO w m t) :
    Calls Tryd.prog fn_order_Event_do ⟨[.agg ⟨evC e⟩, .map (some m)]⟩ w fun x w' => x = .returned (.bool (doB e t).1) ∧ MapAt MO w' m (doB e t).2 ∧ Ext (fun k => k = m) w w' := by
  refine order_Event_do_ok _ _ _ _ _ _ _ _ ?_
  unfold order_Event_do
  refine newS_mk (fun r w10 hr hb hk hs => ?_)
  have o := ObjAt.new' hb
  have hm := h.keep hk
  have hml := h.lt
  obtain ⟨es, hes, hget⟩ := hm.get
  have k10 : Ext (fun k => k = m) w w10 := hk.mono (fun _ h => h.elim)
  obtain ⟨q, hq⟩ : ∃ q : Option (List UInt8), lookL t e.key = q := ⟨_, rfl⟩
  have hg : mapGet .string (strV e.key) es = some (Option.map (Sh.v Sh.str) q) := by rw [← hq]; exact hget e.key
  refine ⟨_, o.cell 3 (by simp), es, hes, q, hg, _, o.cell 2 (by simp), ?_⟩
  -- laying the value
  have lay : ∀ (K : World → Prop), (∀ w1, MapAt MO w1 m (putL t e.key e.val) → ObjAt w1 r (evC e) → Ext (fun k => k = m) w w1 → K w1) →
      ∃ (mb17 : Nat) (es18 : Array MapEntry) (ck19 : Nat) (es20 : Array MapEntry) (ck21 : Nat), some m = some mb17 ∧ (World.heap (w10))[mb17]? = some (.map es18 ck19) ∧ mapPut .string (strV e.key) (strV e.val) es18 ck19 = some (es20, ck21) ∧ ∀ w22 : World, w22 = setObjW w10 mb17 (.map es20 ck21) → K w22 := by
    intro K hK
    obtain ⟨es, ck, es', ck', g1, g2, g3⟩ := hm.put e.key e.val
    refine ⟨m, es, ck, es', ck', rfl, g1, g2, fun w1 hw1 => ?_⟩
    obtain ⟨g4, g5, _⟩ := g3 w1 hw1
    exact hK w1 g4 (o.ext g5 (fun hh => by omega)) (k10.trans g5 (fun _ h => h) (fun _ h => .inl h))
  unfold doB doneB
  rw [hq]
  refine BIf_dec (fun h1 => ?_) (fun h1 => ?_)
  · refine ⟨_, o.cell 3 (by simp), _, o.cell 4 (by simp), lay _ (fun w1 g1 g2 g3 => ?_)⟩
    rw [if_pos h1]
    exact ⟨rfl, g1, g3⟩
  · rw [if_neg h1]
    refine BIf_dec (fun h2 => ?_) (fun h2 => ?_)
    · rw [if_pos h2]
      obtain ⟨es2, ck, es', g1, g2, g3⟩ := hm.del e.key
      refine ⟨_, o.cell 3 (by simp), m, es2, ck, es', rfl, g1, g2, fun w1 hw1 => ?_⟩
      obtain ⟨g4, g5, _⟩ := g3 w1 hw1
      exact ⟨_, (o.ext g5 (fun hh => by omega)).cell 6 (by simp), rfl, g4, k10.trans g5 (fun _ h => h) (fun _ h => .inl h)⟩
    · rw [if_neg h2]
      refine BIf_dec (fun h3 => ?_) (fun h3 => ?_)
      · rw [if_pos h3]
        refine BIf_mk (fun h4 => ?_) (fun h4 => ?_)
        · refine ⟨_, o.cell 5 (by simp), BIf_dec (fun h5 => ?_) (fun h5 => ?_)⟩
          · refine ⟨_, o.cell 3 (by simp), _, o.cell 4 (by simp), lay _ (fun w1 g1 g2 g3 => ⟨_, g2.cell 6 (by simp [evC]), ?_, ?_, g3⟩)⟩
            · rw [h4]; simp [evC]
            · rw [if_pos (by rw [h4]; simpa using h5)]; exact g1
          · refine ⟨_, o.cell 6 (by simp), ?_, ?_, k10⟩
            · rw [h4]; simp
            · rw [if_neg (by rw [h4]; simpa using h5)]; exact hm
        · refine ⟨_, o.cell 6 (by simp), ?_, ?_, k10⟩
          · rw [h4]; simp
          · rw [if_neg (by rw [h4]; simp)]; exact hm
      · rw [if_neg h3]
        refine ⟨_, o.cell 6 (by simp), BIf_mk (fun h4 => BIf_mk (fun h5 => ⟨?_, hm, k10⟩) (fun h5 => ⟨_, o.cell 4 (by simp), ?_, hm, k10⟩)) (fun h4 => ⟨?_, hm, k10⟩)⟩
        · rw [h4, h5]; simp
        · rw [h4, h5]; simp
        · rw [h4]; simp
end Go.D
