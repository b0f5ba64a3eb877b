/-
  WHAT IS PROVED: contracts of functions, and the plain law, for this proof. No further conditions.
-/
import Derived.Test.YtmfdpgjnmdlajaaDoorOrder1
set_option linter.unusedVariables false
set_option linter.unusedSimpArgs false
namespace Go.D
open Go Go.Proofs

def idxE (L : List Ev) (n : Int) : Option Ev := if 0 ≤ n ∧ n < (L.length : Int) then L[n.toNat]? else none
theorem idxE_some {L : List Ev} {n : Int} (h0 : 0 ≤ n) (h1 : n < (L.length : Int)) : ∃ h : n.toNat < L.length, idxE L n = some L[n.toNat] := by
  have h2 : n.toNat < L.length := by omega
  exact ⟨h2, by unfold idxE; rw [if_pos ⟨h0, h1⟩, List.getElem?_eq_getElem h2]⟩
theorem idxE_none {L : List Ev} {n : Int} (h : n < 0 ∨ (L.length : Int) ≤ n) : idxE L n = none := by unfold idxE; rw [if_neg (by omega)]
/-- Does m end ahead of e's begin? -/
def early (L : List Ev) (e : Ev) (m : Int) : Bool := match idxE L m with | some f => decide (f.en < e.b) | none => false
def chkL (L : List Ev) : List Int → List Int → Tab → Bool
  | _, [], _ => true
  | pre, n :: r, t =>
    match idxE L n with
    | none => false
    | some e => !(decide (n ∈ pre)) && (rightB e && (!(r.any (early L e)) && ((doB e t).1 && chkL L (pre ++ [n]) r (doB e t).2)))
def checkB (L : List Ev) (ord : List Int) : Bool := decide (ord.length = L.length) && chkL L [] ord []

theorem EvAt.row {w : World} {s : Slc} {L : List Ev} (h : EvAt w s L) {n : Int} (h0 : 0 ≤ n) (h1 : n < (L.length : Int)) : ∃ (a : Addr) (h : n.toNat < L.length), s.p = some a ∧ rowAt w (Addr.add a (n.toNat * 7)) 0 (evC L[n.toNat]) := by
  have h2 : n.toNat < L.length := by omega
  obtain ⟨a, ha, hr⟩ := h.2.2 n.toNat h2
  exact ⟨a, h2, ha, hr⟩
theorem rowAt_c {w : World} {a : Addr} {cs : List Value} (h : rowAt w a 0 cs) (j : Nat) (hj : j < cs.length) : w.cell? (a.add j) = some cs[j] := by
  have := rowAt_get h j hj
  rwa [Nat.zero_add] at this

def usedOf (n : Nat) (pre : List Int) : List Value := (List.range n).map fun (i : Nat) => Value.bool (decide ((i : Int) ∈ pre))
theorem usedOf_len (n : Nat) (pre : List Int) : (usedOf n pre).length = n := by simp [usedOf]
theorem usedOf_nil (n : Nat) : usedOf n [] = repl n [.bool false] := by
  induction n with
  | zero => rfl
  | succ n ih =>
    have e : repl (n + 1) [Value.bool false] = repl n [.bool false] ++ [.bool false] := by
      unfold repl; rw [List.replicate_succ', List.flatten_append]; rfl
    rw [e, ← ih]
    simp [usedOf, List.range_succ]
theorem usedOf_get {n : Nat} {pre : List Int} {i : Nat} (h : i < n) : (usedOf n pre)[i]'(by rw [usedOf_len]; exact h) = .bool (decide ((i : Int) ∈ pre)) := by simp [usedOf]
theorem usedOf_set {n : Nat} {pre : List Int} {k : Int} (h0 : 0 ≤ k) : (usedOf n pre).set k.toNat (.bool true) = usedOf n (pre ++ [k]) := by
  refine List.ext_getElem (by simp [usedOf]) (fun i h1 h2 => ?_)
  have hi : i < n := by simpa [usedOf] using h2
  rw [usedOf_get hi, List.getElem_set]
  split
  · rename_i he
    have : (i : Int) = k := by omega
    simp [this]
  · rename_i he
    have : ¬ (i : Int) = k := by omega
    rw [usedOf_get hi]
    simp [this]

theorem take_succ_get {α : Type} {l : List α} {k : Nat} (h : k < l.length) : l.take (k + 1) = l.take k ++ [l[k]] := List.take_succ_eq_append_getElem h
theorem drop_cons {α : Type} {l : List α} {k : Nat} (h : k < l.length) : l.drop k = l[k] :: l.drop (k + 1) := List.drop_eq_getElem_cons h

theorem Check_spec (s o : Slc) (L : List Ev) (ord : List Int) (w : World) (hs : EvAt w s L) (ho : intsAt w o ord) (hoc : o.l ≤ o.c) (hl : L.length ≤ 2 ^ 30) :
    Calls Tryd.prog fn_order_Check ⟨[s.v, o.v]⟩ w fun x w' => x = .returned (.bool (checkB L ord)) ∧ Keep w w' := by
  have hsl := hs.1
  have hol := ho.1
  refine order_Check_ok _ _ ?_
  unfold order_Check
  refine ⟨by omega, by omega, by omega, newS_mk (fun r3 w4 hr3 hb3 k3 hs3 => newS_mk (fun r5 w6 hr5 hb5 k5 hs5 => ?_))⟩
  have k6 := k3.trans k5
  have z3 := k3.size
  have o3 : ObjAt w6 r3 (usedOf L.length []) := by
    rw [usedOf_nil, ← hsl]
    exact (ObjAt.new' hb3).keep k5
  have m5 : MapAt MO w6 r5 [] := MapAt.new hb5
  refine BIf_ndec (fun hne => ⟨?_, k6⟩) (fun heq => ?_)
  · unfold checkB; rw [decide_eq_false (by omega)]; rfl
  have hlen : ord.length = L.length := by omega
  have hck : checkB L ord = chkL L [] ord [] := by unfold checkB; rw [decide_eq_true hlen]; rfl
  rw [hck]
  refine ⟨fun i w2 => ∃ (k : Nat) (t : Tab), i = k ∧ k ≤ ord.length ∧ ObjAt w2 r3 (usedOf L.length (ord.take k)) ∧ MapAt MO w2 r5 t ∧ Ext (fun j => j = r3 ∨ j = r5) w6 w2 ∧ chkL L [] ord [] = chkL L (ord.take k) (ord.drop k) t, fun i _ => ((ord.length : Int) - i).toNat,
    ⟨0, [], rfl, by omega, o3, m5, Ext.refl _ _, rfl⟩, ?_⟩
  rintro i w10 ⟨k, t, rfl, hk, o10, m10, x10, hc⟩
  intros
  have keepW : ∀ {w2}, Ext (fun j => j = r3 ∨ j = r5) w6 w2 → Keep w w2 := fun h => k6.ext h (fun j hj => by omega)
  have k10 := keepW x10
  refine BIf_dec (fun h1 => ?_) (fun h1 => ⟨?_, k10⟩)
  · have hkl : k < ord.length := by omega
    rw [drop_cons hkl] at hc
    obtain ⟨p, hp, hcp⟩ := intsAt_cell (intsAt_keep ho k10) hkl
    generalize hn : ord[k] = n at hc hcp
    refine needSome_mk hp ⟨by omega, h1, n, by rw [show Int.toNat (k : Int) * 1 = k by omega]; exact hcp, ?_⟩
    -- what is told ahead of the join
    have bad : idxE L n = none → chkL L [] ord [] = false := fun h => by rw [hc, chkL, h]
    refine ⟨fun w2 => Keep w10 w2 ∧ ∃ (h0 : 0 ≤ n) (h2 : n < (L.length : Int)) (h3 : n.toNat < L.length), n ∉ ord.take k ∧ rightB L[n.toNat] = true, ?_, ?_⟩
    · refine BIf_dec (fun h2 => ⟨by rw [bad (idxE_none (.inl h2))], k10⟩) (fun h2 => BIf_dec (fun h3 => ⟨by rw [bad (idxE_none (.inr (by omega)))], k10⟩) (fun h3 => ?_))
      have hnl : n.toNat < L.length := by omega
      obtain ⟨_, hix⟩ := idxE_some (L := L) (n := n) (by omega) (by omega)
      have hu := usedOf_get (n := L.length) (pre := ord.take k) hnl
      rw [show ((n.toNat : Nat) : Int) = n by omega] at hu
      refine ⟨by omega, by omega, _, by rw [add_lit, show 0 + n.toNat * 1 = n.toNat by omega, o10.cell _ (by rw [usedOf_len]; exact hnl), hu], BIf_dec (fun h4 => ⟨?_, k10⟩) (fun h4 => ?_)⟩
      · rw [hc, chkL, hix]; simp [h4]
      · obtain ⟨a, _, ha, hrow⟩ := (hs.keep k10).row (n := n) (by omega) (by omega)
        refine needSome_mk ha ⟨by omega, by omega, _, _, _, _, _, _, _, hrow, ?_⟩
        refine (right_spec L[n.toNat] w10).mono ?_
        rintro e w96 ⟨rfl, k96⟩
        refine ⟨_, rfl, BIf_mk (fun h5 => ⟨?_, k10.trans k96⟩) (fun h5 => ⟨k96, by omega, by omega, hnl, h4, by simpa using h5⟩)⟩
        rw [hc, chkL, hix]
        have : rightB L[n.toNat] = false := by simpa using h5
        simp [this]
    · rintro w98 ⟨k98, h0, h2, hnl, hnp, hrt⟩
      intros
      obtain ⟨_, hix⟩ := idxE_some (L := L) (n := n) h0 h2
      obtain ⟨g1, g2⟩ := (o10.keep k98).setOne n.toNat (by rw [usedOf_len]; exact hnl) (.bool true)
      refine ⟨h0, by omega, by rw [add_lit, show 0 + n.toNat * 1 = n.toNat by omega]; exact g1, fun w122 hw122 => ?_⟩
      rw [add_lit, show 0 + n.toNat * 1 = n.toNat by omega] at hw122
      obtain ⟨g3, g4, g5⟩ := g2 w122 hw122
      rw [usedOf_set h0, show ord.take k ++ [n] = ord.take (k + 1) by rw [take_succ_get hkl, hn]] at g3
      have hr5 : r5 ≠ r3 := by omega
      have m122 := (m10.keep k98).ext g4 (fun hh => hr5 hh)
      have x122 : Ext (fun j => j = r3 ∨ j = r5) w6 w122 := (x10.trans k98 (fun _ h => h) (fun _ h => h.elim)).trans g4 (fun _ h => h) (fun j hj => .inl (.inl hj))
      refine ⟨inR64 (by omega), by omega, by omega, by omega, by omega, ?_⟩
      have hdrop : (ord.drop (k + 1)).length = ord.length - (k + 1) := by simp
      -- the rest's ends
      refine ⟨fun i w2 => ∃ j : Nat, i = j ∧ j ≤ (ord.drop (k + 1)).length ∧ Keep w122 w2 ∧ ((ord.drop (k + 1)).take j).any (early L L[n.toNat]) = false, fun i _ => (((ord.drop (k + 1)).length : Int) - i).toNat,
        ⟨0, rfl, by omega, Ext.refl _ _, rfl⟩, ?_⟩
      rintro i w127 ⟨j, rfl, hj, k127, hany⟩
      intros
      have x127 : Ext (fun j => j = r3 ∨ j = r5) w6 w127 := x122.trans k127 (fun _ h => h) (fun _ h => h.elim)
      have kw := keepW x127
      have hsubl : ((Slc.sub o 1 (Int.toNat ((k : Int) + 1)) o.l o.c).l : Nat) = ord.length - (k + 1) := by
        simp only [Slc.sub]; omega
      rw [hsubl]
      refine BIf_dec (fun h3 => ?_) (fun h3 => ?_)
      · have hjl : j < (ord.drop (k + 1)).length := by omega
        have hsubp : (Slc.sub o 1 (Int.toNat ((k : Int) + 1)) o.l o.c).p = o.p.map (·.add (k + 1)) := by
          simp only [Slc.sub]
          rw [if_neg (by omega), show Int.toNat ((k : Int) + 1) = k + 1 by omega, Nat.mul_one]
        obtain ⟨p2, hp2, hcp2⟩ := intsAt_cell (intsAt_keep ho kw) (i := k + 1 + j) (by omega)
        rw [hsubp, hp2]
        have hget : (ord.drop (k + 1))[j] = ord[k + 1 + j]'(by omega) := by simp
        rw [← Addr.add_add, ← hget] at hcp2
        generalize hmm : (ord.drop (k + 1))[j] = m at hcp2
        have step : ∀ {w2}, Keep w127 w2 → early L L[n.toNat] m = false → inR .i64 ((j : Int) + 1) ∧ (∃ j2 : Nat, ((j : Int) + 1) = j2 ∧ j2 ≤ (ord.drop (k + 1)).length ∧ Keep w122 w2 ∧ ((ord.drop (k + 1)).take j2).any (early L L[n.toNat]) = false) ∧ (((ord.drop (k + 1)).length : Int) - ((j : Int) + 1)).toNat < (((ord.drop (k + 1)).length : Int) - (j : Int)).toNat := by
          intro w2 k2 he
          refine ⟨inR64 (by omega), ⟨j + 1, rfl, hjl, k127.trans k2, ?_⟩, by omega⟩
          rw [List.take_succ_eq_append_getElem hjl, List.any_append, hany, hmm]
          simp [he]
        refine needSome_mk rfl ⟨by omega, by omega, m, by rw [show Int.toNat (j : Int) * 1 = j by omega]; exact hcp2, BIf_dec (fun h4 => BIf_dec (fun h5 => ?_) (fun h5 => step (Ext.drew _ _) (by unfold early; rw [idxE_none (.inr (by omega))]))) (fun h4 => step (Ext.drew _ _) (by unfold early; rw [idxE_none (.inl (by omega))]))⟩
        obtain ⟨hml, hixm⟩ := idxE_some (L := L) (n := m) h4 (by omega)
        obtain ⟨a, _, ha, hrow⟩ := ((hs.keep kw).keep (Ext.drew none0 _)).row (n := m) h4 (by omega)
        obtain ⟨a2, _, ha2, hrow2⟩ := ((hs.keep kw).keep (Ext.drew none0 _)).row (n := n) h0 h2
        refine needSome_mk ha ⟨h4, by omega, _, rowAt_c hrow 1 (by simp [evC]), needSome_mk ha2 ⟨h0, by omega, _, by have := rowAt_c hrow2 0 (by simp [evC]); rwa [add00] at this, BIf_dec (fun h6 => ⟨?_, kw.drew⟩) (fun h6 => step (Ext.drew _ _) (by unfold early; rw [hixm]; exact decide_eq_false h6))⟩⟩
        have he : early L L[n.toNat] m = true := by unfold early; rw [hixm]; exact decide_eq_true h6
        have : (ord.drop (k + 1)).any (early L L[n.toNat]) = true := List.any_eq_true.2 ⟨m, hmm ▸ List.getElem_mem hjl, he⟩
        rw [hc, chkL, hix]
        simp [this]
      · have hjl : j = (ord.drop (k + 1)).length := by omega
        rw [hjl, List.take_length] at hany
        obtain ⟨a, _, ha, hrow⟩ := (hs.keep kw).row (n := n) h0 h2
        refine needSome_mk ha ⟨h0, by omega, _, _, _, _, _, _, _, hrow, ?_⟩
        refine (do_spec35 L[n.toNat] r5 t w127 (m122.keep k127)).mono ?_
        rintro e w170 ⟨rfl, m170, x170⟩
        have x170' : Ext (fun j => j = r3 ∨ j = r5) w6 w170 := x127.trans x170 (fun _ h => h) (fun j hj => .inl (.inr hj))
        refine ⟨_, rfl, BIf_mk (fun h4 => ⟨?_, keepW x170'⟩) (fun h4 => ⟨inR64 (by omega), ⟨k + 1, (doB L[n.toNat] t).2, rfl, hkl, (g3.keep k127).ext x170 (fun hh => hr5 hh.symm), m170, x170', ?_⟩, by dsimp only; omega⟩)⟩
        · rw [hc, chkL, hix]
          have : (doB L[n.toNat] t).1 = false := by simpa using h4
          simp [this]
        · rw [hc, chkL, hix]
          have h5 : (doB L[n.toNat] t).1 = true := by simpa using h4
          rw [take_succ_get hkl, hn]
          simp [hnp, hrt, hany, h5]
  · have : k = ord.length := by omega
    subst this
    rw [hc, List.drop_length]
    rfl
end Go.D
