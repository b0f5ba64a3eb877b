/-
  WHAT IS PROVED: contracts of functions, and the plain law, for this proof. No further conditions.
-/
import Derived.Test.YtkcobfichmjbdaaDoorVote1
set_option linter.unusedVariables false
set_option linter.unusedSimpArgs false
namespace Go.D
open Go Go.Proofs

/-- A proposer. -/
structure PS where
  (n b : Int) (t : List UInt8) (g : Int) (pr ac : List (Int × Bool)) (yes done : Nat)
abbrev PS.cells (s : PS) (rp ra : Nat) : List Value := [.int .i64 s.n, .int .i64 s.b, strV s.t, .int .i64 s.g, .map (some rp), .map (some ra), .int .i64 s.yes, .int .i64 s.done]
structure PropAt (w : World) (r rp ra : Nat) (s : PS) : Prop where
  o : ObjAt w r (s.cells rp ra)
  p : MapAt KB w rp s.pr
  a : MapAt KB w ra s.ac
  ne : r ≠ rp ∧ r ≠ ra ∧ rp ≠ ra
def PropM (r rp ra k : Nat) : Prop := k = r ∨ k = rp ∨ k = ra
theorem PropAt.ext {N : Nat → Prop} {w w' : World} {r rp ra : Nat} {s : PS} (h : PropAt w r rp ra s) (he : Ext N w w') (hm : ∀ k, PropM r rp ra k → ¬ N k) : PropAt w' r rp ra s :=
  ⟨h.o.ext he (hm _ (.inl rfl)), h.p.ext he (hm _ (.inr (.inl rfl))), h.a.ext he (hm _ (.inr (.inr rfl))), h.ne⟩
theorem PropAt.keep {w w' : World} {r rp ra : Nat} {s : PS} (h : PropAt w r rp ra s) (he : Keep w w') : PropAt w' r rp ra s := h.ext he (fun _ _ h => h)
theorem PropAt.lt {w : World} {r rp ra : Nat} {s : PS} (h : PropAt w r rp ra s) : ∀ k, PropM r rp ra k → k < w.heap.size := by
  rintro k (rfl | rfl | rfl)
  · exact h.o.lt
  · exact h.p.lt
  · exact h.a.lt

abbrev PS.most (s : PS) (k : Nat) : Prop := s.n < 2 * (k : Int)
abbrev PS.has (s : PS) (i : Int) : Prop := 0 ≤ i ∧ i < s.n
def PS.promise (s : PS) (i : Int) (y : Bool) (b : Int) (t : List UInt8) : PS :=
  if s.has i ∧ lookL s.pr i = none then
    if y = true ∧ ¬ s.most s.yes then
      if s.g < b then { s with pr := putL s.pr i y, yes := s.yes + 1, g := b, t := t } else { s with pr := putL s.pr i y, yes := s.yes + 1 }
    else { s with pr := putL s.pr i y }
  else s
def PS.accepted (s : PS) (i : Int) (y : Bool) : PS :=
  if s.most s.yes ∧ s.has i ∧ lookL s.ac i = none then { s with ac := putL s.ac i y, done := s.done + (if y = true then 1 else 0) } else s

theorem most_spec (r rp ra : Nat) (s : PS) (k : Nat) (w : World) (h : PropAt w r rp ra s) (hk : k ≤ 2 ^ 30) :
    Calls Tryd.prog fn_vote_Proposer_most ⟨[.pointer (some ⟨r, 0, none⟩), .int .i64 (k : Int)]⟩ w fun e w' => e = .returned (.bool (decide (s.most k))) ∧ w' = w := by
  refine vote_Proposer_most_ok _ _ ?_
  unfold vote_Proposer_most
  exact ⟨inR64 (by omega), needSome_mk rfl ⟨_, h.o.cell 0 (by simp), rfl, rfl⟩⟩
theorem has_spec (r rp ra : Nat) (s : PS) (i : Int) (w : World) (h : PropAt w r rp ra s) :
    Calls Tryd.prog fn_vote_Proposer_has ⟨[.pointer (some ⟨r, 0, none⟩), .int .i64 i]⟩ w fun e w' => e = .returned (.bool (decide (s.has i))) ∧ w' = w := by
  refine vote_Proposer_has_ok _ _ ?_
  unfold vote_Proposer_has
  refine BIf_dec (fun h1 => needSome_mk rfl ⟨_, h.o.cell 0 (by simp), ?_, rfl⟩) (fun h1 => ⟨?_, rfl⟩)
  · show Ending.returned (Value.bool (decide (i < s.n))) = _
    have : decide (i < s.n) = decide (s.has i) := by rw [decide_eq_decide]; exact ⟨fun h => ⟨h1, h⟩, fun h => h.2⟩
    rw [this]
  · rw [decide_eq_false (fun hh => h1 hh.1)]
theorem Asks_spec (r rp ra : Nat) (s : PS) (w : World) (h : PropAt w r rp ra s) (hk : s.yes ≤ 2 ^ 30) :
    Calls Tryd.prog fn_vote_Proposer_Asks ⟨[.pointer (some ⟨r, 0, none⟩)]⟩ w fun e w' => e = .returned (.tuple ⟨[strV (if s.most s.yes then s.t else []), .bool (decide (s.most s.yes))]⟩) ∧ w' = w := by
  refine vote_Proposer_Asks_ok _ ?_
  unfold vote_Proposer_Asks
  refine needSome_mk rfl ⟨_, by rw [add_lit]; exact h.o.cell 6 (by simp), ?_⟩
  refine (most_spec r rp ra s s.yes w h hk).mono ?_
  rintro e w5 ⟨rfl, rfl⟩
  refine ⟨_, rfl, BIf_ndec (fun h1 => ⟨?_, rfl⟩) (fun h1 => needSome_mk rfl ⟨_, by rw [add_lit]; exact h.o.cell 2 (by simp), ?_, rfl⟩)⟩
  · rw [if_neg h1, decide_eq_false h1]
  · rw [if_pos h1, decide_eq_true h1]
theorem Decided_spec (r rp ra : Nat) (s : PS) (w : World) (h : PropAt w r rp ra s) (hk : s.done ≤ 2 ^ 30) :
    Calls Tryd.prog fn_vote_Proposer_Decided ⟨[.pointer (some ⟨r, 0, none⟩)]⟩ w fun e w' => e = .returned (.tuple ⟨[strV (if s.most s.done then s.t else []), .bool (decide (s.most s.done))]⟩) ∧ w' = w := by
  refine vote_Proposer_Decided_ok _ ?_
  unfold vote_Proposer_Decided
  refine needSome_mk rfl ⟨_, by rw [add_lit]; exact h.o.cell 7 (by simp), ?_⟩
  refine (most_spec r rp ra s s.done w h hk).mono ?_
  rintro e w5 ⟨rfl, rfl⟩
  refine ⟨_, rfl, BIf_ndec (fun h1 => ⟨?_, rfl⟩) (fun h1 => needSome_mk rfl ⟨_, by rw [add_lit]; exact h.o.cell 2 (by simp), ?_, rfl⟩)⟩
  · rw [if_neg h1, decide_eq_false h1]
  · rw [if_pos h1, decide_eq_true h1]

theorem KB_map (x : Option Bool) : x.map KB.vv = Option.map (Sh.v Sh.bool) x := by cases x <;> rfl
theorem KB_get {w : World} {r : Nat} {al : List (Int × Bool)} (h : MapAt KB w r al) (n : Int) : ∃ es, mapIs w (some r) es ∧ mapGet (.int .i64) (.int .i64 n) es = some (Option.map (Sh.v Sh.bool) (lookL al n)) := by
  obtain ⟨es, h1, h2⟩ := h.get
  exact ⟨es, h1, (h2 n).trans (congrArg some (KB_map _))⟩

theorem Accepted_spec (r rp ra : Nat) (s : PS) (i : Int) (y : Bool) (w : World) (h : PropAt w r rp ra s) (hk : s.yes ≤ 2 ^ 29 ∧ s.done ≤ 2 ^ 29) :
    Calls Tryd.prog fn_vote_Proposer_Accepted ⟨[.pointer (some ⟨r, 0, none⟩), .int .i64 i, .bool y]⟩ w fun e w' => e = .returned (.bool (decide (s.most (s.accepted i y).done))) ∧ PropAt w' r rp ra (s.accepted i y) ∧ Ext (PropM r rp ra) w w' := by
  refine vote_Proposer_Accepted_ok _ _ _ ?_
  unfold vote_Proposer_Accepted
  obtain ⟨es, m1, m2⟩ := KB_get h.a i
  refine needSome_mk rfl ⟨_, by rw [add_lit]; exact h.o.cell 5 (by simp), es, m1, _, m2, fun b w2 => w2 = w ∧ b = decide (s.most s.yes ∧ s.has i ∧ lookL s.ac i = none), ?_, ?_⟩
  · refine needSome_mk rfl ⟨_, by rw [add_lit]; exact h.o.cell 6 (by simp), (most_spec r rp ra s s.yes w h (by omega)).mono ?_⟩
    rintro e w12 ⟨rfl, rfl⟩
    refine ⟨_, rfl, BIf_dec (fun h1 => ?_) (fun h1 => ⟨rfl, by rw [decide_eq_false (fun h => h1 h.1)]⟩)⟩
    refine (has_spec r rp ra s i w12 h).mono ?_
    rintro e w15 ⟨rfl, rfl⟩
    refine ⟨_, rfl, BIf_dec (fun h2 => ⟨rfl, ?_⟩) (fun h2 => ⟨rfl, by rw [decide_eq_false (fun h => h2 h.2.1)]⟩)⟩
    cases hl : lookL s.ac i with
    | none =>
      rw [decide_eq_true ⟨h1, h2, rfl⟩]
      have h3 : (lookL s.ac i).isSome = false := by rw [hl]; rfl
      exact congrArg (fun b => !b) h3
    | some x =>
      rw [decide_eq_false (fun h => by cases h.2.2)]
      have h3 : (lookL s.ac i).isSome = true := by rw [hl]; rfl
      exact congrArg (fun b => !b) h3
  · rintro b w18 ⟨rfl, rfl⟩
    intros
    refine BIf_dec (fun h1 => ?_) (fun h1 => ?_)
    · have e1 : s.accepted i y = { s with ac := putL s.ac i y, done := s.done + (if y = true then 1 else 0) } := by rw [PS.accepted, if_pos h1]
      obtain ⟨es, ck, es', ck', q1, q2, q3⟩ := h.a.put i y
      refine needSome_mk rfl ⟨_, by rw [add_lit]; exact h.o.cell 5 (by simp), ra, es, ck, es', ck', rfl, q1, q2, fun w40 hw => ?_⟩
      obtain ⟨c1, c2, c3⟩ := q3 w40 hw
      have ho := h.o.ext c2 h.ne.2.1
      have hp := h.p.ext c2 h.ne.2.2
      refine BIf_mk (fun hy => ?_) (fun hy => ?_)
      · refine needSome_mk rfl ⟨(s.done : Int), by rw [add_lit]; exact ho.cell 7 (by simp), inR64 (by omega), ?_⟩
        obtain ⟨d1, d2⟩ := ho.setOne 7 (by simp) (.int .i64 ((s.done : Int) + 1))
        refine needSome_mk rfl ?_
        rw [add_lit]
        refine ⟨d1, fun w44 hw => ?_⟩
        obtain ⟨f1, f2, f3⟩ := d2 w44 hw
        have hP : PropAt w44 r rp ra (s.accepted i y) := ⟨by rw [e1, hy]; exact f1, by rw [e1]; exact hp.ext f2 (fun h' => h.ne.1 h'.symm), by rw [e1]; exact c1.ext f2 (fun h' => h.ne.2.1 h'.symm), h.ne⟩
        have hd : (s.accepted i y).done = s.done + 1 := by rw [e1, hy]; rfl
        refine needSome_mk rfl ⟨((s.done : Int) + 1), by rw [add_lit]; exact f1.cell 7 (by simp), ?_⟩
        have hc := most_spec r rp ra (s.accepted i y) (s.done + 1) w44 hP (by omega)
        refine Calls.mono hc ?_
        rintro e w48 ⟨rfl, rfl⟩
        refine ⟨_, rfl, ?_, hP, ?_⟩
        · rw [hd]
          have : (s.accepted i y).n = s.n := by rw [e1]
          simp only [PS.most, this]
        · exact c2.trans f2 (fun k hk => .inr (.inr hk)) (fun k hk => .inl (.inl hk))
      · have hP : PropAt w40 r rp ra (s.accepted i y) := ⟨by rw [e1, hy]; exact ho, by rw [e1]; exact hp, by rw [e1]; exact c1, h.ne⟩
        have hd : (s.accepted i y).done = s.done := by rw [e1, hy]; rfl
        refine needSome_mk rfl ⟨_, by rw [add_lit]; exact ho.cell 7 (by simp), (most_spec r rp ra _ s.done w40 hP (by omega)).mono ?_⟩
        rintro e w48 ⟨rfl, rfl⟩
        refine ⟨_, rfl, ?_, hP, ?_⟩
        · rw [hd]
          have : (s.accepted i y).n = s.n := by rw [e1]
          simp only [PS.most, this]
        · exact c2.mono (fun k hk => .inr (.inr hk))
    · have e1 : s.accepted i y = s := by rw [PS.accepted, if_neg h1]
      refine needSome_mk rfl ⟨_, by rw [add_lit]; exact h.o.cell 7 (by simp), (most_spec r rp ra s s.done w18 h (by omega)).mono ?_⟩
      rintro e w58 ⟨rfl, rfl⟩
      exact ⟨_, rfl, by rw [e1], by rw [e1]; exact h, Ext.refl _ _⟩

theorem Promise_spec (r rp ra : Nat) (s : PS) (i : Int) (y : Bool) (b : Int) (t : List UInt8) (w : World) (h : PropAt w r rp ra s) (hk : s.yes ≤ 2 ^ 29) :
    Calls Tryd.prog fn_vote_Proposer_Promise ⟨[.pointer (some ⟨r, 0, none⟩), .int .i64 i, .agg ⟨[.bool y, .int .i64 b, strV t]⟩]⟩ w fun e w' => e = .returned (.bool (decide (s.most (s.promise i y b t).yes))) ∧ PropAt w' r rp ra (s.promise i y b t) ∧ Ext (PropM r rp ra) w w' := by
  refine vote_Proposer_Promise_ok _ _ _ _ _ ?_
  unfold vote_Proposer_Promise
  refine newS_mk (fun r6 w7 hr6 hb6 k7 hs7 => ?_)
  have o6 := ObjAt.new' hb6
  have hlt := h.lt
  have h7 := h.keep k7
  obtain ⟨es, m1, m2⟩ := KB_get h7.p i
  have same : ∀ w2, Keep w w2 → PropAt w2 r rp ra s → s.promise i y b t = s → Calls Tryd.prog fn_vote_Proposer_most ⟨[.pointer (some ⟨r, 0, none⟩), .int .i64 (s.yes : Int)]⟩ w2 fun e18 w19 =>
      ∃ b20 : Bool, e18 = .returned (Value.bool b20) ∧ (Ending.returned (Value.bool b20) = .returned (.bool (decide (s.most (s.promise i y b t).yes))) ∧ PropAt w19 r rp ra (s.promise i y b t) ∧ Ext (PropM r rp ra) w w19) := by
    intro w2 k2 h2 he
    refine (most_spec r rp ra s s.yes w2 h2 (by omega)).mono ?_
    rintro e w19 ⟨rfl, rfl⟩
    exact ⟨_, rfl, by rw [he], by rw [he]; exact h2, k2.mono (fun _ h => h.elim)⟩
  refine needSome_mk rfl ⟨_, by rw [add_lit]; exact h7.o.cell 4 (by simp), es, m1, _, m2, fun w2 => w2 = w7 ∧ s.has i ∧ lookL s.pr i = none, ?_, ?_⟩
  · refine (has_spec r rp ra s i w7 h7).mono ?_
    rintro e w14 ⟨rfl, rfl⟩
    refine ⟨_, rfl, BIf_ndec (fun h1 => ?_) (fun h1 => ?_)⟩
    · exact needSome_mk rfl ⟨_, by rw [add_lit]; exact h7.o.cell 6 (by simp), same _ k7 h7 (by rw [PS.promise, if_neg (fun h => h1 h.1)])⟩
    · refine BIf_mk (fun h2 => ?_) (fun h2 => ?_)
      · have h2 : (lookL s.pr i).isSome = true := h2
        exact needSome_mk rfl ⟨_, by rw [add_lit]; exact h7.o.cell 6 (by simp), same _ k7 h7 (by rw [PS.promise, if_neg (fun h => by rw [h.2] at h2; cases h2)])⟩
      · have h2 : (lookL s.pr i).isSome = false := h2
        exact ⟨rfl, h1, by cases hl : lookL s.pr i with | none => rfl | some x => rw [hl] at h2; cases h2⟩
  · rintro w26 ⟨rfl, hh, hl⟩
    intros
    have hd := h7.keep (Ext.drew _ w26)
    have o6d := o6.keep (Ext.drew _ w26)
    obtain ⟨es, ck, es', ck', q1, q2, q3⟩ := hd.p.put i y
    refine needSome_mk rfl ⟨_, by rw [add_lit]; exact hd.o.cell 4 (by simp), y, o6d.cell 0 (by simp), rp, es, ck, es', ck', rfl, q1, q2, fun w49 hw => ?_⟩
    obtain ⟨c1, c2, c3⟩ := q3 w49 hw
    have ho := hd.o.ext c2 h.ne.1
    have ha := hd.a.ext c2 (fun h' => h.ne.2.2 h'.symm)
    have o6' := o6d.ext c2 (fun h' => by have := hlt rp (.inr (.inl rfl)); omega)
    have e49 : Ext (PropM r rp ra) w w49 := Ext.trans (M1 := none0) k7.drew c2 (fun _ h => h.elim) (fun k hk => .inl (.inr (.inl hk)))
    have h49 : PropAt w49 r rp ra { s with pr := putL s.pr i y } := ⟨ho, c1, ha, h.ne⟩
    have same2 : s.promise i y b t = { s with pr := putL s.pr i y } → Calls Tryd.prog fn_vote_Proposer_most ⟨[.pointer (some ⟨r, 0, none⟩), .int .i64 (s.yes : Int)]⟩ w49 fun e18 w19 =>
        ∃ b20 : Bool, e18 = .returned (Value.bool b20) ∧ (Ending.returned (Value.bool b20) = .returned (.bool (decide (s.most (s.promise i y b t).yes))) ∧ PropAt w19 r rp ra (s.promise i y b t) ∧ Ext (PropM r rp ra) w w19) := by
      intro he
      refine (most_spec r rp ra { s with pr := putL s.pr i y } s.yes w49 h49 (by omega)).mono ?_
      rintro e w19 ⟨rfl, rfl⟩
      exact ⟨_, rfl, by rw [he], by rw [he]; exact h49, e49⟩
    refine ⟨fun w2 => w2 = w49 ∧ y = true ∧ ¬ s.most s.yes, ⟨y, o6'.cell 0 (by simp), ?_⟩, ?_⟩
    · cases y with
      | false => exact BIf_mk (fun _ => needSome_mk rfl ⟨_, by rw [add_lit]; exact ho.cell 6 (by simp), same2 (by rw [PS.promise, if_pos ⟨hh, hl⟩, if_neg (by simp)])⟩) (fun h => by cases h)
      | true =>
        refine BIf_mk (fun h => by cases h) (fun _ => needSome_mk rfl ⟨_, by rw [add_lit]; exact ho.cell 6 (by simp), ?_⟩)
        refine (most_spec r rp ra { s with pr := putL s.pr i true } s.yes w49 h49 (by omega)).mono ?_
        rintro e w60 ⟨rfl, rfl⟩
        refine ⟨_, rfl, BIf_dec (fun h3 => ?_) (fun h3 => ⟨rfl, rfl, h3⟩)⟩
        exact needSome_mk rfl ⟨_, by rw [add_lit]; exact ho.cell 6 (by simp), same2 (by rw [PS.promise, if_pos ⟨hh, hl⟩, if_neg (fun hx => hx.2 h3)])⟩
    · rintro w67 ⟨rfl, rfl, hnm⟩
      intros
      obtain ⟨d1, d2⟩ := ho.setOne 6 (by simp) (.int .i64 ((s.yes : Int) + 1))
      refine needSome_mk rfl ⟨(s.yes : Int), by rw [add_lit]; exact ho.cell 6 (by simp), inR64 (by omega), needSome_mk rfl ?_⟩
      rw [add_lit]
      refine ⟨d1, fun w89 hw => ?_⟩
      obtain ⟨f1, f2, f3⟩ := d2 w89 hw
      have f1 : ObjAt w89 r (({ s with pr := putL s.pr i true, yes := s.yes + 1 } : PS).cells rp ra) := f1
      have hp2 := c1.ext f2 (fun h' => h.ne.1 h'.symm)
      have ha2 := ha.ext f2 (fun h' => h.ne.2.1 h'.symm)
      have o62 := o6'.ext f2 (fun h' => by have := hlt r (.inl rfl); omega)
      have e89 := e49.trans f2 (fun _ h => h) (fun k hk => .inl (.inl hk))
      have kd : Keep w89 w89.drew := Ext.drew _ _
      have kd2 : Keep w89 w89.drew.drew := kd.drew
      have hlt7 : r6 ≠ r := fun h' => by have := hlt r (.inl rfl); omega
      refine ⟨_, (o62.keep kd).cell 1 (by simp), needSome_mk rfl ⟨_, by rw [add_lit]; exact (f1.keep kd).cell 3 (by simp), BIf_dec (fun hg => ?_) (fun hg => ?_)⟩⟩
      · have hg : s.g < b := hg
        have ep : s.promise i true b t = { s with pr := putL s.pr i true, yes := s.yes + 1, g := b, t := t } := by rw [PS.promise, if_pos ⟨hh, hl⟩, if_pos ⟨rfl, hnm⟩, if_pos hg]
        obtain ⟨g1, g2⟩ := (f1.keep kd2).setOne 3 (by simp) (.int .i64 b)
        refine ⟨b, (o62.keep kd2).cell 1 (by simp), t, (o62.keep kd2).cell 2 (by simp), needSome_mk rfl ?_⟩
        rw [add_lit]
        refine ⟨g1, fun w96 hw => ?_⟩
        obtain ⟨i1, i2, i3⟩ := g2 w96 hw
        obtain ⟨j1, j2⟩ := i1.setOne 2 (by simp) (strV t)
        refine ⟨⟨t, ((o62.keep kd2).ext i2 hlt7).cell 2 (by simp), rfl⟩, needSome_mk rfl ?_⟩
        rw [add_lit]
        refine ⟨j1, fun w99 hw => ?_⟩
        obtain ⟨l1, l2, l3⟩ := j2 w99 hw
        have hP : PropAt w99 r rp ra (s.promise i true b t) := by
          rw [ep]
          exact ⟨l1, ((hp2.keep kd2).ext i2 (fun h' => h.ne.1 h'.symm)).ext l2 (fun h' => h.ne.1 h'.symm), ((ha2.keep kd2).ext i2 (fun h' => h.ne.2.1 h'.symm)).ext l2 (fun h' => h.ne.2.1 h'.symm), h.ne⟩
        refine needSome_mk rfl ⟨((s.yes : Int) + 1), by rw [add_lit]; exact l1.cell 6 (by simp), ?_⟩
        refine Calls.mono (most_spec r rp ra (s.promise i true b t) (s.yes + 1) w99 hP (by omega)) ?_
        rintro e w103 ⟨rfl, rfl⟩
        refine ⟨_, rfl, by rw [ep], hP, ?_⟩
        exact ((e89.trans kd2 (fun _ h => h) (fun _ h => h.elim)).trans i2 (fun _ h => h) (fun k hk => .inl (.inl hk))).trans l2 (fun _ h => h) (fun k hk => .inl (.inl hk))
      · have hg : ¬ s.g < b := hg
        have ep : s.promise i true b t = { s with pr := putL s.pr i true, yes := s.yes + 1 } := by rw [PS.promise, if_pos ⟨hh, hl⟩, if_pos ⟨rfl, hnm⟩, if_neg hg]
        have hP : PropAt w89.drew r rp ra (s.promise i true b t) := by
          rw [ep]
          exact ⟨f1.keep kd, hp2.keep kd, ha2.keep kd, h.ne⟩
        refine needSome_mk rfl ⟨((s.yes : Int) + 1), by rw [add_lit]; exact (f1.keep kd).cell 6 (by simp), ?_⟩
        refine Calls.mono (most_spec r rp ra (s.promise i true b t) (s.yes + 1) w89.drew hP (by omega)) ?_
        rintro e w103 ⟨rfl, rfl⟩
        exact ⟨_, rfl, by rw [ep], hP, e89.trans kd (fun _ h => h) (fun _ h => h.elim)⟩

theorem New_spec (A : Nat → Addr) (n m b : Int) (t : List UInt8) (w : World) (hE : Errs A w) :
    Calls Tryd.prog fn_vote_New ⟨[.int .i64 n, .int .i64 m, .int .i64 b, strV t]⟩ w fun e w' => Keep w w' ∧
      ((¬ (1 ≤ n ∧ n ≤ 5) ∧ e = .returned (.tuple ⟨[.pointer none, errV A (errG.getD 0 0)]⟩)) ∨ ((1 ≤ n ∧ n ≤ 5) ∧ b < 0 ∧ e = .returned (.tuple ⟨[.pointer none, errV A (errG.getD 3 0)]⟩)) ∨
       ((1 ≤ n ∧ n ≤ 5) ∧ 0 ≤ b ∧ ∃ r rp ra, e = .returned (.tuple ⟨[.pointer (some ⟨r, 0, none⟩), .nilIface]⟩) ∧ PropAt w' r rp ra ⟨n, b, t, -1, [], [], 0, 0⟩ ∧ ∀ k, PropM r rp ra k → w.heap.size ≤ k)) := by
  refine vote_New_ok _ _ _ _ ?_
  unfold vote_New
  have kd : Keep w w.drew := Ext.drew _ _
  refine BIf_dec (fun h1 => ⟨_, Errs.at (hE.keep kd) 0 (by omega), kd, .inl ⟨by omega, rfl⟩⟩) (fun h1 => BIf_dec (fun h2 => ⟨_, Errs.at (hE.keep kd) 0 (by omega), kd, .inl ⟨by omega, rfl⟩⟩) (fun h2 => BIf_dec (fun h3 => ⟨_, Errs.at (hE.keep kd) 3 (by omega), kd, .inr (.inl ⟨by omega, h3, rfl⟩)⟩) (fun h3 => ?_)))
  refine newS_mk (fun r8 w9 hr8 hb8 k8 hs8 => newS_mk (fun r10 w11 hr10 hb10 k10 hs10 => newS_mk (fun r12 w13 hr12 hb12 k12 hs12 => ?_)))
  refine ⟨(k8.trans k10).trans k12, .inr (.inr ⟨by omega, by omega, r12, r8, r10, rfl, ⟨ObjAt.new' hb12, MapAt.keep (MapAt.new hb8) (k10.trans k12), MapAt.keep (MapAt.new hb10) k12, by omega⟩, ?_⟩)⟩
  rintro k (rfl | rfl | rfl) <;> omega
end Go.D
