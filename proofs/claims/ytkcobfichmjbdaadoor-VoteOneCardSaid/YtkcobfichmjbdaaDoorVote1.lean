/-
  WHAT IS PROVED: contracts of functions, and the plain law, for this proof. No further conditions.
-/
import Derived.Test.YtkcobfichmjbdaaDoorVCvote
import Derived.Test.YtkcobfichmjbdaaDoorNum
import Derived.Test.YtkcobfichmjbdaaDoorMapM
set_option linter.unusedVariables false
set_option linter.unusedSimpArgs false
namespace Go.D
open Go Go.Proofs

/-- What a voter has of a matter. -/
structure VS where
  (p b : Int) (t : List UInt8)
def VS.new : VS := ⟨-1, -1, []⟩
abbrev VS.cells (v : VS) : List Value := [.int .i64 v.p, .int .i64 v.b, strV v.t]
def KP : KV Int Nat := KV.int (fun r => .pointer (some ⟨r, 0, none⟩))
def KB : KV Int Bool := KV.int (fun b => .bool b)

def upd (f : Int → VS) (n : Int) (v : VS) : Int → VS := fun k => if k = n then v else f k
/-- A voter at block r, all whose blocks are in F. -/
def VoterAt (w : World) (r : Nat) (F : Nat → Prop) (f : Int → VS) : Prop :=
  F r ∧ ∃ m : Option Nat, ObjAt w r [.map m] ∧ ((m = none ∧ ∀ n, f n = VS.new) ∨ ∃ b al, m = some b ∧ F b ∧ b ≠ r ∧ MapAt KP w b al ∧
    ∀ n, (lookL al n = none ∧ f n = VS.new) ∨ ∃ rb, lookL al n = some rb ∧ F rb ∧ rb ≠ r ∧ rb ≠ b ∧ ObjAt w rb (f n).cells)
theorem VoterAt.ext {N : Nat → Prop} {w w' : World} {r : Nat} {F : Nat → Prop} {f : Int → VS} (h : VoterAt w r F f) (he : Ext N w w') (hm : ∀ k, F k → ¬ N k) : VoterAt w' r F f := by
  obtain ⟨h0, m, h1, h2⟩ := h
  refine ⟨h0, m, h1.ext he (hm r h0), h2.imp (fun h => h) ?_⟩
  rintro ⟨b, al, rfl, g1, g2, g3, g4⟩
  refine ⟨b, al, rfl, g1, g2, g3.ext he (hm b g1), fun n => (g4 n).imp (fun h => h) ?_⟩
  rintro ⟨rb, q1, q2, q3, q4, q5⟩
  exact ⟨rb, q1, q2, q3, q4, q5.ext he (hm rb q2)⟩
theorem VoterAt.keep {w w' : World} {r : Nat} {F : Nat → Prop} {f : Int → VS} (h : VoterAt w r F f) (he : Keep w w') : VoterAt w' r F f := h.ext he (fun _ _ h => h)
theorem VoterAt.mono {w : World} {r : Nat} {F F' : Nat → Prop} {f : Int → VS} (h : VoterAt w r F f) (hf : ∀ k, F k → F' k) : VoterAt w r F' f := by
  obtain ⟨h0, m, h1, h2⟩ := h
  refine ⟨hf r h0, m, h1, h2.imp (fun h => h) ?_⟩
  rintro ⟨b, al, rfl, g1, g2, g3, g4⟩
  refine ⟨b, al, rfl, hf b g1, g2, g3, fun n => (g4 n).imp (fun h => h) ?_⟩
  rintro ⟨rb, q1, q2, q3⟩
  exact ⟨rb, q1, hf rb q2, q3⟩
theorem VoterAt.new {w : World} {r : Nat} {T : TypeId} (h : w.heap[r]? = some (.cells ⟨[.map none]⟩ T)) : VoterAt w r (fun k => k = r) (fun _ => VS.new) :=
  ⟨rfl, none, ObjAt.new' h, .inl ⟨rfl, fun _ => rfl⟩⟩

theorem look_spec (r : Nat) (F : Nat → Prop) (f : Int → VS) (n : Int) (w : World) (h : VoterAt w r F f) :
    Calls Tryd.prog fn_vote_Voter_look ⟨[.pointer (some ⟨r, 0, none⟩), .int .i64 n]⟩ w fun e w' => e = .returned (.agg ⟨(f n).cells⟩) ∧ Keep w w' := by
  refine vote_Voter_look_ok _ _ ?_
  unfold vote_Voter_look
  refine newS_mk (fun r3 w4 hr3 hb hk hs => ?_)
  have ho := ObjAt.new' hb
  obtain ⟨h0, m, h1, h2⟩ := h.keep hk
  refine needSome_mk rfl ⟨m, h1.cell 0 (by simp), ?_⟩
  have zero : f n = VS.new → canW w4 (⟨r3, 0, none⟩ : Addr) 3 ∧ ∀ w17 : World, w17 = setCells w4 (⟨r3, 0, none⟩ : Addr) 0 [.int .i64 (-1), .int .i64 (-1), strV []] →
      ∃ n18 : Int, ∃ n19 : Int, ∃ t20 : List UInt8, rowAt w17 (⟨r3, 0, none⟩ : Addr) 0 [.int .i64 n18, .int .i64 n19, strV t20] ∧
      (Ending.returned (Value.agg ⟨[.int .i64 n18, .int .i64 n19, strV t20]⟩) = .returned (.agg ⟨(f n).cells⟩) ∧ Keep w w17) := by
    intro hz
    obtain ⟨a1, a2⟩ := ho.setAll (n := 3) (cs := [.int .i64 (-1), .int .i64 (-1), strV []]) rfl rfl
    refine ⟨a1, fun w17 hw => ?_⟩
    obtain ⟨b1, b2, _⟩ := a2 w17 hw
    refine ⟨_, _, _, b1.row, by rw [hz]; rfl, hk.step (by omega) b2⟩
  rcases h2 with ⟨rfl, hz⟩ | ⟨b, al, rfl, g1, g2, g3, g4⟩
  · refine ⟨#[], rfl, none, rfl, BIf_mk (fun h => by cases h) (fun _ => zero (hz n))⟩
  · obtain ⟨es, m1, m2⟩ := g3.get
    refine ⟨es, m1, (lookL al n).map (fun r => some ⟨r, 0, none⟩), (m2 n).trans (by cases lookL al n <;> rfl), ?_⟩
    rcases g4 n with ⟨q1, q2⟩ | ⟨rb, q1, q2, q3, q4, q5⟩
    · rw [q1]
      exact BIf_mk (fun h => by cases h) (fun _ => zero q2)
    · rw [q1]
      refine BIf_mk (fun _ => needSome_mk rfl ⟨_, _, _, q5.row, ?_⟩) (fun h => by cases h)
      obtain ⟨a1, a2⟩ := ho.setAll (n := 3) (cs := (f n).cells) rfl rfl
      refine ⟨a1, fun w13 hw => ?_⟩
      obtain ⟨b1, b2, _⟩ := a2 w13 hw
      exact ⟨_, _, _, b1.row, rfl, hk.step (by omega) b2⟩

theorem keep_spec (r : Nat) (F : Nat → Prop) (f : Int → VS) (n : Int) (v : VS) (w : World) (h : VoterAt w r F f) :
    Calls Tryd.prog fn_vote_Voter_keep ⟨[.pointer (some ⟨r, 0, none⟩), .int .i64 n, .agg ⟨v.cells⟩]⟩ w fun e w' => e = .returned (.tuple #[]) ∧ ∃ F', VoterAt w' r F' (upd f n v) ∧ Foot F F' w w' := by
  refine vote_Voter_keep_ok _ _ _ _ _ ?_
  unfold vote_Voter_keep
  refine newS_mk (fun r6 w7 hr6 hb hk hs => ?_)
  have ho := ObjAt.new' hb
  obtain ⟨h0, m, h1, h2⟩ := h.keep hk
  have hrlt : r < w.heap.size := by obtain ⟨_, m, h1, _⟩ := h; exact h1.lt
  refine needSome_mk rfl ⟨m, h1.cell 0 (by simp), ?_⟩
  rcases h2 with ⟨rfl, hz⟩ | ⟨b, al, rfl, g1, g2, g3, g4⟩
  · refine BIf_mk (fun _ => newS_mk (fun r10 w11 hr10 hb10 hk11 hs11 => ?_)) (fun h => by cases h)
    obtain ⟨a1, a2⟩ := (h1.keep hk11).setOne 0 (by simp) (.map (some r10))
    refine needSome_mk rfl ⟨a1, fun w13 hw => ?_⟩
    obtain ⟨b1, b2, b3⟩ := a2 w13 hw
    have hm : MapAt KP w13 r10 [] := MapAt.ext (MapAt.new hb10) b2 (by omega)
    obtain ⟨es, ck, es', ck', m1, m2, m3⟩ := hm.put n r6
    refine needSome_mk rfl ⟨_, b1.cell 0 (by simp), r10, es, ck, es', ck', rfl, m1, m2, fun w21 hw => ?_⟩
    obtain ⟨c1, c2, c3⟩ := m3 w21 hw
    refine ⟨rfl, fun k => F k ∨ w.heap.size ≤ k, ⟨.inl h0, some r10, b1.ext c2 (by omega), .inr ⟨r10, _, rfl, .inr (by omega), by omega, c1, fun k => ?_⟩⟩, ?_, fun k hk => hk⟩
    · rw [look_put]
      by_cases hk2 : k = n
      · subst hk2
        refine .inr ⟨r6, by rw [if_pos rfl], .inr (by omega), by omega, by omega, ?_⟩
        rw [upd, if_pos rfl]
        exact ((ho.keep hk11).ext b2 (by omega)).ext c2 (by omega)
      · refine .inl ⟨by rw [if_neg hk2]; rfl, by rw [upd, if_neg hk2]; exact hz k⟩
    · refine Ext.trans (M1 := F) (M2 := fun k => k = r10) (Ext.trans (M1 := none0) (M2 := fun k => k = r) (hk.trans hk11) b2 (fun _ h => h.elim) (fun k hk => .inl (by rw [hk]; exact h0))) c2 (fun _ h => h) (fun k hk => .inr (by omega))
  · refine BIf_mk (fun h => by cases h) (fun _ => ?_)
    have hblt : b < w7.heap.size := g3.lt
    have hb7 : b < w.heap.size := by
      obtain ⟨_, m, h1', h2'⟩ := h
      have e1 := (h1'.keep hk).cell 0 (by simp)
      have e2 := h1.cell 0 (by simp)
      rw [e1] at e2
      simp only [List.getElem_cons_zero, Option.some.injEq, Value.map.injEq] at e2
      rcases h2' with ⟨rfl, _⟩ | ⟨b', al', rfl, _, _, g3', _⟩
      · cases e2
      · have : b' = b := by simpa using e2
        rw [← this]; exact g3'.lt
    obtain ⟨es, ck, es', ck', m1, m2, m3⟩ := g3.put n r6
    refine needSome_mk rfl ⟨_, h1.cell 0 (by simp), b, es, ck, es', ck', rfl, m1, m2, fun w21 hw => ?_⟩
    obtain ⟨c1, c2, c3⟩ := m3 w21 hw
    refine ⟨rfl, fun k => F k ∨ w.heap.size ≤ k, ⟨.inl h0, some b, h1.ext c2 (fun h => g2 h.symm), .inr ⟨b, _, rfl, .inl g1, g2, c1, fun k => ?_⟩⟩, ?_, fun k hk => hk⟩
    · rw [look_put]
      by_cases hk2 : k = n
      · subst hk2
        refine .inr ⟨r6, by rw [if_pos rfl], .inr (by omega), by omega, by omega, ?_⟩
        rw [upd, if_pos rfl]
        exact ho.ext c2 (by omega)
      · rw [if_neg hk2, upd, if_neg hk2]
        refine (g4 k).imp (fun h => h) ?_
        rintro ⟨rb, q1, q2, q3, q4, q5⟩
        exact ⟨rb, q1, .inl q2, q3, q4, q5.ext c2 q4⟩
    · exact Ext.trans (M1 := none0) (M2 := fun k => k = b) hk c2 (fun _ h => h.elim) (fun k hk => .inl (by rw [hk]; exact g1))

theorem Foot.mk' {F F' : Nat → Prop} {a b c : World} (h1 : Keep a b) (h2 : Foot F F' b c) : Foot F F' a c := Keep.foot h1 h2

theorem Prepare_spec0 (r : Nat) (F : Nat → Prop) (f : Int → VS) (n ballot : Int) (w : World) (h : VoterAt w r F f) (hF : ∀ k, F k → k < w.heap.size) :
    Calls Tryd.prog fn_vote_Voter_Prepare ⟨[.pointer (some ⟨r, 0, none⟩), .int .i64 n, .int .i64 ballot]⟩ w fun e w' => e = .returned (.agg ⟨[.bool (decide ((f n).p < ballot)), .int .i64 (f n).b, strV (f n).t]⟩) ∧
      ∃ F', VoterAt w' r F' (if (f n).p < ballot then upd f n ⟨ballot, (f n).b, (f n).t⟩ else f) ∧ Foot F F' w w' := by
  refine vote_Voter_Prepare_ok _ _ _ ?_
  unfold vote_Voter_Prepare
  refine newS_mk (fun r4 w5 hr4 hb4 k5 hs5 => ?_)
  refine (look_spec r F f n w5 (h.keep k5)).mono ?_
  rintro e w7 ⟨rfl, k7'⟩
  have k7 := k5.trans k7'
  refine ⟨_, _, _, rfl, var_mk rfl rfl (fun r11 w13 hr11 o13 k13' hs13 => ⟨_, o13.cell 0 (by simp), ?_⟩)⟩
  have k13 := k7.trans k13'
  have o4 := ObjAt.keep (ObjAt.new' hb4) (k7'.trans k13')
  have hs7 := k7'.size
  have hs5 := k5.size
  refine BIf_dec (fun hy => ?_) (fun hy => ?_)
  · have hy : (f n).p < ballot := hy
    obtain ⟨a1, a2⟩ := o13.setOne 0 (by simp) (.int .i64 ballot)
    refine ⟨a1, fun w15 hw => ?_⟩
    obtain ⟨b1, b2, b3⟩ := a2 w15 hw
    have k15 : Keep w w15 := k13.ext b2 (fun k hk => by omega)
    refine ⟨_, _, _, b1.row, ?_⟩
    refine (keep_spec r F f n ⟨ballot, (f n).b, (f n).t⟩ w15 (h.keep k15)).mono ?_
    rintro e w20 ⟨rfl, F', hv, hf⟩
    have o20 := b1.ext hf.1 (fun hh => by have := hF _ hh; omega)
    have o420 := (o4.ext b2 (by omega)).ext hf.1 (fun hh => by have := hF _ hh; omega)
    refine ⟨rfl, _, o20.cell 1 (by simp), _, o20.cell 2 (by simp), ?_⟩
    obtain ⟨c1, c2⟩ := o420.setAll (n := 3) (cs := [.bool (decide ((f n).p < ballot)), .int .i64 (f n).b, strV (f n).t]) rfl rfl
    refine ⟨c1, fun w23 hw => ?_⟩
    obtain ⟨d1, d2, d3⟩ := c2 w23 hw
    refine ⟨_, _, _, d1.row, rfl, F', ?_, ?_⟩
    · rw [if_pos hy]
      refine hv.ext d2 (fun k hk hh => ?_)
      rcases hf.2 k hk with h1 | h1
      · have := hF k h1; omega
      · have := k15.size; have := b3; omega
    · have hf' := Keep.foot k15 hf
      refine ⟨hf'.1.trans d2 (fun _ h => h) (fun k hk => .inr (by omega)), hf'.2⟩
  · have hy : ¬ (f n).p < ballot := hy
    refine ⟨_, o13.cell 1 (by simp), _, o13.cell 2 (by simp), ?_⟩
    obtain ⟨c1, c2⟩ := o4.setAll (n := 3) (cs := [.bool (decide ((f n).p < ballot)), .int .i64 (f n).b, strV (f n).t]) rfl rfl
    refine ⟨c1, fun w29 hw => ?_⟩
    obtain ⟨d1, d2, d3⟩ := c2 w29 hw
    have k29 : Keep w w29 := k13.ext d2 (fun k hk => by omega)
    refine ⟨_, _, _, d1.row, rfl, F, ?_, Keep.foot k29 (Foot.refl _ _)⟩
    rw [if_neg hy]
    exact h.keep k29

theorem VoterAt.bound {w : World} {r : Nat} {F : Nat → Prop} {f : Int → VS} (h : VoterAt w r F f) : VoterAt w r (fun k => F k ∧ k < w.heap.size) f := by
  obtain ⟨g0, m, g1, g2⟩ := h
  refine ⟨⟨g0, g1.lt⟩, m, g1, g2.imp (fun h => h) ?_⟩
  rintro ⟨b, al, rfl, q1, q2, q3, q4⟩
  refine ⟨b, al, rfl, ⟨q1, q3.lt⟩, q2, q3, fun n => (q4 n).imp (fun h => h) ?_⟩
  rintro ⟨rb, p1, p2, p3, p4, p5⟩
  exact ⟨rb, p1, ⟨p2, p5.lt⟩, p3, p4, p5⟩
theorem Foot.wide {F G F' : Nat → Prop} {a b : World} (h : Foot F F' a b) (hg : ∀ k, F k → G k) : Foot G F' a b := ⟨h.1.mono hg, fun k hk => (h.2 k hk).imp (hg k) (fun h => h)⟩
theorem Prepare_spec (r : Nat) (F : Nat → Prop) (f : Int → VS) (n ballot : Int) (w : World) (h : VoterAt w r F f) :
    Calls Tryd.prog fn_vote_Voter_Prepare ⟨[.pointer (some ⟨r, 0, none⟩), .int .i64 n, .int .i64 ballot]⟩ w fun e w' => e = .returned (.agg ⟨[.bool (decide ((f n).p < ballot)), .int .i64 (f n).b, strV (f n).t]⟩) ∧
      ∃ F', VoterAt w' r F' (if (f n).p < ballot then upd f n ⟨ballot, (f n).b, (f n).t⟩ else f) ∧ Foot F F' w w' := by
  refine (Prepare_spec0 r _ f n ballot w h.bound (fun k hk => hk.2)).mono ?_
  rintro e w' ⟨rfl, F', h1, h2⟩
  exact ⟨rfl, F', h1, h2.wide (fun k hk => hk.1)⟩

theorem Accept_spec (r : Nat) (F : Nat → Prop) (f : Int → VS) (n ballot : Int) (t : List UInt8) (w : World) (h : VoterAt w r F f) :
    Calls Tryd.prog fn_vote_Voter_Accept ⟨[.pointer (some ⟨r, 0, none⟩), .int .i64 n, .int .i64 ballot, strV t]⟩ w fun e w' => e = .returned (.bool (decide (0 ≤ ballot ∧ (f n).p ≤ ballot))) ∧
      ∃ F', VoterAt w' r F' (if 0 ≤ ballot ∧ (f n).p ≤ ballot then upd f n ⟨ballot, ballot, t⟩ else f) ∧ Foot F F' w w' := by
  refine vote_Voter_Accept_ok _ _ _ _ ?_
  unfold vote_Voter_Accept
  refine (look_spec r F f n w h).mono ?_
  rintro e w6 ⟨rfl, k6⟩
  refine ⟨_, _, _, rfl, var_mk rfl rfl (fun r10 w12 hr10 o12 k12' hs12 => ?_)⟩
  have k12 := k6.trans k12'
  refine BIf_dec (fun h1 => ?_) (fun h1 => ⟨_, o12.cell 0 (by simp), BIf_dec (fun h2 => ?_) (fun h2 => ?_)⟩)
  · refine ⟨by rw [decide_eq_false (by omega)], F, ?_, Keep.foot k12 (Foot.refl _ _)⟩
    rw [if_neg (by omega)]; exact h.keep k12
  · have h2 : ballot < (f n).p := h2
    refine ⟨by rw [decide_eq_false (by omega)], F, ?_, Keep.foot k12 (Foot.refl _ _)⟩
    rw [if_neg (by omega)]; exact h.keep k12
  · have h2 : ¬ ballot < (f n).p := h2
    refine (keep_spec r F f n ⟨ballot, ballot, t⟩ w12 (h.keep k12)).mono ?_
    rintro e w15 ⟨rfl, F', hv, hf⟩
    refine ⟨rfl, by rw [decide_eq_true (show 0 ≤ ballot ∧ (f n).p ≤ ballot by omega)], F', ?_, Keep.foot k12 hf⟩
    rw [if_pos (by omega)]; exact hv

theorem Promised_spec (r : Nat) (F : Nat → Prop) (f : Int → VS) (n : Int) (w : World) (h : VoterAt w r F f) :
    Calls Tryd.prog fn_vote_Voter_Promised ⟨[.pointer (some ⟨r, 0, none⟩), .int .i64 n]⟩ w fun e w' => e = .returned (.int .i64 (f n).p) ∧ Keep w w' := by
  refine vote_Voter_Promised_ok _ _ ?_
  refine (look_spec r F f n w h).mono ?_
  rintro e w6 ⟨rfl, k6⟩
  exact ⟨_, _, _, rfl, rfl, k6⟩

theorem alive11_spec (w : World) : Calls Tryd.prog fn_tidewaterlaw11_alive ⟨[]⟩ w fun e w' => e = .returned (.bool true) ∧ Keep w w' := by
  refine tidewaterlaw11_alive_ok ?_
  unfold tidewaterlaw11_alive
  refine newS_mk (fun r w2 hr hb k2 hs => ?_)
  have h2 := VoterAt.new hb
  have m0 : ∀ k, k = r → w.heap.size ≤ k := fun k hk => by omega
  refine (Prepare_spec r _ _ 1 5 w2 h2).mono ?_
  rintro e w4 ⟨rfl, F4, h4, f4⟩
  obtain ⟨k4, o4⟩ := f4.new k2 m0
  rw [if_pos (by decide)] at h4
  refine ⟨_, _, _, rfl, BIf_dec (fun _ => ?_) (fun h => absurd (by decide) h)⟩
  refine (Prepare_spec r F4 _ 1 4 w4 h4).mono ?_
  rintro e w9 ⟨rfl, F9, h9, f9⟩
  obtain ⟨k9, o9⟩ := f9.new k4 o4
  rw [if_neg (by decide)] at h9
  refine ⟨_, _, _, rfl, BIf_mk (fun _ => ?_) (fun h => absurd h (by decide))⟩
  refine (Accept_spec r F9 _ 1 5 [97] w9 h9).mono ?_
  rintro e w14 ⟨rfl, F14, h14, f14⟩
  obtain ⟨k14, o14⟩ := f14.new k9 o9
  rw [if_pos (by decide)] at h14
  refine ⟨_, rfl, BIf_dec (fun _ => ?_) (fun h => absurd (by decide) h)⟩
  refine (Promised_spec r F14 _ 1 w14 h14).mono ?_
  rintro e w17 ⟨rfl, k17⟩
  exact ⟨_, rfl, rfl, k14.trans k17⟩
end Go.D
