/-
  WHAT IS PROVED: contracts of functions, and the plain law, for this proof. No further conditions.
-/
import Derived.Test.YtkcobfichmjbdaaDoorVote6
set_option linter.unusedVariables false
set_option linter.unusedSimpArgs false
namespace Go.D
open Go Go.Proofs

abbrev rdMove : Rd (Int × Int × Bool × Bool) := Rd.pair (Rd.int .i64) (Rd.pair (Rd.int .i64) (Rd.pair Rd.bool Rd.bool))
theorem rdMove_get {w : World} {s : Slc} {xs : List (Int × Int × Bool × Bool)} (h : rowsR rdMove w s xs) {i : Nat} (hi : i < xs.length) :
    ∃ a, s.p = some a ∧ rowAt w (a.add (i * 4)) 0 [.int .i64 xs[i].1, .int .i64 xs[i].2.1, .bool xs[i].2.2.1, .bool xs[i].2.2.2] := by
  obtain ⟨a, cs, h1, ⟨c1, c2, rfl, h2, c3, c4, rfl, h3, c5, c6, rfl, h4, h5⟩, h6⟩ := h.2.2.2 i hi
  obtain ⟨rfl, _⟩ := h2
  obtain ⟨rfl, _⟩ := h3
  obtain rfl := h4
  obtain rfl := h5
  exact ⟨a, h1, h6⟩

/-- A play: memory, votes, and what is decided. -/
structure Play (X : Nat → List Value → Prop) (w0 w : World) (n r16 r19 : Nat) (vb : Nat → Nat) (f : Nat → VS) (S : Nat → PS) (k : Nat) (dec : List UInt8) : Prop where
  q : ∃ lab P B, MQ X w0 w 4 r16 r19 vb lab f P B S
  x : ∃ txt acc, PX n f S txt acc ∧ (dec = [] ∨ ∃ b, 0 ≤ b ∧ DecAt n txt acc b dec)
  c : ∀ i, i < 4 → (S i).yes ≤ k ∧ (S i).done ≤ k ∧ (S i).b ≤ 4 * k + 4
theorem Play.keep {X : Nat → List Value → Prop} {w0 w w' : World} {n r16 r19 : Nat} {vb : Nat → Nat} {f : Nat → VS} {S : Nat → PS} {k : Nat} {dec : List UInt8} (h : Play X w0 w n r16 r19 vb f S k dec) (hk : Keep w w') : Play X w0 w' n r16 r19 vb f S k dec := by
  obtain ⟨lab, P, B, hq⟩ := h.q
  exact ⟨⟨lab, P, B, hq.keep hk⟩, h.x, h.c⟩

theorem Play.mono {X : Nat → List Value → Prop} {w0 w : World} {n r16 r19 : Nat} {vb : Nat → Nat} {f : Nat → VS} {S : Nat → PS} {k k' : Nat} {dec : List UInt8} (h : Play X w0 w n r16 r19 vb f S k dec) (hk : k ≤ k') : Play X w0 w n r16 r19 vb f S k' dec :=
  ⟨h.q, h.x, fun i hi => by have := h.c i hi; omega⟩
theorem Play.beside {X : Nat → List Value → Prop} {w0 w w' : World} {n r16 r19 : Nat} {vb : Nat → Nat} {f : Nat → VS} {S : Nat → PS} {k : Nat} {dec : List UInt8} (h : Play X w0 w n r16 r19 vb f S k dec) (hk : Keep w w') {r0 : Nat} {cs0 : List Value} (hr : r0 = w.heap.size) (ho : ObjAt w' r0 cs0) :
    Play (fun r cs => r = r0 ∧ cs = cs0) w0 w' n r16 r19 vb f S k dec := by
  obtain ⟨lab, P, B, hq⟩ := h.q
  obtain ⟨lab', hq'⟩ := hq.beside hk hr ho
  exact ⟨⟨lab', P, B, hq'⟩, h.x, h.c⟩
theorem Play.obj {w0 w : World} {n r16 r19 : Nat} {vb : Nat → Nat} {f : Nat → VS} {S : Nat → PS} {k r0 : Nat} {dec : List UInt8} {cs0 : List Value} (h : Play (fun r cs => r = r0 ∧ cs = cs0) w0 w n r16 r19 vb f S k dec) : ObjAt w r0 cs0 := by
  obtain ⟨lab, P, B, hq⟩ := h.q
  exact (hq.x r0 cs0 ⟨rfl, rfl⟩).1
theorem Play.kp {X : Nat → List Value → Prop} {w0 w : World} {n r16 r19 : Nat} {vb : Nat → Nat} {f : Nat → VS} {S : Nat → PS} {k : Nat} {dec : List UInt8} (h : Play X w0 w n r16 r19 vb f S k dec) : Keep w0 w := by
  obtain ⟨lab, P, B, hq⟩ := h.q
  exact hq.kp

theorem goodN {i : Nat} (hi : i < 4) : goodT [UInt8.ofNat (97 + i)] := by
  refine ⟨_, rfl, ?_⟩
  rw [UInt8.toNat_ofNat']; omega

/-- The side begins anew. -/
theorem Play.begins {X : Nat → List Value → Prop} {w0 w : World} {n r16 r19 : Nat} {vb : Nat → Nat} {f : Nat → VS} {S : Nat → PS} {k : Nat} {dec : List UInt8} (h : Play X w0 w n r16 r19 vb f S k dec) (hn : 1 ≤ n ∧ n ≤ 5) (hk : k ≤ 1000) (i : Nat) (hi : i < 4) :
    Calls Tryd.prog fn_tidewaterlaw11_side_begin ⟨[.pointer (some (Addr.add ⟨r19, 0, none⟩ (i * 2))), .int .i64 (n : Int), .int .i64 (i : Int)]⟩ w fun e w' => e = .returned (.bool true) ∧ ∃ S', Play X w0 w' n r16 r19 vb f S' (k + 1) dec := by
  obtain ⟨lab, P, B, hq⟩ := h.q
  obtain ⟨txt, acc, hx, hd⟩ := h.x
  obtain ⟨e1, _⟩ := hq.p i hi
  have hb := (hx.p i hi).b
  have hc := h.c i hi
  refine (begin_spec r19 P B i n w hq.o19 hi hn (by rw [e1]; omega)).mono ?_
  rintro e w' ⟨rfl, q, rp, ra, ho, hp, hnew, he⟩
  refine ⟨rfl, updN S i ⟨n, B i + 4, [UInt8.ofNat (97 + i)], -1, [], [], 0, 0⟩, ?_, ⟨txt, acc, ?_, hd⟩, fun j hj => ?_⟩
  · obtain ⟨lab', h'⟩ := hq.begins (c' := 4) ho hp hnew he (fun j hj => .inr hj)
    exact ⟨lab', _, _, h'⟩
  · rw [e1]; exact hx.begins hn.1 i hi _ (goodN hi)
  · by_cases e : j = i
    · subst e; rw [updN_same]
      refine ⟨Nat.zero_le _, Nat.zero_le _, ?_⟩
      show B j + 4 ≤ _
      rw [e1]; omega
    · rw [updN_ne _ _ e]
      have := h.c j hj
      omega

theorem promise_n' (s : PS) (i : Int) (y : Bool) (b : Int) (t : List UInt8) : (s.promise i y b t).n = s.n ∧ (s.promise i y b t).yes ≤ s.yes + 1 ∧ (s.promise i y b t).done = s.done ∧ (s.promise i y b t).b = s.b := by
  rw [PS.promise]
  split
  · split
    · split <;> simp
    · simp
  · simp
theorem accepted_n' (s : PS) (i : Int) (y : Bool) : (s.accepted i y).n = s.n ∧ (s.accepted i y).yes = s.yes ∧ (s.accepted i y).done ≤ s.done + 1 ∧ (s.accepted i y).b = s.b := by
  rw [PS.accepted]
  split
  · refine ⟨rfl, rfl, ?_, rfl⟩
    dsimp only
    split <;> omega
  · simp

/-- The side asks for a promise. -/
theorem Play.prepare {X : Nat → List Value → Prop} {w0 w : World} {n r16 r19 : Nat} {vb : Nat → Nat} {f : Nat → VS} {S : Nat → PS} {k : Nat} {dec : List UInt8} (h : Play X w0 w n r16 r19 vb f S k dec) (hn : n ≤ 5) (hk : k ≤ 1000) (i j : Nat) (hi : i < 4) (hj : j < n) :
    ∃ r : Nat, w.cell? ⟨r19, i * 2, none⟩ = some (.pointer (some ⟨r, 0, none⟩)) ∧ w.cell? ⟨r16, j, none⟩ = some (.pointer (some ⟨vb j, 0, none⟩)) ∧ w.cell? ⟨r19, i * 2 + 1, none⟩ = some (.int .i64 (S i).b) ∧
    Calls Tryd.prog fn_vote_Voter_Prepare ⟨[.pointer (some ⟨vb j, 0, none⟩), .int .i64 1, .int .i64 (S i).b]⟩ w fun e w2 => ∃ (y : Bool) (b : Int) (t : List UInt8), e = .returned (.agg ⟨[.bool y, .int .i64 b, strV t]⟩) ∧ w2.cell? ⟨r19, i * 2, none⟩ = some (.pointer (some ⟨r, 0, none⟩)) ∧
      Calls Tryd.prog fn_vote_Proposer_Promise ⟨[.pointer (some ⟨r, 0, none⟩), .int .i64 (j : Int), .agg ⟨[.bool y, .int .i64 b, strV t]⟩]⟩ w2 fun e w3 => ∃ z : Bool, e = .returned (.bool z) ∧ ∃ f' S', Play X w0 w3 n r16 r19 vb f' S' (k + 1) dec := by
  obtain ⟨lab, P, B, hq⟩ := h.q
  obtain ⟨txt, acc, hx, hd⟩ := h.x
  obtain ⟨e1, r, rp, ra, hP, hp, hM⟩ := hq.p i hi
  obtain ⟨F, g, hv, hg, hF⟩ := hq.v j (by omega)
  obtain ⟨g1, g2⟩ := side_get hq.o19 hi
  have hc := h.c i hi
  refine ⟨r, by rw [g1, hP]; rfl, vote_get hq.o16 (by omega), by rw [g2, e1], ?_⟩
  refine (Prepare_spec (vb j) F g 1 (S i).b w hv).mono ?_
  rintro e w2 ⟨rfl, F', hv', ft⟩
  rw [hg] at hv' ⊢
  obtain ⟨lab2, hq2⟩ := hq.voter (by omega) hF hv' ft
  have ef : (if (f j).p < (S i).b then upd g 1 ⟨(S i).b, (f j).b, (f j).t⟩ else g) 1 = (if (f j).p < (S i).b then (⟨(S i).b, (f j).b, (f j).t⟩ : VS) else f j) := by
    split
    · exact if_pos rfl
    · exact hg
  rw [ef] at hq2
  obtain ⟨e1', r', rp', ra', hP', hp', hM'⟩ := hq2.p i hi
  rw [hP] at hP'
  obtain rfl := Option.some.inj hP'
  obtain ⟨g1', g2'⟩ := side_get hq2.o19 hi
  refine ⟨_, _, _, rfl, by rw [g1', hP]; rfl, ?_⟩
  refine (Promise_spec r rp' ra' (S i) j (decide ((f j).p < (S i).b)) (f j).b (f j).t w2 hp' (by omega)).mono ?_
  rintro e w3 ⟨rfl, hp3, he3⟩
  obtain ⟨txt', hx', hmore⟩ := hx.prepare i j hi hj
  have hcc := promise_n' (S i) j (decide ((f j).p < (S i).b)) (f j).b (f j).t
  have hq3 := hq2.prop hi hP hM' hp3 he3 hcc.2.2.2 hi
  have efn : (updN f j (if (f j).p < (S i).b then (⟨(S i).b, (f j).b, (f j).t⟩ : VS) else f j)) = (if (f j).p < (S i).b then updN f j ⟨(S i).b, (f j).b, (f j).t⟩ else f) := by
    split
    · rfl
    · funext x
      by_cases e : x = j
      · subst e; rw [updN_same]
      · rw [updN_ne _ _ e]
  rw [efn] at hq3
  refine ⟨_, rfl, _, _, ⟨_, _, _, hq3⟩, ⟨txt', acc, hx', ?_⟩, fun x hx2 => ?_⟩
  · rcases hd with hd | ⟨b, hb, hd⟩
    · exact .inl hd
    · exact .inr ⟨b, hb, hd.more hmore⟩
  · by_cases e : x = i
    · subst e; rw [updN_same, hcc.2.2.2]
      have := hcc.2.1; have := hcc.2.2.1; omega
    · rw [updN_ne _ _ e]
      have := h.c x hx2
      omega

/-- The side asks to accept its text. -/
theorem Play.accept {X : Nat → List Value → Prop} {w0 w : World} {n r16 r19 : Nat} {vb : Nat → Nat} {f : Nat → VS} {S : Nat → PS} {k : Nat} {dec : List UInt8} (h : Play X w0 w n r16 r19 vb f S k dec) (hn : n ≤ 5) (hk : k ≤ 1000) (i j : Nat) (hi : i < 4) (hj : j < n) (hm : (S i).most (S i).yes) :
    ∃ r : Nat, w.cell? ⟨r19, i * 2, none⟩ = some (.pointer (some ⟨r, 0, none⟩)) ∧ w.cell? ⟨r16, j, none⟩ = some (.pointer (some ⟨vb j, 0, none⟩)) ∧ w.cell? ⟨r19, i * 2 + 1, none⟩ = some (.int .i64 (S i).b) ∧
    Calls Tryd.prog fn_vote_Voter_Accept ⟨[.pointer (some ⟨vb j, 0, none⟩), .int .i64 1, .int .i64 (S i).b, strV (S i).t]⟩ w fun e w2 => ∃ y : Bool, e = .returned (.bool y) ∧ w2.cell? ⟨r19, i * 2, none⟩ = some (.pointer (some ⟨r, 0, none⟩)) ∧
      Calls Tryd.prog fn_vote_Proposer_Accepted ⟨[.pointer (some ⟨r, 0, none⟩), .int .i64 (j : Int), .bool y]⟩ w2 fun e w3 => ∃ z : Bool, e = .returned (.bool z) ∧ ∃ f' S', Play X w0 w3 n r16 r19 vb f' S' (k + 1) dec := by
  obtain ⟨lab, P, B, hq⟩ := h.q
  obtain ⟨txt, acc, hx, hd⟩ := h.x
  obtain ⟨e1, r, rp, ra, hP, hp, hM⟩ := hq.p i hi
  obtain ⟨F, g, hv, hg, hF⟩ := hq.v j (by omega)
  obtain ⟨g1, g2⟩ := side_get hq.o19 hi
  have hc := h.c i hi
  refine ⟨r, by rw [g1, hP]; rfl, vote_get hq.o16 (by omega), by rw [g2, e1], ?_⟩
  refine (Accept_spec (vb j) F g 1 (S i).b (S i).t w hv).mono ?_
  rintro e w2 ⟨rfl, F', hv', ft⟩
  rw [hg] at hv' ⊢
  obtain ⟨lab2, hq2⟩ := hq.voter (by omega) hF hv' ft
  have ef : (if 0 ≤ (S i).b ∧ (f j).p ≤ (S i).b then upd g 1 ⟨(S i).b, (S i).b, (S i).t⟩ else g) 1 = (if 0 ≤ (S i).b ∧ (f j).p ≤ (S i).b then (⟨(S i).b, (S i).b, (S i).t⟩ : VS) else f j) := by
    split
    · exact if_pos rfl
    · exact hg
  rw [ef] at hq2
  obtain ⟨e1', r', rp', ra', hP', hp', hM'⟩ := hq2.p i hi
  rw [hP] at hP'
  obtain rfl := Option.some.inj hP'
  obtain ⟨g1', g2'⟩ := side_get hq2.o19 hi
  refine ⟨_, rfl, by rw [g1', hP]; rfl, ?_⟩
  refine (Accepted_spec r rp' ra' (S i) j (decide (0 ≤ (S i).b ∧ (f j).p ≤ (S i).b)) w2 hp' (by omega)).mono ?_
  rintro e w3 ⟨rfl, hp3, he3⟩
  obtain ⟨acc', hx', hmore⟩ := hx.accept i j hi hj hm
  have hcc := accepted_n' (S i) j (decide (0 ≤ (S i).b ∧ (f j).p ≤ (S i).b))
  have hq3 := hq2.prop hi hP hM' hp3 he3 hcc.2.2.2 hi
  have efn : (updN f j (if 0 ≤ (S i).b ∧ (f j).p ≤ (S i).b then (⟨(S i).b, (S i).b, (S i).t⟩ : VS) else f j)) = (if 0 ≤ (S i).b ∧ (f j).p ≤ (S i).b then updN f j ⟨(S i).b, (S i).b, (S i).t⟩ else f) := by
    split
    · rfl
    · funext x
      by_cases e : x = j
      · subst e; rw [updN_same]
      · rw [updN_ne _ _ e]
  rw [efn] at hq3
  refine ⟨_, rfl, _, _, ⟨_, _, _, hq3⟩, ⟨txt, acc', hx', ?_⟩, fun x hx2 => ?_⟩
  · rcases hd with hd | ⟨b, hb, hd⟩
    · exact .inl hd
    · exact .inr ⟨b, hb, hd.more hmore⟩
  · by_cases e : x = i
    · subst e; rw [updN_same, hcc.2.2.2]
      have := hcc.2.1; have := hcc.2.2.1; omega
    · rw [updN_ne _ _ e]
      have := h.c x hx2
      omega

/-- What the side has decided is what was decided. -/
theorem Play.decided {X : Nat → List Value → Prop} {w0 w : World} {n r16 r19 : Nat} {vb : Nat → Nat} {f : Nat → VS} {S : Nat → PS} {k : Nat} {dec : List UInt8} (h : Play X w0 w n r16 r19 vb f S k dec) (hn : 1 ≤ n) (i : Nat) (hi : i < 4) (hd : (S i).most (S i).done) :
    goodT (S i).t ∧ (dec = [] ∨ dec = (S i).t) ∧ Play X w0 w n r16 r19 vb f S k (S i).t := by
  obtain ⟨txt, acc, hx, hdd⟩ := h.x
  obtain ⟨h1, h2, h3⟩ := hx.decided hn i hi hd
  refine ⟨h3, ?_, h.q, ⟨txt, acc, hx, .inr ⟨_, h2, h1⟩⟩, h.c⟩
  rcases hdd with hdd | ⟨b, hb, hdd⟩
  · exact .inl hdd
  · exact .inr (hx.agree hdd h1 hb h2)

/-- The proposer of a side answers. -/
theorem Play.asks {X : Nat → List Value → Prop} {w0 w : World} {n r16 r19 : Nat} {vb : Nat → Nat} {f : Nat → VS} {S : Nat → PS} {k : Nat} {dec : List UInt8} (h : Play X w0 w n r16 r19 vb f S k dec) (hk : k ≤ 1000) (i : Nat) (hi : i < 4) :
    ∃ r : Nat, w.cell? ⟨r19, i * 2, none⟩ = some (.pointer (some ⟨r, 0, none⟩)) ∧
      (Calls Tryd.prog fn_vote_Proposer_Asks ⟨[.pointer (some ⟨r, 0, none⟩)]⟩ w fun e w' => e = .returned (.tuple ⟨[strV (if (S i).most (S i).yes then (S i).t else []), .bool (decide ((S i).most (S i).yes))]⟩) ∧ w' = w) ∧
      (Calls Tryd.prog fn_vote_Proposer_Decided ⟨[.pointer (some ⟨r, 0, none⟩)]⟩ w fun e w' => e = .returned (.tuple ⟨[strV (if (S i).most (S i).done then (S i).t else []), .bool (decide ((S i).most (S i).done))]⟩) ∧ w' = w) := by
  obtain ⟨lab, P, B, hq⟩ := h.q
  obtain ⟨e1, r, rp, ra, hP, hp, hM⟩ := hq.p i hi
  obtain ⟨g1, g2⟩ := side_get hq.o19 hi
  have hc := h.c i hi
  exact ⟨r, by rw [g1, hP]; rfl, Asks_spec r rp ra (S i) w hp (by omega), Decided_spec r rp ra (S i) w hp (by omega)⟩
end Go.D
