/-
  WHAT IS PROVED: contracts of functions, and the plain law, for this proof. No further conditions.
-/
import Derived.Test.YtkcobfichmjbdaaDoorVote3
set_option linter.unusedVariables false
set_option linter.unusedSimpArgs false
namespace Go.D
open Go Go.Proofs

/-- A proposer and its model. -/
structure VInv (s : PS) (m : RfS) : Prop where
  n : m.n = s.n
  pos : 1 ≤ s.n
  ask : m.asks = ⟨s.yes, s.g, s.t⟩
  pr : ∀ i, s.has i → (lookL s.pr i = none ↔ ∀ b ∈ firstsA m.n m.ans, b.f ≠ i)
  ac : ∀ i, s.has i → (lookL s.ac i = none ↔ ∀ b ∈ firstsA m.n m.acc, b.f ≠ i)
  done : m.done = s.done
  most : s.done = 0 ∨ s.most s.yes

theorem oldA_false {n : Int} {out : List Ans} {a : Ans} : oldA n out a = false ↔ (0 ≤ a.f ∧ a.f < n) ∧ ∀ b ∈ out, b.f ≠ a.f := by
  simp only [oldA, Bool.or_eq_false_iff, decide_eq_false_iff_not, List.any_eq_false, decide_eq_true_eq, Int.not_lt, Int.not_le, and_assoc]

theorem VInv.promise {s : PS} {m : RfS} (h : VInv s m) (a : Ans) : VInv (s.promise a.f a.y a.b a.t) { m with ans := m.ans ++ [a] } := by
  have hn := h.n
  by_cases hc : s.has a.f ∧ lookL s.pr a.f = none
  · have hold : oldA m.n (firstsA m.n m.ans) a = false := by
      rw [oldA_false]
      exact ⟨by rw [hn]; exact hc.1, (h.pr _ hc.1).1 hc.2⟩
    have hf : firstsA m.n (m.ans ++ [a]) = firstsA m.n m.ans ++ [a] := by rw [firstsA_snoc, firstA, hold, if_neg (by simp)]
    have hask : ({ m with ans := m.ans ++ [a] } : RfS).asks = askA s.n m.asks a := by
      show askL m.n m.t (firstsA m.n (m.ans ++ [a])) = _
      rw [hf, askL_snoc, ← hn]; rfl
    have prN : ∀ (al : List (Int × Bool)), al = putL s.pr a.f a.y → ∀ i, s.has i → (lookL al i = none ↔ ∀ b ∈ firstsA m.n (m.ans ++ [a]), b.f ≠ i) := by
      rintro al rfl i hi
      rw [look_put, hf]
      by_cases hia : i = a.f
      · subst hia
        rw [if_pos rfl]
        exact ⟨fun h => (by cases h), fun h => absurd rfl (h a (by simp))⟩
      · rw [if_neg hia, h.pr i hi]
        refine ⟨fun h b hb => ?_, fun h b hb => h b (by simp [hb])⟩
        rcases List.mem_append.1 hb with hb | hb
        · exact h b hb
        · rw [List.mem_singleton.1 hb]; exact fun e => hia e.symm
    rw [PS.promise, if_pos hc]
    rw [h.ask, askA] at hask
    dsimp only at hask
    by_cases hy : a.y = true ∧ ¬ s.most s.yes
    · rw [if_pos hy]
      rw [if_neg (by rintro (h1 | h1); · rw [hy.1] at h1; cases h1
                     · exact hy.2 h1)] at hask
      have mm : ∀ k, s.done = 0 ∨ s.n < 2 * ((s.yes + k : Nat) : Int) := fun k => h.most.imp (fun h => h) (fun h => by have : s.n < 2 * (s.yes : Int) := h; omega)
      by_cases hg : s.g < a.b
      · rw [if_pos hg] at hask ⊢
        exact ⟨hn, h.pos, hask, prN _ rfl, h.ac, h.done, mm 1⟩
      · rw [if_neg hg] at hask ⊢
        exact ⟨hn, h.pos, hask, prN _ rfl, h.ac, h.done, mm 1⟩
    · rw [if_neg hy]
      rw [if_pos (by
        by_cases h1 : a.y = true
        · right
          by_cases h2 : s.most s.yes
          · exact h2
          · exact absurd ⟨h1, h2⟩ hy
        · left; simpa using h1)] at hask
      exact ⟨hn, h.pos, hask, prN _ rfl, h.ac, h.done, h.most⟩
  · rw [PS.promise, if_neg hc]
    have hold : oldA m.n (firstsA m.n m.ans) a = true := by
      cases ho : oldA m.n (firstsA m.n m.ans) a with
      | true => rfl
      | false =>
        rw [oldA_false] at ho
        have h1 : s.has a.f := by rw [hn] at ho; exact ho.1
        exact absurd ⟨h1, (h.pr _ h1).2 ho.2⟩ hc
    have hf : firstsA m.n (m.ans ++ [a]) = firstsA m.n m.ans := by rw [firstsA_snoc, firstA, if_pos hold]
    refine ⟨hn, h.pos, ?_, fun i hi => ?_, h.ac, h.done, h.most⟩
    · show askL m.n m.t (firstsA m.n (m.ans ++ [a])) = _
      rw [hf]; exact h.ask
    · show _ ↔ ∀ b ∈ firstsA m.n (m.ans ++ [a]), b.f ≠ i
      rw [hf]; exact h.pr i hi

theorem VInv.accept {s : PS} {m : RfS} (h : VInv s m) (i : Int) (y : Bool) : VInv (s.accepted i y) (if m.n < 2 * (m.asks.n : Int) then { m with acc := m.acc ++ [⟨i, y, 0, []⟩] } else m) := by
  have hn := h.n
  have hyes : m.asks.n = s.yes := by rw [h.ask]
  have hcond : (m.n < 2 * (m.asks.n : Int)) ↔ s.most s.yes := by rw [hyes, hn]
  by_cases hm : s.most s.yes
  · rw [if_pos (hcond.2 hm)]
    by_cases hc : s.has i ∧ lookL s.ac i = none
    · rw [PS.accepted, if_pos ⟨hm, hc⟩]
      have hold : oldA m.n (firstsA m.n m.acc) ⟨i, y, 0, []⟩ = false := by
        rw [oldA_false]
        exact ⟨by rw [hn]; exact hc.1, (h.ac _ hc.1).1 hc.2⟩
      have hf : firstsA m.n (m.acc ++ [⟨i, y, 0, []⟩]) = firstsA m.n m.acc ++ [⟨i, y, 0, []⟩] := by rw [firstsA_snoc, firstA, hold, if_neg (by simp)]
      refine ⟨hn, h.pos, h.ask, h.pr, fun j hj => ?_, ?_, .inr hm⟩
      · show lookL (putL s.ac i y) j = none ↔ ∀ b ∈ firstsA m.n (m.acc ++ [⟨i, y, 0, []⟩]), b.f ≠ j
        rw [look_put, hf]
        by_cases hia : j = i
        · subst hia
          rw [if_pos rfl]
          exact ⟨fun h => (by cases h), fun h => absurd rfl (h ⟨j, y, 0, []⟩ (by simp))⟩
        · rw [if_neg hia, h.ac j hj]
          refine ⟨fun h b hb => ?_, fun h b hb => h b (by simp [hb])⟩
          rcases List.mem_append.1 hb with hb | hb
          · exact h b hb
          · rw [List.mem_singleton.1 hb]; exact fun e => hia e.symm
      · show yesL (firstsA m.n (m.acc ++ [⟨i, y, 0, []⟩])) = _
        rw [hf, yesL_snoc]
        have := h.done
        rw [RfS.done] at this
        rw [this]
    · rw [PS.accepted, if_neg (fun hh => hc hh.2)]
      have hold : oldA m.n (firstsA m.n m.acc) ⟨i, y, 0, []⟩ = true := by
        cases ho : oldA m.n (firstsA m.n m.acc) ⟨i, y, 0, []⟩ with
        | true => rfl
        | false =>
          rw [oldA_false] at ho
          have h1 : s.has i := by rw [hn] at ho; exact ho.1
          exact absurd ⟨h1, (h.ac _ h1).2 ho.2⟩ hc
      have hf : firstsA m.n (m.acc ++ [⟨i, y, 0, []⟩]) = firstsA m.n m.acc := by rw [firstsA_snoc, firstA, if_pos hold]
      refine ⟨hn, h.pos, h.ask, h.pr, fun j hj => ?_, ?_, h.most⟩
      · show _ ↔ ∀ b ∈ firstsA m.n (m.acc ++ [⟨i, y, 0, []⟩]), b.f ≠ j
        rw [hf]; exact h.ac j hj
      · show yesL (firstsA m.n (m.acc ++ [⟨i, y, 0, []⟩])) = _
        rw [hf]; exact h.done
  · rw [if_neg (fun h => hm (hcond.1 h)), PS.accepted, if_neg (fun hh => hm hh.1)]
    exact h

theorem promise_n (s : PS) (i : Int) (y : Bool) (b : Int) (t : List UInt8) : (s.promise i y b t).n = s.n ∧ (s.promise i y b t).yes ≤ s.yes + 1 ∧ (s.promise i y b t).done = s.done := by
  rw [PS.promise]
  split
  · split
    · split <;> simp
    · simp
  · simp
theorem accepted_n (s : PS) (i : Int) (y : Bool) : (s.accepted i y).n = s.n ∧ (s.accepted i y).yes = s.yes ∧ (s.accepted i y).done ≤ s.done + 1 := by
  rw [PS.accepted]
  split
  · refine ⟨rfl, rfl, ?_⟩
    dsimp only
    split <;> omega
  · simp

/-- A proposer and its model in memory. -/
structure BI (w0 w : World) (r rp ra r45 : Nat) (sa sc : Slc) (s : PS) (m : RfS) (k : Nat) : Prop where
  inv : VInv s m
  p : PropAt w r rp ra s
  f : RefAt w r45 sa sc m
  kp : Keep w0 w
  np : ∀ k, PropM r rp ra k → w0.heap.size ≤ k ∧ ¬ RefM r45 sa sc k
  nf : ∀ k, RefM r45 sa sc k → w0.heap.size ≤ k
  c : s.yes ≤ k ∧ s.done ≤ k ∧ m.ans.length ≤ k ∧ m.acc.length ≤ k
theorem BI.keep {w0 w w' : World} {r rp ra r45 : Nat} {sa sc : Slc} {s : PS} {m : RfS} {k : Nat} (h : BI w0 w r rp ra r45 sa sc s m k) (hk : Keep w w') : BI w0 w' r rp ra r45 sa sc s m k :=
  ⟨h.inv, h.p.keep hk, h.f.keep hk, h.kp.trans hk, h.np, h.nf, h.c⟩

abbrev rdHear : Rd (Int × (Bool × Int × List UInt8) × Bool × Bool) := Rd.pair (Rd.int .i64) (Rd.pair (Rd.pair Rd.bool (Rd.pair (Rd.int .i64) Rd.str)) (Rd.pair Rd.bool Rd.bool))
theorem rdHear_get {w : World} {s : Slc} {xs : List (Int × (Bool × Int × List UInt8) × Bool × Bool)} (h : rowsR rdHear w s xs) {i : Nat} (hi : i < xs.length) :
    ∃ a, s.p = some a ∧ rowAt w (a.add (i * 6)) 0 [.int .i64 xs[i].1, .bool xs[i].2.1.1, .int .i64 xs[i].2.1.2.1, strV xs[i].2.1.2.2, .bool xs[i].2.2.1, .bool xs[i].2.2.2] := by
  obtain ⟨a, cs, h1, ⟨c1, c2, rfl, h2, c3, c4, rfl, ⟨c5, c6, rfl, h5, c7, c8, rfl, h7, h8⟩, c9, c10, rfl, h9, h10⟩, h11⟩ := h.2.2.2 i hi
  obtain ⟨rfl, _⟩ := h2
  obtain rfl := h5
  obtain ⟨rfl, _⟩ := h7
  obtain ⟨rfl, _⟩ := h8
  obtain rfl := h9
  obtain rfl := h10
  exact ⟨a, h1, h11⟩

theorem VoteProposes_walk (s3 : Slc) (voters ballot : Int) (xs : List (Int × (Bool × Int × List UInt8) × Bool × Bool)) (w : World) (hx : rowsR rdHear w s3 xs) (A : Nat → Addr) (hE : Errs A w) :
    Calls Tryd.prog fn_tidewaterlaw11_VoteProposes ⟨[.int .i64 voters, .int .i64 ballot, s3.v]⟩ w fun e w' => e = .returned (.bool true) ∧ Keep w w' := by
  have hsl := hx.1
  refine tidewaterlaw11_VoteProposes_ok _ _ _ ?_
  unfold tidewaterlaw11_VoteProposes
  refine (alive11_spec w).mono ?_
  rintro e w5 ⟨rfl, k5⟩
  refine ⟨_, rfl, BIf_mk (fun h => by cases h) (fun _ => BIf_dec (fun _ => ⟨rfl, k5⟩) (fun h40 => ?_))⟩
  refine (New_spec A voters 7 ballot [111, 119, 110] w5 (hE.keep k5)).mono ?_
  rintro e w8 ⟨k8', hres⟩
  have k8 := k5.trans k8'
  rcases hres with ⟨hbad, rfl⟩ | ⟨hv, hb, rfl⟩ | ⟨hv, hb, r, rp, ra, rfl, hp, hnew⟩
  · refine ⟨none, _, rfl, fun _ => False, BIf_dec (fun _ => BIf_mk (fun _ => ?_) (fun h => by cases h)) (fun h1 => BIf_dec (fun _ => BIf_mk (fun _ => ?_) (fun h => by cases h)) (fun h2 => by omega)), fun _ h => h.elim⟩
    all_goals
      refine (Num_spec A 0 (by omega) w8 (hE.keep k8)).mono ?_
      rintro e w13 ⟨rfl, k13⟩
      exact ⟨_, rfl, rfl, k8.trans k13⟩
  · refine ⟨none, _, rfl, fun w2 => w2 = w8, BIf_dec (fun h1 => by omega) (fun h1 => BIf_dec (fun h2 => by omega) (fun h2 => rfl)), ?_⟩
    rintro w18 rfl
    intros
    refine BIf_dec (fun _ => BIf_mk (fun _ => ?_) (fun h => by cases h)) (fun h => absurd hb h)
    refine (Num_spec A 3 (by omega) w18 (hE.keep k8)).mono ?_
    rintro e w34 ⟨rfl, k34⟩
    exact ⟨_, rfl, rfl, k8.trans k34⟩
  · refine ⟨_, _, rfl, fun w2 => w2 = w8, BIf_dec (fun h1 => by omega) (fun h1 => BIf_dec (fun h2 => by omega) (fun h2 => rfl)), ?_⟩
    rintro w18 rfl
    intros
    refine BIf_dec (fun h => by omega) (fun _ => ⟨fun w2 => w2 = w18, ⟨trivial, BIf_mk (fun h => by cases h) (fun _ => BIf_mk (fun h => by cases h) (fun _ => rfl))⟩, ?_⟩)
    rintro w37 rfl
    intros
    refine newS_mk (fun r45 w46 hr45 hb45 k46 hs46 => ?_)
    have hs5 := k5.size
    have hs8 := k8'.size
    have hplt := hp.lt
    have hRM : ∀ k, RefM r45 ⟨none, 0, 0⟩ ⟨none, 0, 0⟩ k → k = r45 := by
      rintro k (h | ⟨a, ha, _⟩ | ⟨a, ha, _⟩)
      · exact h
      · cases ha
      · cases ha
    have b0 : BI w w46 r rp ra r45 ⟨none, 0, 0⟩ ⟨none, 0, 0⟩ ⟨voters, ballot, [111, 119, 110], -1, [], [], 0, 0⟩ ⟨voters, [111, 119, 110], [], []⟩ 0 := by
      refine ⟨⟨rfl, hv.1, rfl, fun i hi => ⟨fun _ b hb => (by cases hb), fun _ => rfl⟩, fun i hi => ⟨fun _ b hb => (by cases hb), fun _ => rfl⟩, rfl, .inl rfl⟩, hp.keep k46,
        ⟨ObjAt.new' hb45, Own.nil _ _, Own.nil _ _, ⟨(by rintro ⟨a, ha, _⟩; cases ha), (by rintro ⟨a, ha, _⟩; cases ha), (by rintro k ⟨a, ha, _⟩; cases ha)⟩⟩, k8.trans k46, fun k hk => ⟨by have := hnew k hk; omega, fun hr => ?_⟩, fun k hk => ?_, by simp⟩
      · have := hRM k hr; have := hplt k hk; omega
      · have := hRM k hk; have := k8.size; omega
    refine ⟨fun i w50 => ∃ (k : Nat) (sa sc : Slc) (s : PS) (m : RfS), i = k ∧ k ≤ xs.length ∧ BI w w50 r rp ra r45 sa sc s m k, fun i _ => ((xs.length : Int) - i).toNat, ⟨0, _, _, _, _, rfl, by omega, b0⟩, ?_⟩
    rintro i w50 ⟨k, sa, sc, s, m, rfl, hk, B⟩
    intros
    have hc := B.c
    refine BIf_dec (fun hlt => ?_) (fun hlt => ⟨rfl, B.kp⟩)
    have hkx : k < xs.length := by omega
    obtain ⟨a, ha, hrow⟩ := rdHear_get (rowsR_keep hx B.kp) hkx
    refine needSome_mk ha ⟨by omega, hlt, _, _, _, _, _, _, by rw [show Int.toNat (k : Int) * 6 = k * 6 by omega]; exact hrow, ?_⟩
    generalize xs[k] = x at hrow ⊢
    refine var_mk rfl rfl (fun r174 w176 hr174 o k176 hs176 => ⟨_, o.cell 3 (by simp), BIf_dec (fun _ => ⟨rfl, B.kp.trans k176⟩) (fun h300 => ?_)⟩)
    have B6 := B.keep k176
    have rlt := B.f.lt
    have plt := B.p.lt
    -- the two kinds of a hearing
    refine ⟨fun w2 => ∃ (sa sc : Slc) (s : PS) (m : RfS), BI w w2 r rp ra r45 sa sc s m (k + 1), ⟨_, o.cell 4 (by simp), BIf_mk (fun hacc => ?_) (fun hacc => ?_)⟩, ?_⟩
    · refine ⟨x.1, o.cell 0 (by simp), x.2.2.2, o.cell 5 (by simp), ?_⟩
      refine (refAccepted_spec r45 sa sc m x.1 x.2.2.2 w176 B6.f (by omega)).mono ?_
      rintro e w183 ⟨rfl, sc', hf, ft⟩
      have hinv := B6.inv.accept x.1 x.2.2.2
      have hml : (if m.n < 2 * (m.asks.n : Int) then { m with acc := m.acc ++ [⟨x.1, x.2.2.2, 0, []⟩] } else m).ans.length ≤ k + 1 ∧ (if m.n < 2 * (m.asks.n : Int) then { m with acc := m.acc ++ [⟨x.1, x.2.2.2, 0, []⟩] } else m).acc.length ≤ k + 1 := by
        split
        · simp only [List.length_append, List.length_singleton]; omega
        · omega
      generalize (if m.n < 2 * (m.asks.n : Int) then { m with acc := m.acc ++ [⟨x.1, x.2.2.2, 0, []⟩] } else m) = m' at hf hinv hml
      obtain ⟨k183, n183⟩ := ft.new B6.kp B6.nf
      have hp183 := B6.p.ext ft.1 (fun k hk => (B6.np k hk).2)
      have np183 : ∀ k, PropM r rp ra k → w.heap.size ≤ k ∧ ¬ RefM r45 sa sc' k := fun k hk => ⟨(B6.np k hk).1, fun hm => by
        rcases ft.2 k hm with h1 | h1
        · exact (B6.np k hk).2 h1
        · have := plt k hk; have := k176.size; omega⟩
      have o183 := o.ext ft.1 (fun hh => by have := rlt _ hh; omega)
      refine ⟨rfl, (refDecided_spec r45 sa sc' m' w183 hf (by omega)).mono ?_⟩
      rintro e w185 ⟨rfl, k185⟩
      have o185 := o183.keep k185
      refine ⟨_, _, rfl, x.1, o185.cell 0 (by simp), x.2.2.2, o185.cell 5 (by simp), ?_⟩
      refine (Accepted_spec r rp ra s x.1 x.2.2.2 w185 (hp183.keep k185) (by omega)).mono ?_
      rintro e w191 ⟨rfl, hp191, e191⟩
      have hcc := accepted_n s x.1 x.2.2.2
      refine ⟨_, rfl, BIf_mk (fun hb => ?_) (fun hb => ?_)⟩
      · exfalso
        have h1 := hinv.done
        have h2 := hinv.n
        rw [hcc.1] at h2
        rw [h1, h2] at hb
        simp at hb
      · refine ⟨sa, sc', _, m', hinv, hp191, (hf.keep k185).ext e191 (fun k hk hh => (np183 k hh).2 hk), (k183.trans k185).ext e191 (fun k hk => (np183 k hk).1), np183, n183, by omega⟩
    · have od := o.keep (Ext.drew _ w176)
      have Bd := B6.keep (Ext.drew _ w176)
      refine ⟨sa, Bd.f.o.cell 2 (by simp), x.1, od.cell 0 (by simp), x.2.1.1, od.cell 1 (by simp), x.2.1.2.1, od.cell 2 (by simp), x.2.1.2.2, od.cell 3 (by simp), newS_mk (fun r198 w199 hr198 hb198 k199 hs199 => ?_)⟩
      have B9 := Bd.keep k199
      have o9 := od.keep k199
      have hsl2 := own_len4 B9.f.a
      refine ⟨⟨sa, B9.f.o.cell 2 (by simp), rfl⟩, ?_⟩
      have hsrc : srcAt w199 4 (.slc ⟨some ⟨r198, 0, none⟩, 1, 1⟩) (ansC [⟨x.1, x.2.1.1, x.2.1.2.1, x.2.1.2.2⟩]) := srcAt_slc (Own.new (sz := 4) (n := 1) hb198 (.inl (by simp)) rfl).cells rfl
      refine appendS_own B9.f.a (by omega) rfl hsrc (ans_one _) (by simp only [Src.n]; omega) (fun s201 w202 g1 g2 g3 g4 => ?_)
      obtain ⟨d1, d2⟩ := (B9.f.o.ext g2 B9.f.ne.1).setOne 2 (by simp) s201.v
      refine ⟨d1, fun w203 hw => ?_⟩
      obtain ⟨f1, f2, f3⟩ := d2 w203 hw
      have rlt9 := B9.f.lt
      have plt9 := B9.p.lt
      have hr201 : ¬ ownB s201 r45 := fun hk => (g3 r45 hk).elim B9.f.ne.1 (fun h1 => by have := rlt9 r45 (.inl rfl); omega)
      have hinv := B9.inv.promise ⟨x.1, x.2.1.1, x.2.1.2.1, x.2.1.2.2⟩
      have hF : RefAt w203 r45 s201 sc { m with ans := m.ans ++ [⟨x.1, x.2.1.1, x.2.1.2.1, x.2.1.2.2⟩] } := by
        refine ⟨f1, ?_, (B9.f.c.ext g2 (fun k hk hh => B9.f.ne.2.2 k hh hk)).ext f2 (fun k hk hh => B9.f.ne.2.1 (hh ▸ hk)), hr201, B9.f.ne.2.1, fun k hk hk2 => ?_⟩
        · rw [ansC_append]; exact g1.ext f2 (fun k hk hh => hr201 (hh ▸ hk))
        · rcases g3 k hk with h1 | h1
          · exact B9.f.ne.2.2 k h1 hk2
          · have := OwnLt B9.f.c k hk2; omega
      have e203 : Ext (RefM r45 sa sc) w199 w203 := g2.trans f2 (fun k hk => .inr (.inl hk)) (fun k hk => .inl (.inl hk))
      have n203 : ∀ k, RefM r45 s201 sc k → RefM r45 sa sc k ∨ w199.heap.size ≤ k := by
        rintro k (h1 | h1 | h1)
        · exact .inl (.inl h1)
        · exact (g3 k h1).imp (fun h => .inr (.inl h)) (fun h => h)
        · exact .inl (.inr (.inr h1))
      obtain ⟨k203, nf203⟩ := Foot.new ⟨e203, n203⟩ B9.kp B9.nf
      have hp203 := B9.p.ext e203 (fun k hk => (B9.np k hk).2)
      have np203 : ∀ k, PropM r rp ra k → w.heap.size ≤ k ∧ ¬ RefM r45 s201 sc k := fun k hk => ⟨(B9.np k hk).1, fun hm => by
        rcases n203 k hm with h1 | h1
        · exact (B9.np k hk).2 h1
        · have := plt9 k hk; omega⟩
      have o203 := o9.ext e203 (fun hh => by have := rlt _ hh; omega)
      refine (refAsks_spec r45 s201 sc _ w203 hF (by simp; omega)).mono ?_
      rintro e w205 ⟨rfl, k205⟩
      have o205 := o203.keep k205
      refine ⟨_, _, rfl, x.1, o205.cell 0 (by simp), x.2.1.1, x.2.1.2.1, x.2.1.2.2, ?_, ?_⟩
      · simp only [rowAt, add_lit]
        exact ⟨o205.cell 1 (by simp), o205.cell 2 (by simp), o205.cell 3 (by simp), trivial⟩
      refine (Promise_spec r rp ra s x.1 x.2.1.1 x.2.1.2.1 x.2.1.2.2 w205 (hp203.keep k205) (by omega)).mono ?_
      rintro e w213 ⟨rfl, hp213, e213⟩
      have hcc := promise_n s x.1 x.2.1.1 x.2.1.2.1 x.2.1.2.2
      refine ⟨_, rfl, BIf_mk (fun hb => ?_) (fun hb => ?_)⟩
      · exfalso
        have h1 := hinv.ask
        have h2 := hinv.n
        dsimp only at h1 h2
        rw [hcc.1] at h2
        rw [h1] at hb
        dsimp only at hb
        rw [h2] at hb
        simp at hb
      · refine ⟨s201, sc, _, _, hinv, hp213, (hF.keep k205).ext e213 (fun k hk hh => (np203 k hh).2 hk), (k203.trans k205).ext e213 (fun k hk => (np203 k hk).1), np203, nf203, ?_⟩
        simp only [List.length_append, List.length_singleton]
        omega
    · rintro w215 ⟨sa, sc, s, m, B⟩
      intros
      have hc := B.c
      have hn := B.inv.n
      refine (Asks_spec r rp ra s w215 B.p (by omega)).mono ?_
      rintro e w277 ⟨rfl, rfl⟩
      refine ⟨_, _, rfl, (refAsks_spec r45 sa sc m w277 B.f (by omega)).mono ?_⟩
      rintro e w281 ⟨rfl, k281⟩
      have B2 := B.keep k281
      refine ⟨_, _, rfl, (Decided_spec r rp ra s w281 B2.p (by omega)).mono ?_⟩
      rintro e w285 ⟨rfl, rfl⟩
      refine ⟨_, _, rfl, (refDecided_spec r45 sa sc m w285 B2.f (by omega)).mono ?_⟩
      rintro e w289 ⟨rfl, k289⟩
      have B3 := B2.keep k289
      rw [B.inv.ask, B.inv.done, hn]
      dsimp only
      refine ⟨_, _, rfl, BIf_ndec (fun h => absurd rfl h) (fun _ => BIf_mk (fun h => by simp at h) (fun _ => BIf_ndec (fun h => ?_) (fun _ => BIf_mk (fun h => by simp at h) (fun _ => ?_))))⟩
      · exfalso
        apply h
        rcases B.inv.most with h0 | h0
        · have hp1 := B.inv.pos
          rw [h0, if_neg (by omega), if_neg (by omega)]
        · have h0 : s.n < 2 * (s.yes : Int) := h0
          rw [if_pos h0]
      · exact ⟨inR64 (by omega), ⟨k + 1, sa, sc, s, m, rfl, hkx, B3⟩, by omega⟩
end Go.D
