/-
  WHAT IS PROVED: contracts of functions, and the plain law, for this proof. No further conditions.
-/
import Derived.Test.YtkcobfichmjbdaaDoorToken3
set_option linter.unusedVariables false
set_option linter.unusedSimpArgs false
namespace Go.D
open Go Go.Proofs

theorem alive13_spec (A : Nat → Addr) (w : World) (n0 : Nat) (hE : LE5 A n0 w) (hn0 : n0 ≤ w.heap.size) : Calls Tryd.prog fn_tidewaterlaw13_alive ⟨[]⟩ w fun e w' => e = .returned (.bool true) ∧ Keep w w' := by
  refine tidewaterlaw13_alive_ok ?_
  unfold tidewaterlaw13_alive
  refine (New13_nil 0 0 w A n0 hE (by omega) (by omega)).mono ?_
  rintro x w2 ⟨k2, r, F, sl, rfl, hS, hr, hF⟩
  refine ⟨_, _, rfl, fun w' => w' = w2, ⟨trivial, BIf_mk (fun h => by cases h) (fun _ => BIf_mk (fun h => by cases h) (fun _ => rfl))⟩, ?_⟩
  rintro w6 rfl
  intros
  refine newS_mk (fun r14 w15 hr14 hb14 k15 hs15 => ?_)
  have hi : intsAt w15 ⟨some ⟨r14, 0, none⟩, 1, 1⟩ [1] := Own.ints (l := [1]) (Own.new (sz := 1) (n := 1) hb14 (.inl (by simp)) rfl)
  have hrl := hS.o.lt
  refine (Take_spec A r F 0 0 sl (fun _ => []) 0 _ [1] w15 (hS.keep k15) (fun k hk => by have := (hF k hk).2; omega) hi (fun _ k hk => by obtain ⟨a, ha, rfl⟩ := hk; cases ha; show r14 ≠ r; omega) (by simp) (by omega) n0 (hE.keep (k2.trans k15)) (by omega)).mono ?_
  rintro x w17 ⟨at_, out, ev, rfl, hm⟩
  have e : takeR 0 0 0 [1] = none := by rfl
  rw [e] at hm
  obtain ⟨rfl, rfl, he, G, sl', hG, hS', ⟨ps, ho, hpl, hps⟩, hout⟩ := hm
  have hol := bk_len ho
  have h1 : ps.length = 1 := by simpa using hpl
  obtain ⟨a, ha, hrow⟩ := bk_row ho (i := 0) (by omega)
  obtain ⟨p1, p2, p3⟩ := hps 0 (by omega) (by simp)
  refine ⟨_, _, _, rfl, trivial, BIf_mk (fun _ => BIf_dec (fun _ => BIf_dec (fun _ => needSome_mk ha ⟨by omega, by omega, ps[0].2, ?_, ?_, ?_⟩) (fun h => by omega)) (fun h => absurd rfl h)) (fun h => by cases h)⟩
  · have := hrow.2.1
    rw [show 0 * 2 = 0 from rfl, Addr.add_add] at this
    simpa using this
  · have := p2.1
    simp at this
    rw [this]; rfl
  · exact (k2.trans k15).ext he (fun k hk => by omega)

def KI : KV Int Slc := KV.int Slc.v
theorem KI_map (x : Option Slc) : x.map KI.vv = Option.map (Sh.v Sh.slc) x := by cases x <;> rfl
theorem KI_get {w : World} {r : Nat} {al : List (Int × Slc)} (h : MapAt KI w r al) (n : Int) : ∃ es, mapIs w (some r) es ∧ mapGet (.int .i64) (.int .i64 n) es = some (Option.map (Sh.v Sh.slc) (lookL al n)) := by
  obtain ⟨es, h1, h2⟩ := h.get
  exact ⟨es, h1, (h2 n).trans (congrArg some (KI_map _))⟩

abbrev getS (al : List (Int × Slc)) (x : Int) : Slc := Option.getD (lookL al x) ⟨none, 0, 0⟩
/-- What was told, by streams. -/
structure TM (w : World) (r : Nat) (al : List (Int × Slc)) (T : Int → List Int) (D : Nat → Prop) : Prop where
  m : MapAt KI w r al
  t : ∀ x, intsAt w (getS al x) (T x) ∧ (getS al x).l ≤ (getS al x).c ∧ ∀ k, ownB (getS al x) k → D k
theorem TM.ext {N : Nat → Prop} {w w' : World} {r : Nat} {al : List (Int × Slc)} {T : Int → List Int} {D : Nat → Prop} (h : TM w r al T D) (he : Ext N w w') (h1 : ¬ N r) (h2 : ∀ k, D k → ¬ N k) : TM w' r al T D :=
  ⟨h.m.ext he h1, fun x => ⟨intsAt_ext (h.t x).1 he (fun k hk => h2 k ((h.t x).2.2 k hk)), (h.t x).2⟩⟩
def updI {α : Type} (f : Int → α) (k : Int) (v : α) : Int → α := fun x => if x = k then v else f x
def addT (n : Int) (l : List Int) (T : Int → List Int) : Int → List Int := fun x => if x ∈ l then n :: T x else T x
theorem addT_snoc (n : Int) (l : List Int) (T : Int → List Int) (y : Int) (hy : y ∉ l) : addT n (l ++ [y]) T = updI (addT n l T) y (n :: T y) := by
  funext x
  simp only [addT, updI, List.mem_append, List.mem_singleton]
  by_cases h : x = y
  · subst h; rw [if_pos (.inr rfl), if_pos rfl]
  · rw [if_neg h]
    by_cases h2 : x ∈ l
    · rw [if_pos (.inl h2), if_pos h2]
    · rw [if_neg (fun hh => hh.elim h2 h), if_neg h2]
theorem addT_nil (n : Int) (T : Int → List Int) : addT n [] T = T := by funext x; simp [addT]

theorem TokenOnce_walk (next : Int) (s2 : Slc) (xs : List (Slc × List Int)) (w : World) (hx : rowsR Rd.ints w s2 xs) (A : Nat → Addr) (hE0 : Errs A w) :
    Calls Tryd.prog fn_tidewaterlaw13_TokenOnce ⟨[.int .i64 next, s2.v]⟩ w fun e w' => e = .returned (.bool true) ∧ Keep w w' := by
  have hE := hE0.b
  have hL : LE5 A w.heap.size w := LE5.of hE0 (by decide)
  have hsl := hx.1
  refine tidewaterlaw13_TokenOnce_ok _ _ ?_
  unfold tidewaterlaw13_TokenOnce
  refine (alive13_spec A w _ hL (Nat.le_refl _)).mono ?_
  rintro e w4 ⟨rfl, k4⟩
  refine ⟨_, rfl, BIf_mk (fun h => by cases h) (fun _ => BIf_dec (fun _ => ⟨rfl, k4⟩) (fun h60 => ?_))⟩
  obtain ⟨m, hm, hM, hM0⟩ : ∃ m : Nat, (m : Int) < 4097 ∧ IntKind.wrap .i64 ((IntKind.wrap .u64 next) % 4097) = (m : Int) ∧ 0 ≤ IntKind.wrap .u64 next := by
    have hu : 0 ≤ IntKind.wrap .u64 next := by
      simp [IntKind.wrap, IntKind.signed, IntKind.bits]; omega
    generalize IntKind.wrap .u64 next = u at hu
    have h1 : 0 ≤ u % 4097 := Int.emod_nonneg _ (by omega)
    have h2 : u % 4097 < 4097 := Int.emod_lt_of_pos _ (by omega)
    refine ⟨(u % 4097).toNat, by omega, ?_, hu⟩
    generalize u % 4097 = v at h1 h2
    simp [IntKind.wrap, IntKind.signed, IntKind.bits]
    omega
  rw [hM]
  refine ⟨hM0, by omega, (New13_nil 3 m w4 A _ (hL.keep k4) (by omega) (by omega)).mono ?_⟩
  rintro x w7 ⟨k7', r, F, sl, rfl, hS, hr, hF⟩
  have k7 := k4.trans k7'
  refine ⟨_, _, rfl, fun w' => w' = w7, ⟨trivial, BIf_mk (fun h => by cases h) (fun _ => BIf_mk (fun h => by cases h) (fun _ => rfl))⟩, ?_⟩
  rintro w11 rfl
  intros
  refine newS_mk (fun r19 w20 hr19 hb19 k20 hs20 => ?_)
  have z4 := k4.size
  have z7 := k7'.size
  have hrl := hS.o.lt
  have tm0 : TM w20 r19 [] (fun _ => []) (fun _ => False) := ⟨MapAt.new hb19, fun x => ⟨nil_ints _, Nat.le_refl _, by rintro k ⟨a, ha, _⟩; cases ha⟩⟩
  refine ⟨fun nx i w25 => ∃ (k n : Nat) (F D : Nat → Prop) (sl : Nat → Slc) (L : Nat → List Int) (al : List (Int × Slc)) (T : Int → List Int), i = k ∧ k ≤ xs.length ∧ nx = n ∧ n ≤ 4096 ∧ Keep w w25 ∧ SeqAt 4 w25 r F 3 n sl L ∧ TM w25 r19 al T D ∧
      (∀ x : Nat, x < 13 → L x = (T x).take 4) ∧ (∀ b, F b → w.heap.size ≤ b ∧ b < w25.heap.size ∧ b ≠ r19) ∧ (∀ b, D b → w.heap.size ≤ b ∧ b < w25.heap.size ∧ b ≠ r19 ∧ b ≠ r) ∧ ∀ x, (T x).length ≤ k,
    fun _ i _ => ((xs.length : Int) - i).toNat, ⟨0, m, F, fun _ => False, sl, fun _ => [], [], fun _ => [], rfl, by omega, rfl, by omega, k7.trans k20, hS.keep k20, tm0, fun _ _ => rfl, fun b hb => by have := hF b hb; omega, fun _ h => h.elim, fun _ => Nat.zero_le _⟩, ?_⟩
  rintro nx i w25 ⟨k, n, F, D, sl, L, al, T, rfl, hk, rfl, hn, kp, hS, hT, hLT, hF, hD, hTl⟩
  intros
  have hrl25 := hS.o.lt
  have hr19lt := hT.m.lt
  refine BIf_dec (fun hlt => ?_) (fun hlt => ⟨rfl, kp⟩)
  have hkx : k < xs.length := by omega
  obtain ⟨a, cs, ha, ⟨rfl, hint, _, _⟩, hrow⟩ := (rowsR_keep hx kp).2.2.2 k hkx
  obtain ⟨_, _, _, ⟨_, hint0, _, _⟩, _⟩ := hx.2.2.2 k hkx
  refine needSome_mk ha ⟨by omega, hlt, xs[k].1, by rw [show Int.toNat (k : Int) * 1 = k * Rd.ints.n by show Int.toNat (k : Int) * 1 = k * 1; omega]; have := hrow.1; rwa [Addr.add_add, Nat.add_zero] at this, BIf_dec (fun _ => ⟨rfl, kp⟩) (fun h10 => ?_)⟩
  generalize xs[k] = x at hint hint0 h10 ⊢
  obtain ⟨st, l⟩ := x
  dsimp only at hint hint0 h10 ⊢
  have hstl := hint.1
  refine (Take_spec A r F 3 n sl L 3 st l w25 hS (fun b hb => (hF b hb).2.1) hint (fun h0 b hb => by have := intsAt_lt hint0 h0 b hb; omega) (by omega) (by omega) w.heap.size (hL.keep kp) (by omega)).mono ?_
  rintro x w117 ⟨at_, out, ev, rfl, hm⟩
  refine ⟨_, _, _, rfl, ?_⟩
  cases hR : takeR 3 n 3 l with
  | some j =>
    rw [hR] at hm
    obtain ⟨rfl, rfl, rfl, k117'⟩ := hm
    have k117 := kp.trans k117'
    have hj : (j = 3) ∨ (j = 12 ∧ n = 4096) := by
      rw [takeR, if_neg (by simp)] at hR
      split at hR
      · left; exact (Option.some.inj hR).symm
      · split at hR
        · right; exact ⟨(Option.some.inj hR).symm, by omega⟩
        · cases hR
    refine ⟨trivial, BIf_mk (fun _ => BIf_ndec (fun h => absurd rfl h) (fun _ => ?_)) (fun h => by cases h)⟩
    refine (Num_spec A j (by omega) w117 (hE.keep k117).1).mono ?_
    rintro x w122 ⟨rfl, k122'⟩
    have k122 := k117'.trans k122'
    have next : inR .i64 ((k : Int) + 1) ∧ (∃ (k' n' : Nat) (F D : Nat → Prop) (sl : Nat → Slc) (L : Nat → List Int) (al : List (Int × Slc)) (T : Int → List Int), ((k : Int) + 1) = k' ∧ k' ≤ xs.length ∧ (n : Int) = n' ∧ n' ≤ 4096 ∧ Keep w w122 ∧ SeqAt 4 w122 r F 3 n' sl L ∧ TM w122 r19 al T D ∧
      (∀ x : Nat, x < 13 → L x = (T x).take 4) ∧ (∀ b, F b → w.heap.size ≤ b ∧ b < w122.heap.size ∧ b ≠ r19) ∧ (∀ b, D b → w.heap.size ≤ b ∧ b < w122.heap.size ∧ b ≠ r19 ∧ b ≠ r) ∧ ∀ x, (T x).length ≤ k') ∧ ((xs.length : Int) - ((k : Int) + 1)).toNat < ((xs.length : Int) - (k : Int)).toNat := by
      have z := k122.size
      exact ⟨inR64 (by omega), ⟨k + 1, n, F, D, sl, L, al, T, rfl, hkx, rfl, hn, kp.trans k122, hS.keep k122, hT.ext k122 (fun h => h) (fun _ _ h => h), hLT, fun b hb => by have := hF b hb; omega, fun b hb => by have := hD b hb; omega, fun x => by have := hTl x; omega⟩, by omega⟩
    refine ⟨_, rfl, BIf_dec (fun h13 => BIf_ndec (fun h => ?_) (fun _ => next)) (fun h13 => next)⟩
    exfalso; omega
  | none =>
    rw [hR] at hm
    obtain ⟨rfl, rfl, he, G, sl', hG, hS', hTo, hout⟩ := hm
    obtain ⟨ps, ho, hpl, hps⟩ := hTo
    have hol := bk_len ho
    have z117 := he.size
    have k117 : Keep w w117 := kp.ext he (fun b hb => by omega)
    have hrise : risesL l (-1) = true := by
      rw [takeR, if_neg (by simp)] at hR
      split at hR
      · cases hR
      · rename_i hh
        cases e : risesL l (-1) with
        | true => rfl
        | false => exact absurd (.inr (.inr e)) hh
    have hn4 : n ≠ 4096 := by
      rw [takeR, if_neg (by simp)] at hR
      split at hR
      · cases hR
      · split at hR
        · cases hR
        · rename_i hh; omega
    have hmem := rises_mem l (-1) hrise
    have hT' : TM w117 r19 al T D := hT.ext he (fun hh => by omega) (fun b hb hh => (hD b hb).2.2.2 hh)
    have olt := OwnLt ho
    refine ⟨trivial, BIf_mk (fun h => by cases h) (fun _ => ⟨fun w' => w' = w117, BIf_ndec (fun h => absurd rfl h) (fun _ => BIf_ndec (fun h => by omega) (fun _ => rfl)), ?_⟩)⟩
    rintro w125 rfl
    intros
    have int117 : intsAt w125 st l := by
      by_cases h0 : l = []
      · subst h0
        exact ⟨hint.1, .inl rfl⟩
      · refine intsAt_ext hint he (fun b hb hh => ?_)
        have := intsAt_lt hint0 h0 b hb; omega
    refine ⟨fun i w140 => ∃ (j : Nat) (D : Nat → Prop) (al : List (Int × Slc)), i = j ∧ j ≤ l.length ∧ Keep w w140 ∧ Ext (fun b => b = r19) w125 w140 ∧ TM w140 r19 al (addT n (l.take j) T) D ∧ (∀ b, D b → w.heap.size ≤ b ∧ b < w140.heap.size ∧ b ≠ r19 ∧ b ≠ r), fun i _ => ((l.length : Int) - i).toNat,
      ⟨0, D, al, rfl, by omega, k117, Ext.refl _ _, by rw [List.take_zero, addT_nil]; exact hT', fun b hb => by have := hD b hb; omega⟩, ?_⟩
    rintro i w140 ⟨j, D2, al2, rfl, hj, kp2, e2, hT2, hD2⟩
    intros
    have z140 := e2.size
    refine BIf_dec (fun hlt2 => ?_) (fun hlt2 => ?_)
    · have hjl : j < l.length := by omega
      obtain ⟨a1, ha1, hc1⟩ := intsAt_cell (intsAt_ext int117 e2 (fun b hb hh => by
        have := intsAt_lt hint0 (by intro h0; rw [h0] at hjl; simp at hjl) b hb
        omega)) hjl
      have hyl := hmem _ (List.getElem_mem hjl)
      have hnin := rises_nodup l (-1) hrise j hjl
      have htk : l.take (j + 1) = l.take j ++ [l[j]] := List.take_succ_eq_append_getElem hjl
      refine needSome_mk ha1 ⟨by omega, hlt2, l[j], by rw [show Int.toNat (j : Int) * 1 = j by omega]; exact hc1, ?_⟩
      have kd : Keep w140 w140.drew := Ext.drew _ _
      have ho2 := (ho.ext e2 (fun b hb hh => by have := (hout b hb).1; omega)).keep kd
      obtain ⟨a2, ha2, hrow2⟩ := bk_row ho2 (i := j) (by omega)
      obtain ⟨p1, p2, p3⟩ := hps j (by omega) hjl
      have e3 : Int.toNat (j : Int) * 2 = j * 2 := by omega
      refine needSome_mk ha2 ⟨by omega, by omega, ps[j].1, by rw [e3]; have := hrow2.1; rwa [Addr.add_add, Nat.add_zero] at this, BIf_ndec (fun h => absurd p1 h) (fun _ => ?_)⟩
      refine needSome_mk ha2 ⟨by omega, by omega, ps[j].2, by rw [e3]; exact hrow2.2.1, ?_⟩
      have hT3 := hT2.ext kd (fun h => h) (fun _ _ h => h)
      obtain ⟨es, m1, m2⟩ := KI_get hT3.m l[j]
      obtain ⟨t1, t2, t3⟩ := hT3.t l[j]
      have hTj : addT n (l.take j) T l[j] = T l[j] := by rw [addT, if_neg hnin]
      rw [hTj] at t1
      obtain ⟨s0, hs0⟩ : ∃ s0 : Slc, Option.getD (lookL al2 l[j]) ⟨none, 0, 0⟩ = s0 := ⟨_, rfl⟩
      unfold getS at t1 t2 t3
      rw [hs0] at t1 t2 t3
      have t1l := t1.1
      have hTlen := hTl l[j]
      refine ⟨es, m1, lookL al2 l[j], m2, es, m1, lookL al2 l[j], m2, ?_⟩
      rw [hs0]
      have hmn : ∃ q : Nat, (if ((s0.l : Nat) : Int) < (4 : Int) then ((s0.l : Nat) : Int) else (4 : Int)) = (q : Int) ∧ q ≤ (T l[j]).length ∧ (T l[j]).take q = (T l[j]).take 4 := by
        by_cases h4 : ((s0.l : Nat) : Int) < 4
        · refine ⟨(T l[j]).length, by rw [if_pos h4, t1l], Nat.le_refl _, ?_⟩
          rw [List.take_of_length_le (Nat.le_refl _), List.take_of_length_le (by omega)]
        · exact ⟨4, by rw [if_neg h4]; rfl, by omega, rfl⟩
      obtain ⟨q, hq, hq1, hq2⟩ := hmn
      rw [hq]
      have eq0 : Int.toNat (q : Int) = q := by omega
      rw [eq0]
      refine ⟨by omega, by omega, by omega, by omega, ?_⟩
      have hsub := intsAt_sub t1 (lo := 0) (hi := q) (c := s0.c) (by omega) hq1 (by omega)
      rw [List.drop_zero, hq2] at hsub
      have hps2 : intsAt w140.drew ps[j].2 (L l[j].toNat) := intsAt_keep (intsAt_ext p2 e2 (fun b hb hh => by have := hG b (p3 b hb); omega)) kd
      have hLj : L l[j].toNat = (T l[j]).take 4 := by
        rw [hLT l[j].toNat (by omega), show ((l[j].toNat : Nat) : Int) = l[j] by omega]
      refine (SameInts_spec _ _ _ _ w140.drew hps2 hsub (by rw [hLj]; simp; omega)).mono ?_
      rintro x w194 ⟨rfl, k194⟩
      refine ⟨_, rfl, BIf_mk (fun h => by rw [hLj] at h; simp at h) (fun _ => newS_mk (fun r196 w197 hr196 hb196 k197 hs197 => ?_))⟩
      have k197' := kd.trans (k194.trans k197)
      have hT7 := hT2.ext k197' (fun h => h) (fun _ _ h => h)
      obtain ⟨es7, m7, m8⟩ := KI_get hT7.m l[j]
      obtain ⟨t4, t5, t6⟩ := hT7.t l[j]
      rw [hTj] at t4
      unfold getS at t4
      rw [hs0] at t4
      refine ⟨es7, m7, lookL al2 l[j], m8, ?_⟩
      rw [hs0]
      have ho7 : Own w197 ⟨some ⟨r196, 0, none⟩, 1, 1⟩ 1 ([(n : Int)].map intV) := Own.new (sz := 1) (n := 1) hb196 (.inl (by simp)) rfl
      have h7o : ∀ b, ownB ⟨some ⟨r196, 0, none⟩, 1, 1⟩ b → b = r196 := by rintro b ⟨a, ha, rfl⟩; cases ha; rfl
      refine appendS_own ho7 (by omega) rfl (srcAt_slc t4.2 (by simp; have := t4.1; omega)) (one_ints _) (by simp only [Src.n]; have := t4.1; omega) (fun s200 w201 q1 q2 q3 q4 => ?_)
      rw [← List.map_append] at q1
      have z197 := k197'.size
      have z194 : w140.heap.size ≤ w194.heap.size := (kd.trans k194).size
      have hT8 : TM w201 r19 al2 (addT n (l.take j) T) D2 := hT7.ext q2 (fun hh => by have := h7o r19 hh; omega) (fun b hb hh => by have := h7o b hh; have := (hD2 b hb).2.1; omega)
      obtain ⟨es8, ck, es9, ck9, n1, n2, n3⟩ := hT8.m.put l[j] s200
      refine ⟨r19, es8, ck, es9, ck9, rfl, n1, n2, fun w207 hw => ?_⟩
      obtain ⟨hm9, he9, hz9⟩ := n3 w207 hw
      have z201 := q2.size
      have hnew : ∀ b, ownB s200 b → r196 ≤ b ∧ b < w201.heap.size := fun b hb => ⟨by
        rcases q3 b hb with h1 | h1
        · have := h7o b h1; omega
        · omega, OwnLt q1 b hb⟩
      have e140_201 : Ext (fun b => b = r196) w140 w201 := Ext.trans k197' q2 (fun _ h => h.elim) (fun b hb => .inl (h7o b hb))
      refine ⟨inR64 (by omega), ⟨j + 1, fun b => D2 b ∨ ownB s200 b, _, rfl, hjl, ?_, ?_, ⟨hm9, fun x => ?_⟩, fun b hb => ?_⟩, by dsimp only; omega⟩
      · exact (kp2.ext e140_201 (fun b hb => by omega)).ext he9 (fun b hb => by omega)
      · exact (e2.trans e140_201 (fun _ h => h) (fun b hb => .inr (by omega))).trans he9 (fun _ h => h) (fun b hb => .inl hb)
      · rw [htk, addT_snoc n (l.take j) T l[j] hnin]
        have eg : getS (putL al2 l[j] s200) x = if x = l[j] then s200 else getS al2 x := by
          unfold getS
          rw [look_put]
          split <;> rfl
        rw [eg]
        by_cases hxl : x = l[j]
        · rw [if_pos hxl, updI, if_pos hxl]
          exact ⟨intsAt_ext q1.ints he9 (fun b hb hh => by have := hnew b hb; omega), q1.le (by omega), fun b hb => .inr hb⟩
        · rw [if_neg hxl, updI, if_neg hxl]
          obtain ⟨u1, u2, u3⟩ := hT8.t x
          exact ⟨intsAt_ext u1 he9 (fun b hb hh => (hD2 b (u3 b hb)).2.2.1 hh), u2, fun b hb => .inl (u3 b hb)⟩
      · rcases hb with hb | hb
        · have := hD2 b hb; omega
        · have := hnew b hb; omega
    · have hjl : j = l.length := by omega
      subst hjl
      rw [List.take_length] at hT2
      refine ⟨inR64 (by omega), inR64 (by omega), ⟨k + 1, n + 1, fun b => F b ∨ G b, D2, sl', takeL n l L, al2, addT n l T, rfl, hkx, by omega, by omega, kp2, ?_, hT2, fun x hx13 => ?_, fun b hb => ?_, hD2, fun x => ?_⟩, by omega⟩
      · exact hS'.ext e2 (fun hh => by omega) (fun b hb hh => by
          rcases hb with h1 | h1
          · exact (hF b h1).2.2 hh
          · have := hG b h1; omega)
      · rw [takeL, addT, hLT x hx13]
        by_cases hxl : (x : Int) ∈ l
        · rw [if_pos hxl, if_pos hxl]
          show ((n : Int) :: (T x).take 4).take 4 = ((n : Int) :: T x).take 4
          rw [List.take_succ_cons, List.take_succ_cons, List.take_take]; rfl
        · rw [if_neg hxl, if_neg hxl]
      · rcases hb with h1 | h1
        · have := hF b h1; omega
        · have := hG b h1; omega
      · rw [addT]
        have := hTl x
        split
        · simp; omega
        · omega
end Go.D
