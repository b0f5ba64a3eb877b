/-
  WHAT IS PROVED: contracts of functions, and the plain law, for this proof. No further conditions.
-/
import Derived.Test.YtjlolhdndholdaaDoorAll1
import Derived.Test.YtjlolhdndholdaaDoorVClaw12
set_option linter.unusedVariables false
set_option linter.unusedSimpArgs false
namespace Go.D
open Go Go.Proofs

/-! ### a book in memory -/
def plC (x : Int × Slc) : List Value := [.int .i64 x.1, x.2.v]
theorem foot_pl {x : Int × Slc} {k : Nat} (h : footV (plC x) k) : ownB x.2 k := by
  obtain ⟨s, hs, _, hk⟩ := h
  have : s = x.2 := by
    simp only [plC, List.mem_cons, List.not_mem_nil, or_false] at hs
    rcases hs with hs | hs
    · simp [Slc.v] at hs
    · exact Slc.v_inj hs
  rw [← this]; exact hk
def PlR : RowD (Int × Slc) where
  n := 2
  pos := by omega
  R w x cs := cs = plC x ∧ ∀ k, ownB x.2 k → k < w.heap.size
  len h := by rw [h.1]; rfl
  one h := by rw [h.1]; intro v hv; simp [plC] at hv; rcases hv with rfl | rfl <;> rfl
  ext h he _ := ⟨h.1, fun k hk => Nat.lt_of_lt_of_le (h.2 k hk) he.size⟩
  lt h := by rw [h.1]; intro k hk; exact h.2 k (foot_pl hk)
abbrev PlS := Int × List (List Int)
structure BkP where
  ss : Slc
  pp : Slc
  n : Nat
  ps : Nat → SeatP
  ql : List (Int × Slc)
  Y : Nat → Prop
def BkB (r : Nat) (x : BkP) (k : Nat) : Prop := k = r ∨ ownB x.ss k ∨ ownB x.pp k ∨ ∃ i, i < x.n ∧ SeatB (x.ps i) k
structure BkC (r : Nat) (x : BkP) (c : Nat → Nat) : Prop where
  cr : c r = 0
  cs : ∀ k, ownB x.ss k → c k = 1
  cp : ∀ k, ownB x.pp k → c k = 2
  cy : ∀ k, x.Y k → c k = 3
  ci : ∀ i, i < x.n → ∀ k, SeatB (x.ps i) k → c k = 4 + i
structure BkAt (w : World) (r : Nat) (x : BkP) (up : Nat → Bool) (f : Nat → Int → VS) (pl : List PlS) (N : Nat) : Prop where
  o : ObjAt w r [x.ss.v, x.pp.v]
  s : Own w x.ss 1 ((List.range x.n).map fun i => ptrR' (x.ps i).o)
  p : Rows PlR w x.pp x.ql (x.ql.map plC)
  len : x.ql.length = pl.length
  q : ∀ i (h : i < x.ql.length) (h' : i < pl.length), x.ql[i].1 = pl[i].1 ∧ ChF w x.ql[i].2 pl[i].2 x.Y
  yb : ∀ k, x.Y k → k < w.heap.size
  st : ∀ i, i < x.n → SeatAt w (x.ps i) (up i) (f i) N
  c : ∃ c, BkC r x c
section
variable {w w' : World} {r : Nat} {x : BkP} {up : Nat → Bool} {f : Nat → Int → VS} {pl : List PlS} {N : Nat}
theorem BkAt.ext {M : Nat → Prop} (h : BkAt w r x up f pl N) (he : Ext M w w') (h1 : ∀ k, BkB r x k → ¬ M k) (h2 : ∀ k, x.Y k → ¬ M k) : BkAt w' r x up f pl N := by
  refine ⟨h.o.ext he (h1 _ (.inl rfl)), h.s.ext he (fun k hk => h1 k (.inr (.inl hk))), h.p.ext he (fun k hk => h1 k (.inr (.inr (.inl hk)))) (fun k hk => ?_), h.len, fun i hi hi' => ⟨(h.q i hi hi').1, (h.q i hi hi').2.ext he h2⟩, fun k hk => Nat.lt_of_lt_of_le (h.yb k hk) he.size, fun i hi => (h.st i hi).ext he (fun k hk => h1 k (.inr (.inr (.inr ⟨i, hi, hk⟩)))), h.c⟩
  obtain ⟨cs, hcs, hk⟩ := hk
  obtain ⟨y, hy, rfl⟩ := List.mem_map.1 hcs
  obtain ⟨i, hi, rfl⟩ := List.getElem_of_mem hy
  exact h2 k ((h.q i hi (by rw [← h.len]; exact hi)).2.y k (foot_pl hk))
theorem BkAt.keep (h : BkAt w r x up f pl N) (he : Keep w w') : BkAt w' r x up f pl N := h.ext he (fun _ _ h => h) (fun _ _ h => h)
theorem BkAt.lt (h : BkAt w r x up f pl N) : ∀ k, BkB r x k → k < w.heap.size := by
  rintro k (rfl | hk | hk | ⟨i, hi, hk⟩)
  · exact h.o.lt
  · exact OwnLt h.s k hk
  · exact h.p.lt k hk
  · exact (h.st i hi).lt k hk
theorem BkAt.mono {N' : Nat} (h : BkAt w r x up f pl N) (hN : N ≤ N') : BkAt w r x up f pl N' := ⟨h.o, h.s, h.p, h.len, h.q, h.yb, fun i hi => (h.st i hi).mono hN, h.c⟩
theorem BkAt.c0 (h : BkAt w r x up f pl N) : w.cell? ⟨r, 0, none⟩ = some x.ss.v := h.o.cell 0 (by simp)
theorem BkAt.c1 (h : BkAt w r x up f pl N) : w.cell? ((⟨r, 0, none⟩ : Addr).add 1) = some x.pp.v := by rw [add_lit]; exact h.o.cell 1 (by simp)
theorem BkAt.sl (h : BkAt w r x up f pl N) : x.ss.l = x.n := by have := h.s.1; rw [List.length_map, List.length_range] at this; omega
theorem BkAt.pll (h : BkAt w r x up f pl N) : x.pp.l = pl.length := by rw [h.p.sl, h.len]
theorem BkAt.seatC (h : BkAt w r x up f pl N) {i : Nat} (hi : i < x.n) : ∃ a : Addr, x.ss.p = some a ∧ w.cell? (a.add (i * 1)) = some (ptrR' (x.ps i).o) := by
  obtain ⟨a, ha, hc⟩ := cellsAt_get h.s.cells (i := i) (by simpa using hi)
  exact ⟨a, ha, by rw [Nat.mul_one, hc]; simp⟩
theorem BkAt.planC (h : BkAt w r x up f pl N) {i : Nat} (hi : i < pl.length) : ∃ (a : Addr) (s : Slc), x.pp.p = some a ∧ rowAt w (a.add (i * 2)) 0 [.int .i64 pl[i].1, s.v] ∧ ChF w s pl[i].2 x.Y := by
  have hi' : i < x.ql.length := by rw [h.len]; exact hi
  obtain ⟨a, ha, _, hrow⟩ := h.p.get (i := i) (by simpa using hi')
  rw [List.getElem_map] at hrow
  obtain ⟨h1, h2⟩ := h.q i hi' hi
  refine ⟨a, x.ql[i].2, ha, ?_, h2⟩
  rw [← h1]; exact hrow
def updF {α : Type} (g : Nat → α) (i : Nat) (v : α) : Nat → α := fun j => if j = i then v else g j
theorem updF_same {α : Type} (g : Nat → α) (i : Nat) (v : α) : updF g i v i = v := if_pos rfl
theorem updF_ne {α : Type} (g : Nat → α) {i j : Nat} (v : α) (h : j ≠ i) : updF g i v j = g j := if_neg h
/-- A seat has changed. -/
theorem BkAt.seat (h : BkAt w r x up f pl N) {i : Nat} (hi : i < x.n) {p' : SeatP} {u' : Bool} {f' : Int → VS} {N' : Nat} (ho : p'.o = (x.ps i).o) (hs : SeatAt w' p' u' f' N') (hf : Foot (SeatB (x.ps i)) (SeatB p') w w') (hN : N ≤ N') :
    BkAt w' r { x with ps := updF x.ps i p' } (updF up i u') (updF f i f') pl N' ∧ Foot (BkB r x) (BkB r { x with ps := updF x.ps i p' }) w w' := by
  obtain ⟨c, hc⟩ := h.c
  have lt := h.lt
  have no : ∀ k, c k ≠ 4 + i → ¬ SeatB (x.ps i) k := fun k h1 h2 => h1 (hc.ci i hi k h2)
  have hlt := hs.lt
  have hfoot : Foot (BkB r x) (BkB r { x with ps := updF x.ps i p' }) w w' := by
    refine ⟨hf.1.mono (fun k hk => .inr (.inr (.inr ⟨i, hi, hk⟩))), ?_⟩
    rintro k (hk | hk | hk | ⟨j, hj, hk⟩)
    · exact .inl (.inl hk)
    · exact .inl (.inr (.inl hk))
    · exact .inl (.inr (.inr (.inl hk)))
    · have hk' : SeatB (updF x.ps i p' j) k := hk
      by_cases e : j = i
      · rw [e, updF_same] at hk'
        exact (hf.2 k hk').imp (fun g => .inr (.inr (.inr ⟨i, hi, g⟩))) (fun g => g)
      · rw [updF_ne _ _ e] at hk'
        exact .inl (.inr (.inr (.inr ⟨j, hj, hk'⟩)))
  refine ⟨⟨h.o.ext hf.1 (no r (by rw [hc.cr]; omega)), ?_, h.p.ext hf.1 (fun k hk => no k (by rw [hc.cp k hk]; omega)) (fun k hk => ?_), h.len, fun j hj hj' => ⟨(h.q j hj hj').1, (h.q j hj hj').2.ext hf.1 (fun k hk => no k (by rw [hc.cy k hk]; omega))⟩, fun k hk => Nat.lt_of_lt_of_le (h.yb k hk) hf.1.size, fun j hj => ?_, fun k => if k < w.heap.size then c k else 4 + i, ?_, fun k hk => ?_, fun k hk => ?_, fun k hk => ?_, fun j hj k hk => ?_⟩, hfoot⟩
  · have := h.s.ext hf.1 (fun k hk => no k (by rw [hc.cs k hk]; omega))
    have e : (List.range x.n).map (fun j => ptrR' (updF x.ps i p' j).o) = (List.range x.n).map fun j => ptrR' (x.ps j).o := by
      apply List.map_congr_left
      intro j _
      by_cases e : j = i
      · rw [e, updF_same, ho]
      · rw [updF_ne _ _ e]
    show Own w' x.ss 1 ((List.range x.n).map (fun j => ptrR' (updF x.ps i p' j).o))
    rw [e]; exact this
  · obtain ⟨cs, hcs, hk'⟩ := hk
    obtain ⟨y, hy, rfl⟩ := List.mem_map.1 hcs
    obtain ⟨j, hj, rfl⟩ := List.getElem_of_mem hy
    have := (h.q j hj (by rw [← h.len]; exact hj)).2.y k (foot_pl hk')
    exact no k (by rw [hc.cy k this]; omega)
  · show SeatAt w' (updF x.ps i p' j) (updF up i u' j) (updF f i f' j) N'
    by_cases e : j = i
    · rw [e, updF_same, updF_same, updF_same]; exact hs
    · rw [updF_ne _ _ e, updF_ne _ _ e, updF_ne _ _ e]
      exact ((h.st j hj).ext hf.1 (fun k hk => no k (by rw [hc.ci j hj k hk]; omega))).mono hN
  · rw [if_pos h.o.lt]; exact hc.cr
  · rw [if_pos (lt k (.inr (.inl hk)))]; exact hc.cs k hk
  · rw [if_pos (lt k (.inr (.inr (.inl hk))))]; exact hc.cp k hk
  · rw [if_pos (h.yb k hk)]; exact hc.cy k hk
  · have hk' : SeatB (updF x.ps i p' j) k := hk
    by_cases e : j = i
    · rw [e, updF_same] at hk'
      rw [e]
      rcases hf.2 k hk' with g | g
      · rw [if_pos (lt k (.inr (.inr (.inr ⟨i, hi, g⟩))))]; exact hc.ci i hi k g
      · rw [if_neg (by omega)]
    · rw [updF_ne _ _ e] at hk'
      rw [if_pos (lt k (.inr (.inr (.inr ⟨j, hj, hk'⟩))))]; exact hc.ci j hj k hk'
theorem BkAt.y_out (h : BkAt w r x up f pl N) : ∀ k, x.Y k → ¬ BkB r x k := by
  obtain ⟨c, hc⟩ := h.c
  intro k hk hh
  have h3 := hc.cy k hk
  rcases hh with rfl | hh | hh | ⟨i, hi, hh⟩
  · have := hc.cr; omega
  · have := hc.cs k hh; omega
  · have := hc.cp k hh; omega
  · have := hc.ci i hi k hh; omega

/-! ### questions -/
theorem bkHas_spec (h : BkAt w r x up f pl N) (i : Int) :
    Calls Tryd.prog fn_book_Book_has ⟨[ptrR' r, .int .i64 i]⟩ w fun e w' => e = .returned (.bool (decide (0 ≤ i ∧ i < (x.n : Int)))) ∧ w' = w := by
  refine book_Book_has_ok _ _ ?_
  unfold book_Book_has
  have hsl := h.sl
  refine BIf_dec (fun h0 => needSome_mk rfl ⟨_, h.c0, ?_, rfl⟩) (fun h0 => ⟨by rw [decide_eq_false (by omega)], rfl⟩)
  congr 2
  rw [decide_eq_decide]; omega
theorem bkKnown_spec (h : BkAt w r x up f pl N) : Calls Tryd.prog fn_book_Book_Known ⟨[ptrR' r]⟩ w fun e w' => e = .returned (.int .i64 (pl.length : Int)) ∧ w' = w := by
  refine book_Book_Known_ok _ ?_
  unfold book_Book_Known
  exact needSome_mk rfl ⟨_, h.c1, by rw [h.pll], rfl⟩
theorem bkSet_spec (h : BkAt w r x up f pl N) (i : Int) (u : Bool) :
    Calls Tryd.prog fn_book_Book_Set ⟨[ptrR' r, .int .i64 i, .bool u]⟩ w fun e w' => e = .returned (.tuple #[]) ∧ ∃ x', x'.n = x.n ∧ x'.Y = x.Y ∧ BkAt w' r x' (if 0 ≤ i ∧ i < (x.n : Int) then updF up i.toNat u else up) f pl N ∧ Foot (BkB r x) (BkB r x') w w' := by
  refine book_Book_Set_ok _ _ _ ?_
  unfold book_Book_Set
  refine (bkHas_spec h i).mono ?_
  rintro e w5 ⟨rfl, rfl⟩
  refine ⟨_, rfl, BIf_dec (fun h0 => ?_) (fun h0 => ⟨rfl, x, rfl, rfl, by rw [if_neg h0]; exact h, Foot.refl _ _⟩)⟩
  obtain ⟨j, rfl⟩ : ∃ j : Nat, i = j := ⟨i.toNat, by omega⟩
  have hj : j < x.n := by omega
  obtain ⟨a, ha, hc⟩ := h.seatC hj
  have hsl := h.sl
  have hst := h.st j hj
  obtain ⟨c1, c2⟩ := hst.o.setOne 1 (by simp) (.bool u)
  refine needSome_mk rfl ⟨_, h.c0, needSome_mk ha ⟨by omega, by omega, _, by rw [Int.toNat_natCast]; exact hc, needSome_mk rfl ?_⟩⟩
  rw [add_lit]
  refine ⟨c1, fun w12 hw12 => ⟨rfl, ?_⟩⟩
  obtain ⟨o12, e12, z12⟩ := c2 w12 hw12
  have hs' : SeatAt w12 (x.ps j) u (f j) N := by
    obtain ⟨xs, css, q1, q2⟩ := hst.s
    exact ⟨o12, hst.v.ext e12 (fun k hk hh => hst.d1 (by rw [← show k = (x.ps j).o from hh]; exact hk)), ⟨xs, css, q1.ext e12 (fun k hk hh => hst.d2 (by rw [← show k = (x.ps j).o from hh]; exact hk)) (fun k hk => (footC_said q1 k hk).elim), q2⟩, fun k hk => by have := hst.b k hk; omega, hst.d1, hst.d2, hst.d3⟩
  obtain ⟨h', hf⟩ := h.seat hj (p' := x.ps j) rfl hs' ⟨e12.mono (fun k hk => .inl hk), fun k hk => .inl hk⟩ (Nat.le_refl _)
  rw [if_pos h0, Int.toNat_natCast]
  have e9 : updF f j (f j) = f := by funext k; unfold updF; split <;> simp_all
  rw [e9] at h'
  exact ⟨{ x with ps := updF x.ps j (x.ps j) }, rfl, rfl, h', hf⟩
def upN (up : Nat → Bool) : Nat → Nat
  | 0 => 0
  | n + 1 => upN up n + (if up n = true then 1 else 0)
theorem upN_succ (up : Nat → Bool) (n : Nat) : upN up (n + 1) = upN up n + (if up n = true then 1 else 0) := rfl
theorem upN_le (up : Nat → Bool) : ∀ n, upN up n ≤ n
  | 0 => Nat.le_refl _
  | n + 1 => by have := upN_le up n; unfold upN; split <;> omega
theorem bkUp_spec (h : BkAt w r x up f pl N) (hn : x.n ≤ 2 ^ 20) : Calls Tryd.prog fn_book_Book_Up ⟨[ptrR' r]⟩ w fun e w' => e = .returned (.int .i64 (upN up x.n : Int)) ∧ w' = w := by
  refine book_Book_Up_ok _ ?_
  unfold book_Book_Up
  have hsl := h.sl
  refine needSome_mk rfl ⟨_, h.c0, fun n i w2 => ∃ k : Nat, i = k ∧ k ≤ x.n ∧ n = (upN up k : Int) ∧ w2 = w, fun _ i _ => ((x.n : Int) - i).toNat, ⟨0, rfl, by omega, rfl, rfl⟩, ?_⟩
  rintro n i w8 ⟨k, rfl, hk, rfl, rfl⟩
  intros
  have hul := upN_le up k
  refine BIf_dec (fun h0 => ?_) (fun h0 => ?_)
  · have hkl : k < x.n := by omega
    obtain ⟨a, ha, hc⟩ := h.seatC hkl
    have hst := h.st k hkl
    refine needSome_mk ha ⟨by omega, h0, _, by rw [Int.toNat_natCast]; exact hc, needSome_mk rfl ⟨_, by rw [add_lit]; exact hst.o.cell 1 (by simp), BIf_mk (fun hu => ⟨inR64 (by omega), inR64 (by omega), ⟨k + 1, rfl, hkl, ?_, rfl⟩, by dsimp only; omega⟩) (fun hu => ⟨inR64 (by omega), ⟨k + 1, rfl, hkl, ?_, rfl⟩, by dsimp only; omega⟩)⟩⟩
    · rw [upN_succ, if_pos hu]; omega
    · rw [upN_succ, if_neg (by rw [hu]; decide)]; omega
  · have : k = x.n := by omega
    subst this
    exact ⟨rfl, rfl⟩
theorem bklatest_spec (h : BkAt w r x up f pl N) (hp : 0 < pl.length) (hl : pl.length ≤ 2 ^ 30) :
    Calls Tryd.prog fn_book_Book_latest ⟨[ptrR' r]⟩ w fun e w' => ∃ s : Slc, e = .returned (.agg ⟨[.int .i64 (pl[pl.length - 1]'(by omega)).1, s.v]⟩) ∧ ChF w' s (pl[pl.length - 1]'(by omega)).2 x.Y ∧ Keep w w' := by
  refine book_Book_latest_ok _ ?_
  unfold book_Book_latest
  refine newS_mk (fun r2 w3 hr2 hb2 k2 hs2 => ?_)
  have o2 := ObjAt.new' hb2
  have kd : Keep w3 (World.drew w3) := Ext.drew _ _
  have hd := (h.keep k2).keep kd
  have hpl := h.pll
  obtain ⟨a, s, ha, hrow, hC⟩ := hd.planC (i := pl.length - 1) (by omega)
  have e1 : Int.toNat (((x.pp.l : Nat) : Int) - 1) = pl.length - 1 := by omega
  obtain ⟨c1, c2⟩ := (o2.keep kd).setAll (n := 2) (cs := [.int .i64 (pl[pl.length - 1]'(by omega)).1, s.v]) rfl rfl
  refine needSome_mk rfl ⟨_, hd.c1, needSome_mk rfl ⟨_, hd.c1, inR64 (by omega), needSome_mk ha ⟨by omega, by omega, _, _, by rw [e1]; exact hrow, c1, fun w11 hw11 => ?_⟩⟩⟩
  obtain ⟨o11, e11, z11⟩ := c2 w11 hw11
  have ylt := h.yb
  exact ⟨_, _, o11.row, s, rfl, hC.ext e11 (fun k hk hh => by have := ylt k hk; have h9 : k = r2 := hh; omega), (k2.trans kd).ext e11 (fun k hk => by rw [show k = r2 from hk]; omega)⟩
theorem bkLatest_spec (h : BkAt w r x up f pl N) (hp : 0 < pl.length) (hl : pl.length ≤ 2 ^ 30) (hs : ∀ p ∈ pl, p.2.length ≤ 1000 ∧ ∀ c ∈ p.2, c.length ≤ 1000) :
    Calls Tryd.prog fn_book_Book_Latest ⟨[ptrR' r]⟩ w fun e w' => ∃ s : Slc, e = .returned (.agg ⟨[.int .i64 (pl[pl.length - 1]'(by omega)).1, s.v]⟩) ∧ ChF w' s (pl[pl.length - 1]'(by omega)).2 (fun k => w.heap.size ≤ k ∧ k < w'.heap.size) ∧ Keep w w' := by
  refine book_Book_Latest_ok _ ?_
  unfold book_Book_Latest
  refine newS_mk (fun r2 w3 hr2 hb2 k2 hs2 => (bklatest_spec (h.keep k2) hp hl).mono ?_)
  have o2 := ObjAt.new' hb2
  rintro e w5 ⟨s, rfl, hC, k5⟩
  obtain ⟨v1, v2⟩ := hs _ (List.getElem_mem (show pl.length - 1 < pl.length by omega))
  refine ⟨_, _, rfl, (Copy_spec _ s _ w5 hC.chs v1 v2).mono ?_⟩
  rintro e w9 ⟨t, ts, rfl, hO, hB, k9⟩
  have k39 := k5.trans k9
  obtain ⟨c1, c2⟩ := (o2.keep k39).setAll (n := 2) (cs := [.int .i64 (pl[pl.length - 1]'(by omega)).1, t.v]) rfl rfl
  refine ⟨_, _, rfl, c1, fun w12 hw12 => ?_⟩
  obtain ⟨o12, e12, z12⟩ := c2 w12 hw12
  have z3 := k2.size
  have z5 := k5.size
  have olt := hO.lt
  refine ⟨_, _, o12.row, t, rfl, ((ChF.of hO).ext e12 (fun k hk hh => by have := hB k hk; have h9 : k = r2 := hh; omega)).mono (fun k hk => ⟨by have := hB k hk; omega, by have := olt k hk; omega⟩), (k2.trans k39).ext e12 (fun k hk => by rw [show k = r2 from hk]; omega)⟩
end
end Go.D

set_option linter.unusedVariables false
set_option linter.unusedSimpArgs false
namespace Go.D
open Go Go.Proofs

section
variable {w w' : World} {r : Nat} {x : BkP} {up : Nat → Bool} {f : Nat → Int → VS} {pl : List PlS} {N : Nat}
/-- A plan more. -/
theorem BkAt.addPlan {E T : TypeId} {K : Slc → World → Prop} (h : BkAt w r x up f pl N) {ep : Int} {t : Slc} {cs : List (List Int)} {Y1 : Nat → Prop} {r9 : Nat} (hC : ChF w t cs Y1) (hY : ∀ k, Y1 k → k < w.heap.size ∧ ¬ BkB r x k) (hb : w.heap[r9]? = some (.cells ⟨plC (ep, t)⟩ T)) (hl : pl.length < 2 ^ 29)
    (hK : ∀ (s' : Slc) (w2 : World), (canW w2 ((⟨r, 0, none⟩ : Addr).add 1) 1 ∧ ∀ w3 : World, w3 = World.setCell w2 ((⟨r, 0, none⟩ : Addr).add 1) s'.v → BkAt w3 r { x with pp := s', ql := x.ql ++ [(ep, t)], Y := fun k => x.Y k ∨ Y1 k } up f (pl ++ [(ep, cs)]) N ∧ Foot (BkB r x) (BkB r { x with pp := s', ql := x.ql ++ [(ep, t)], Y := fun k => x.Y k ∨ Y1 k }) w w3) → K s' w2) :
    appendS 2 E [.int .i64 0, (⟨none, 0, 0⟩ : Slc).v] w x.pp (.slc ⟨some ⟨r9, 0, none⟩, 1, 1⟩) K := by
  obtain ⟨c, hc⟩ := h.c
  have lt := h.lt
  refine h.p.snoc (cs := plC (ep, t)) (x := (ep, t)) (z := [.int .i64 0, (⟨none, 0, 0⟩ : Slc).v]) rfl ⟨rfl, fun k hk => (hY k (hC.y k hk)).1⟩ (fun k hk hh => (hY k (hC.y k (foot_pl hk))).2 (.inr (.inr (.inl hh)))) hb (.inl (by simp [plC])) (by rw [h.len]; omega) (fun s' w2 g1 g2 g3 => hK s' w2 ?_)
  have no2 : ∀ k, c k ≠ 2 → ¬ ownB x.pp k := fun k h1 h2 => h1 (hc.cp k h2)
  have o2 := h.o.ext g2 (no2 r (by rw [hc.cr]; omega))
  obtain ⟨c1, c2⟩ := o2.setOne 1 (by simp) s'.v
  rw [add_lit]
  refine ⟨c1, fun w3 hw3 => ?_⟩
  obtain ⟨o3, e3, z3⟩ := c2 w3 hw3
  have z2 := g2.size
  have no0 : ∀ k, c k ≠ 0 → ¬ k = r := fun k h1 h2 => h1 (by rw [h2]; exact hc.cr)
  have sr : ∀ k, ownB s' k → ¬ k = r := fun k hk => by
    rcases g3 k hk with g | g
    · exact no0 k (by rw [hc.cp k g]; omega)
    · have := lt r (.inl rfl); omega
  have YY : ∀ k, Y1 k → ¬ ownB x.pp k ∧ ¬ k = r := fun k hk => ⟨fun hh => (hY k hk).2 (.inr (.inr (.inl hh))), fun hh => (hY k hk).2 (.inl hh)⟩
  have yold : ∀ k, x.Y k → ¬ ownB x.pp k ∧ ¬ k = r := fun k hk => ⟨no2 k (by rw [hc.cy k hk]; omega), no0 k (by rw [hc.cy k hk]; omega)⟩
  have hq : ∀ i (h1 : i < (x.ql ++ [(ep, t)]).length) (h2 : i < (pl ++ [(ep, cs)]).length), (x.ql ++ [(ep, t)])[i].1 = (pl ++ [(ep, cs)])[i].1 ∧ ChF w3 (x.ql ++ [(ep, t)])[i].2 (pl ++ [(ep, cs)])[i].2 (fun k => x.Y k ∨ Y1 k) := by
    intro i h1 h2
    rw [List.length_append, List.length_singleton] at h1 h2
    by_cases e : i < x.ql.length
    · have e' : i < pl.length := by rw [← h.len]; exact e
      rw [List.getElem_append_left e, List.getElem_append_left e']
      obtain ⟨q1, q2⟩ := h.q i e e'
      exact ⟨q1, ((q2.ext g2 (fun k hk => (yold k hk).1)).ext e3 (fun k hk => (yold k hk).2)).mono (fun k hk => .inl hk)⟩
    · have ei : i = x.ql.length := by omega
      have ei' : i = pl.length := by rw [← h.len]; exact ei
      have e1 : (x.ql ++ [(ep, t)])[i]'(by simp; omega) = (ep, t) := by rw [List.getElem_append_right (by omega)]; simp [ei]
      have e2 : (pl ++ [(ep, cs)])[i]'(by simp; omega) = (ep, cs) := by rw [List.getElem_append_right (by omega)]; simp [ei']
      rw [e1, e2]
      exact ⟨rfl, ((hC.ext g2 (fun k hk => (YY k hk).1)).ext e3 (fun k hk => (YY k hk).2)).mono (fun k hk => .inr hk)⟩
  refine ⟨⟨o3, (h.s.ext g2 (fun k hk => no2 k (by rw [hc.cs k hk]; omega))).ext e3 (fun k hk => no0 k (by rw [hc.cs k hk]; omega)), ?_, by simp [h.len], hq, ?_, fun i hi => ((h.st i hi).ext g2 (fun k hk => no2 k (by rw [hc.ci i hi k hk]; omega))).ext e3 (fun k hk => no0 k (by rw [hc.ci i hi k hk]; omega)), @ite _ (c r = 0) (instDecidableEqNat _ _) (fun k => @ite _ (Y1 k) (Classical.propDecidable _) 3 (if k < w.heap.size then c k else 2)) c, ?_⟩, ?_⟩
  · have := g1.ext e3 (fun k hk => sr k hk) (fun k hk => ?_)
    · have e9 : x.ql.map plC ++ [plC (ep, t)] = (x.ql ++ [(ep, t)]).map plC := by simp
      rw [e9] at this; exact this
    · obtain ⟨cs', hcs, hk'⟩ := hk
      have e9 : x.ql.map plC ++ [plC (ep, t)] = (x.ql ++ [(ep, t)]).map plC := by simp
      rw [e9] at hcs
      obtain ⟨y, hy, rfl⟩ := List.mem_map.1 hcs
      obtain ⟨i, hi, rfl⟩ := List.getElem_of_mem hy
      have h9 := (hq i hi (by simp at hi ⊢; rw [← h.len]; exact hi)).2.y k (foot_pl hk')
      rcases h9 with h9 | h9
      · exact (yold k h9).2
      · exact (YY k h9).2
  · rintro k (hk | hk)
    · have := h.yb k hk; omega
    · have := (hY k hk).1; omega
  · rw [if_pos hc.cr]
    refine ⟨?_, fun k hk => ?_, fun k hk => ?_, fun k hk => ?_, fun i hi k hk => ?_⟩
    · rw [@if_neg _ (Classical.propDecidable _) (fun hh => (hY r hh).2 (.inl rfl)), if_pos h.o.lt]; exact hc.cr
    · rw [@if_neg _ (Classical.propDecidable _) (fun hh => (hY k hh).2 (.inr (.inl hk))), if_pos (lt k (.inr (.inl hk)))]; exact hc.cs k hk
    · rcases g3 k hk with g | g
      · rw [@if_neg _ (Classical.propDecidable _) (fun hh => (hY k hh).2 (.inr (.inr (.inl g)))), if_pos (lt k (.inr (.inr (.inl g))))]; exact hc.cp k g
      · rw [@if_neg _ (Classical.propDecidable _) (fun hh => by have := (hY k hh).1; omega), if_neg (by omega)]
    · rcases hk with hk | hk
      · by_cases e : Y1 k
        · rw [@if_pos _ (Classical.propDecidable _) e]
        · rw [@if_neg _ (Classical.propDecidable _) e, if_pos (h.yb k hk)]; exact hc.cy k hk
      · rw [@if_pos _ (Classical.propDecidable _) hk]
    · rw [@if_neg _ (Classical.propDecidable _) (fun hh => (hY k hh).2 (.inr (.inr (.inr ⟨i, hi, hk⟩)))), if_pos (lt k (.inr (.inr (.inr ⟨i, hi, hk⟩))))]; exact hc.ci i hi k hk
  · refine ⟨(g2.mono (fun k hk => .inr (.inr (.inl hk)))).trans e3 (fun _ h => h) (fun k hk => .inl (.inl hk)), ?_⟩
    rintro k (hk | hk | hk | hk)
    · exact .inl (.inl hk)
    · exact .inl (.inr (.inl hk))
    · exact (g3 k hk).imp (fun g => .inr (.inr (.inl g))) (fun g => g)
    · exact .inl (.inr (.inr (.inr hk)))
/-- A seat more. -/
theorem BkAt.addSeat {E T : TypeId} {K : Slc → World → Prop} (h : BkAt w r x up f pl N) {p : SeatP} (hs : SeatAt w p (up x.n) (f x.n) N) (hp : ∀ k, SeatB p k → ¬ BkB r x k ∧ ¬ x.Y k) {r9 : Nat} (hb : w.heap[r9]? = some (.cells ⟨[ptrR' p.o]⟩ T)) (hl : x.n < 2 ^ 29)
    (hK : ∀ (s' : Slc) (w2 : World), (canW w2 (⟨r, 0, none⟩ : Addr) 1 ∧ ∀ w3 : World, w3 = World.setCell w2 (⟨r, 0, none⟩ : Addr) s'.v → BkAt w3 r { x with ss := s', n := x.n + 1, ps := updF x.ps x.n p } up f pl N ∧ Ext (BkB r x) w w3 ∧ ∀ k, BkB r { x with ss := s', n := x.n + 1, ps := updF x.ps x.n p } k → BkB r x k ∨ SeatB p k ∨ w.heap.size ≤ k) → K s' w2) :
    appendS 1 E [.pointer none] w x.ss (.slc ⟨some ⟨r9, 0, none⟩, 1, 1⟩) K := by
  obtain ⟨c, hc⟩ := h.c
  have lt := h.lt
  have hsrc : srcAt w 1 (.slc ⟨some ⟨r9, 0, none⟩, 1, 1⟩) [ptrR' p.o] := srcAt_slc (Own.new (sz := 1) (n := 1) hb (.inl (by simp)) rfl).cells rfl
  refine appendS_own h.s (by omega) rfl hsrc (by intro v hv; simp at hv; subst hv; rfl) (by simp only [Src.n]; rw [h.sl]; omega) (fun s' w2 g1 g2 g3 g4 => hK s' w2 ?_)
  have no1 : ∀ k, c k ≠ 1 → ¬ ownB x.ss k := fun k h1 h2 => h1 (hc.cs k h2)
  have o2 := h.o.ext g2 (no1 r (by rw [hc.cr]; omega))
  obtain ⟨c1, c2⟩ := o2.setOne 0 (by simp) s'.v
  refine ⟨c1, fun w3 hw3 => ?_⟩
  obtain ⟨o3, e3, z3⟩ := c2 w3 hw3
  have z2 := g2.size
  have no0 : ∀ k, c k ≠ 0 → ¬ k = r := fun k h1 h2 => h1 (by rw [h2]; exact hc.cr)
  have sr : ∀ k, ownB s' k → ¬ k = r := fun k hk => by
    rcases g3 k hk with g | g
    · exact no0 k (by rw [hc.cs k g]; omega)
    · have := lt r (.inl rfl); omega
  have hsl := hs.lt
  have pn : ∀ k, SeatB p k → ¬ ownB x.ss k ∧ ¬ k = r := fun k hk => ⟨fun hh => (hp k hk).1 (.inr (.inl hh)), fun hh => (hp k hk).1 (.inl hh)⟩
  have psn : ∀ i, i < x.n → updF x.ps x.n p i = x.ps i := fun i hi => updF_ne _ _ (by omega)
  refine ⟨⟨o3, ?_, (h.p.ext g2 (fun k hk => no1 k (by rw [hc.cp k hk]; omega)) (fun k hk => ?_)).ext e3 (fun k hk => no0 k (by rw [hc.cp k hk]; omega)) (fun k hk => ?_), h.len, fun i hi hi' => ⟨(h.q i hi hi').1, ((h.q i hi hi').2.ext g2 (fun k hk => no1 k (by rw [hc.cy k hk]; omega))).ext e3 (fun k hk => no0 k (by rw [hc.cy k hk]; omega))⟩, fun k hk => by have := h.yb k hk; omega, fun i hi => ?_, fun k => @ite _ (SeatB p k) (Classical.propDecidable _) (4 + x.n) (if k < w.heap.size then c k else 1), ?_, fun k hk => ?_, fun k hk => ?_, fun k hk => ?_, fun i hi k hk => ?_⟩, (g2.mono (fun k hk => .inr (.inl hk))).trans e3 (fun _ h => h) (fun k hk => .inl (.inl hk)), ?_⟩
  · have := g1.ext e3 (fun k hk => sr k hk)
    show Own w3 s' 1 ((List.range (x.n + 1)).map fun i => ptrR' (updF x.ps x.n p i).o)
    rw [List.range_succ, List.map_append, List.map_singleton, updF_same]
    have e9 : (List.range x.n).map (fun i => ptrR' (updF x.ps x.n p i).o) = (List.range x.n).map fun i => ptrR' (x.ps i).o := by
      apply List.map_congr_left
      intro i hi
      rw [psn i (List.mem_range.1 hi)]
    rw [e9]; exact this
  · obtain ⟨cs', hcs, hk'⟩ := hk
    obtain ⟨y, hy, rfl⟩ := List.mem_map.1 hcs
    obtain ⟨i, hi, rfl⟩ := List.getElem_of_mem hy
    have := (h.q i hi (by rw [← h.len]; exact hi)).2.y k (foot_pl hk')
    exact no1 k (by rw [hc.cy k this]; omega)
  · obtain ⟨cs', hcs, hk'⟩ := hk
    obtain ⟨y, hy, rfl⟩ := List.mem_map.1 hcs
    obtain ⟨i, hi, rfl⟩ := List.getElem_of_mem hy
    have := (h.q i hi (by rw [← h.len]; exact hi)).2.y k (foot_pl hk')
    exact no0 k (by rw [hc.cy k this]; omega)
  · have hi' : i < x.n + 1 := hi
    show SeatAt w3 (updF x.ps x.n p i) (up i) (f i) N
    by_cases e : i = x.n
    · rw [e, updF_same]
      exact (hs.ext g2 (fun k hk => (pn k hk).1)).ext e3 (fun k hk => (pn k hk).2)
    · rw [psn i (by omega)]
      exact ((h.st i (by omega)).ext g2 (fun k hk => no1 k (by rw [hc.ci i (by omega) k hk]; omega))).ext e3 (fun k hk => no0 k (by rw [hc.ci i (by omega) k hk]; omega))
  · rw [@if_neg _ (Classical.propDecidable _) (fun hh => (hp r hh).1 (.inl rfl)), if_pos h.o.lt]; exact hc.cr
  · rcases g3 k hk with g | g
    · rw [@if_neg _ (Classical.propDecidable _) (fun hh => (hp k hh).1 (.inr (.inl g))), if_pos (lt k (.inr (.inl g)))]; exact hc.cs k g
    · rw [@if_neg _ (Classical.propDecidable _) (fun hh => by have := hsl k hh; omega), if_neg (by omega)]
  · rw [@if_neg _ (Classical.propDecidable _) (fun hh => (hp k hh).1 (.inr (.inr (.inl hk)))), if_pos (lt k (.inr (.inr (.inl hk))))]; exact hc.cp k hk
  · rw [@if_neg _ (Classical.propDecidable _) (fun hh => (hp k hh).2 hk), if_pos (h.yb k hk)]; exact hc.cy k hk
  · have hk' : SeatB (updF x.ps x.n p i) k := hk
    have hi' : i < x.n + 1 := hi
    by_cases e : i = x.n
    · rw [e, updF_same] at hk'
      rw [@if_pos _ (Classical.propDecidable _) hk', e]
    · rw [psn i (by omega)] at hk'
      rw [@if_neg _ (Classical.propDecidable _) (fun hh => (hp k hh).1 (.inr (.inr (.inr ⟨i, by omega, hk'⟩)))), if_pos (lt k (.inr (.inr (.inr ⟨i, by omega, hk'⟩))))]; exact hc.ci i (by omega) k hk'
  · rintro k (hk | hk | hk | ⟨i, hi, hk⟩)
    · exact .inl (.inl hk)
    · exact (g3 k hk).imp (fun g => .inr (.inl g)) .inr
    · exact .inl (.inr (.inr (.inl hk)))
    · have hk' : SeatB (updF x.ps x.n p i) k := hk
      have hi' : i < x.n + 1 := hi
      by_cases e : i = x.n
      · rw [e, updF_same] at hk'
        exact .inr (.inl hk')
      · rw [psn i (by omega)] at hk'
        exact .inl (.inr (.inr (.inr ⟨i, by omega, hk'⟩)))
end
/-- A new book. -/
theorem bkNew_spec (A : Nat → Addr) {n0 : Nat} (n : Nat) (hn : 1 ≤ n ∧ n ≤ 5) (ep : Int) (s : Slc) (cs : List (List Int)) (w : World) (h : Chs w s cs) (hr : RightP ep cs) :
    Calls Tryd.prog fn_book_New ⟨[.int .i64 (n : Int), .agg ⟨[.int .i64 ep, s.v]⟩]⟩ w fun e w' => ∃ r x, e = .returned (.tuple ⟨[ptrR' r, .nilIface]⟩) ∧ BkAt w' r x (fun _ => true) (fun _ _ => VS.new) [(ep, cs)] 0 ∧ x.n = n ∧ (∀ k, BkB r x k → w.heap.size ≤ k) ∧ (∀ k, x.Y k → w.heap.size ≤ k) ∧ Keep w w' := by
  refine book_New_ok _ _ _ ?_
  unfold book_New
  obtain ⟨v1, v2, v3, v4⟩ := hr
  refine newS_mk (fun r4 w5 hr4 hb4 k4 hs4 => ?_)
  have o4 := ObjAt.new' hb4
  refine ⟨fun w2 => Keep w5 w2, BIf_dec (fun h0 => by omega) (fun _ => BIf_dec (fun h0 => by omega) (fun _ => ⟨_, _, o4.row, (Right_spec ep s cs w5 (h.keep k4) (by omega)).mono ?_⟩)), ?_⟩
  · rintro e w12 ⟨b, rfl, hb, k12⟩
    exact ⟨_, rfl, BIf_mk (fun hh => by rw [hb.2 ⟨v1, v2, v3, v4⟩] at hh; cases hh) (fun _ => k12)⟩
  rintro w15 k15
  intros
  have kk := k4.trans k15
  refine ⟨_, _, (o4.keep k15).row, (Copy_spec ep s cs w15 (h.keep kk) (by omega) (fun c hc => by have := (v3 c hc).2.1; omega)).mono ?_⟩
  rintro e w34 ⟨t, ts, rfl, hO, hB, k34⟩
  refine ⟨_, _, rfl, newS_mk (fun r37 w38 hr37 hb37 k37 hs37 => newS_mk (fun r39 w40 hr39 hb39 k39 hs39 => ?_))⟩
  have kA := kk.trans k34
  have olt := hO.lt
  have z34 := kA.size
  have z15 := kk.size
  have z38 := k37.size
  have z40 := k39.size
  have kAll : Keep w w40 := (kA.trans k37).trans k39
  have hb37' := k39.heap hb37
  have B0 : BkAt w40 r39 ⟨⟨none, 0, 0⟩, ⟨some ⟨r37, 0, none⟩, 1, 1⟩, 0, fun _ => ⟨0, 0, fun _ => False, ⟨none, 0, 0⟩⟩, [(ep, t)], ChB t ts⟩ (fun _ => true) (fun _ _ => VS.new) [(ep, cs)] 0 := by
    have hC40 := ((ChF.of hO).keep k37).keep k39
    have ob : ∀ k, ownB (⟨some ⟨r37, 0, none⟩, 1, 1⟩ : Slc) k → k = r37 := by rintro k ⟨a, ha, rfl⟩; cases ha; rfl
    have nob : ∀ k, ¬ ownB (⟨none, 0, 0⟩ : Slc) k := by rintro k ⟨a, ha, _⟩; cases ha
    refine ⟨ObjAt.new' hb39, Own.nil _ _, ⟨Own.new (sz := 2) (n := 1) hb37' (.inl (by simp)) rfl, rfl, fun i h1 h2 => ?_, fun k hk hh => ?_⟩, rfl, fun i h1 h2 => ?_, fun k hk => ?_, (fun i hi => by cases hi), fun k => if k = r39 then 0 else if k = r37 then 2 else 3, ?_, fun k hk => (nob k hk).elim, fun k hk => ?_, fun k hk => ?_, (fun i hi => by cases hi)⟩
    · have : i = 0 := by simp at h1; omega
      subst this
      exact ⟨rfl, fun k hk => by have := olt k (.inl hk); omega⟩
    · have h9 := ob k hh
      obtain ⟨cs', hcs, hk'⟩ := hk
      rw [List.map_singleton, List.mem_singleton] at hcs
      rw [hcs] at hk'
      have := olt k (.inl (foot_pl hk')); omega
    · have : i = 0 := by simp at h1; omega
      subst this
      exact ⟨rfl, hC40⟩
    · have := olt k hk; omega
    · rw [if_pos rfl]
    · have := ob k hk
      rw [if_neg (by omega), if_pos this]
    · have := olt k hk
      rw [if_neg (by omega), if_neg (by omega)]
  have B0n : ∀ k, BkB r39 ⟨⟨none, 0, 0⟩, ⟨some ⟨r37, 0, none⟩, 1, 1⟩, 0, fun _ => ⟨0, 0, fun _ => False, ⟨none, 0, 0⟩⟩, [(ep, t)], ChB t ts⟩ k → w.heap.size ≤ k := by
    rintro k (hk | ⟨a, ha, _⟩ | ⟨a, ha, rfl⟩ | ⟨i, hi, _⟩)
    · omega
    · cases ha
    · cases ha; show _ ≤ r37; omega
    · cases hi
  refine ⟨fun i w2 => ∃ (k : Nat) (x : BkP), i = k ∧ k ≤ n ∧ x.n = k ∧ BkAt w2 r39 x (fun _ => true) (fun _ _ => VS.new) [(ep, cs)] 0 ∧ (∀ j, BkB r39 x j → w.heap.size ≤ j) ∧ (∀ j, x.Y j → w.heap.size ≤ j) ∧ Keep w w2, fun i _ => ((n : Int) - i).toNat,
    ⟨0, _, rfl, by omega, rfl, B0, B0n, fun k hk => by have := hB k hk; omega, kAll⟩, ?_⟩
  rintro i w44 ⟨k, x, rfl, hk, hxn, hBk, hBn, hYn, kw⟩
  intros
  refine BIf_dec (fun h0 => ?_) (fun h0 => ⟨r39, x, rfl, hBk, by omega, hBn, hYn, kw⟩)
  have lt := hBk.lt
  refine ⟨_, hBk.c0, newS_mk (fun r61 w62 hr61 hb61 k61 hs61 => newS_mk (fun r63 w64 hr63 hb63 k63 hs63 => newS_mk (fun r65 w66 hr65 hb65 k65 hs65 => ?_)))⟩
  have k66 := (k61.trans k63).trans k65
  have z62 := k61.size
  have z64 := k63.size
  have z66 := k65.size
  have hv : VoterAt w66 r61 (fun k => k = r61) (fun _ => VS.new) := ((VoterAt.new hb61).keep k63).keep k65
  have nob : ∀ k, ¬ ownB (⟨none, 0, 0⟩ : Slc) k := by rintro k ⟨a, ha, _⟩; cases ha
  have hst : SeatAt w66 ⟨r63, r61, fun k => k = r61, ⟨none, 0, 0⟩⟩ true (fun _ => VS.new) 0 :=
    ⟨(ObjAt.new' hb63).keep k65, hv, ⟨[], [], Rows.nil _ _, Nat.le_refl _⟩, fun k hk => by have h9 : k = r61 := hk; omega, fun hh => by have h9 : r63 = r61 := hh; omega, nob _, fun k _ => nob k⟩
  have hsb : ∀ j, SeatB ⟨r63, r61, fun k => k = r61, ⟨none, 0, 0⟩⟩ j → w44.heap.size ≤ j := by
    rintro j (hj | hj | hj)
    · have h9 : j = r63 := hj; omega
    · have h9 : j = r61 := hj; omega
    · exact (nob j hj).elim
  refine (hBk.keep k66).addSeat hst (fun j hj => ⟨fun hh => by have := hsb j hj; have := lt j hh; omega, fun hh => by have := hsb j hj; have := hBk.yb j hh; omega⟩) hb65 (by omega) (fun s67 w68 hK => ⟨hK.1, fun w69 hw69 => ?_⟩)
  obtain ⟨B69, x69, f69⟩ := hK.2 w69 hw69
  have z44 := kw.size
  refine ⟨inR64 (by omega), ⟨k + 1, _, rfl, by omega, by show x.n + 1 = _; omega, B69, fun j hj => ?_, hYn, (kw.trans k66).ext x69 hBn⟩, by dsimp only; omega⟩
  rcases f69 j hj with g | g | g
  · exact hBn j g
  · have := hsb j g; omega
  · omega
end Go.D

set_option linter.unusedVariables false
set_option linter.unusedSimpArgs false
namespace Go.D
open Go Go.Proofs

theorem voteNew_good (n m b : Int) (t : List UInt8) (w : World) (hn : 1 ≤ n ∧ n ≤ 5) (hb : 0 ≤ b) :
    Calls Tryd.prog fn_vote_New ⟨[.int .i64 n, .int .i64 m, .int .i64 b, strV t]⟩ w fun e w' => Keep w w' ∧ ∃ r rp ra, e = .returned (.tuple ⟨[.pointer (some ⟨r, 0, none⟩), .nilIface]⟩) ∧ PropAt w' r rp ra ⟨n, b, t, -1, [], [], 0, 0⟩ ∧ ∀ k, PropM r rp ra k → w.heap.size ≤ k := by
  refine vote_New_ok _ _ _ _ ?_
  unfold vote_New
  refine BIf_dec (fun h1 => by omega) (fun h1 => BIf_dec (fun h2 => by omega) (fun h2 => BIf_dec (fun h3 => by omega) (fun h3 => ?_)))
  refine newS_mk (fun r8 w9 hr8 hb8 k8 hs8 => newS_mk (fun r10 w11 hr10 hb10 k10 hs10 => newS_mk (fun r12 w13 hr12 hb12 k12 hs12 => ?_)))
  refine ⟨(k8.trans k10).trans k12, r12, r8, r10, rfl, ⟨ObjAt.new' hb12, MapAt.keep (MapAt.new hb8) (k10.trans k12), MapAt.keep (MapAt.new hb10) k12, by omega⟩, ?_⟩
  rintro k (rfl | rfl | rfl) <;> omega
theorem promise_n5 (s : PS) (i : Int) (y : Bool) (b : Int) (t : List UInt8) : (s.promise i y b t).n = s.n ∧ (s.promise i y b t).yes ≤ s.yes + 1 ∧ (s.promise i y b t).done = s.done := by
  rw [PS.promise]
  split
  · split
    · split <;> simp
    · simp
  · simp
theorem accepted_n5 (s : PS) (i : Int) (y : Bool) : (s.accepted i y).n = s.n ∧ (s.accepted i y).yes = s.yes ∧ (s.accepted i y).done ≤ s.done + 1 ∧ (s.accepted i y).t = s.t := by
  rw [PS.accepted]
  split
  · refine ⟨rfl, rfl, ?_, rfl⟩
    dsimp only
    split <;> omega
  · simp

/-! ### a proposal, plainly -/
abbrev BkS := (Nat → Int → VS) × PS
def toB (n : Nat) (up : Nat → Bool) (i : Int) : Bool := decide (0 ≤ i ∧ i < (n : Int)) && up i.toNat
def prepS (n : Nat) (up : Nat → Bool) (ep ballot : Int) (st : BkS) (i : Int) : BkS :=
  if toB n up i = true then (updF st.1 i.toNat (prepF (st.1 i.toNat) ep ballot), st.2.promise i (decide ((st.1 i.toNat ep).p < ballot)) (st.1 i.toNat ep).b (st.1 i.toNat ep).t) else st
def accS (n : Nat) (up : Nat → Bool) (ep ballot : Int) (want : List UInt8) (st : BkS) (i : Int) : BkS :=
  if toB n up i = true then (updF st.1 i.toNat (accF (st.1 i.toNat) ep ballot want), st.2.accepted i (decide (0 ≤ ballot ∧ (st.1 i.toNat ep).p ≤ ballot))) else st
def prepP (n : Nat) (up : Nat → Bool) (f : Nat → Int → VS) (ep ballot : Int) (t : List UInt8) (l : List Int) : BkS := l.foldl (prepS n up ep ballot) (f, ⟨n, ballot, t, -1, [], [], 0, 0⟩)
def accP (n : Nat) (up : Nat → Bool) (ep ballot : Int) (st : BkS) (l : List Int) : BkS := if st.2.most st.2.yes then l.foldl (accS n up ep ballot st.2.t) st else st
def propP (n : Nat) (up : Nat → Bool) (f : Nat → Int → VS) (ep ballot : Int) (t : List UInt8) (l : List Int) : BkS := accP n up ep ballot (prepP n up f ep ballot t l) l
theorem fold_take {α β : Type} (g : β → α → β) (b : β) (l : List α) (k : Nat) (hk : k < l.length) : (l.take (k + 1)).foldl g b = g ((l.take k).foldl g b) l[k] := by
  rw [List.take_succ_eq_append_getElem hk, List.foldl_append]; rfl
theorem prep_n (n : Nat) (up : Nat → Bool) (ep ballot : Int) : ∀ (l : List Int) (st : BkS), (l.foldl (prepS n up ep ballot) st).2.n = st.2.n ∧ (l.foldl (prepS n up ep ballot) st).2.yes ≤ st.2.yes + l.length ∧ (l.foldl (prepS n up ep ballot) st).2.done = st.2.done
  | [], st => ⟨rfl, by simp, rfl⟩
  | i :: l, st => by
    obtain ⟨h1, h2, h3⟩ := prep_n n up ep ballot l (prepS n up ep ballot st i)
    rw [List.foldl_cons, List.length_cons]
    have : (prepS n up ep ballot st i).2.n = st.2.n ∧ (prepS n up ep ballot st i).2.yes ≤ st.2.yes + 1 ∧ (prepS n up ep ballot st i).2.done = st.2.done := by
      unfold prepS
      split
      · exact promise_n5 _ _ _ _ _
      · exact ⟨rfl, by omega, rfl⟩
    exact ⟨by rw [h1, this.1], by omega, by rw [h3, this.2.2]⟩
theorem acc_n (n : Nat) (up : Nat → Bool) (ep ballot : Int) (want : List UInt8) : ∀ (l : List Int) (st : BkS), (l.foldl (accS n up ep ballot want) st).2.n = st.2.n ∧ (l.foldl (accS n up ep ballot want) st).2.yes = st.2.yes ∧ (l.foldl (accS n up ep ballot want) st).2.done ≤ st.2.done + l.length ∧ (l.foldl (accS n up ep ballot want) st).2.t = st.2.t
  | [], st => ⟨rfl, rfl, by simp, rfl⟩
  | i :: l, st => by
    obtain ⟨h1, h2, h3, h4⟩ := acc_n n up ep ballot want l (accS n up ep ballot want st i)
    rw [List.foldl_cons, List.length_cons]
    have : (accS n up ep ballot want st i).2.n = st.2.n ∧ (accS n up ep ballot want st i).2.yes = st.2.yes ∧ (accS n up ep ballot want st i).2.done ≤ st.2.done + 1 ∧ (accS n up ep ballot want st i).2.t = st.2.t := by
      unfold accS
      split
      · exact accepted_n5 _ _ _
      · exact ⟨rfl, rfl, by omega, rfl⟩
    exact ⟨by rw [h1, this.1], by rw [h2, this.2.1], by omega, by rw [h4, this.2.2.2]⟩

/-! ### a proposal under way -/
structure PrP where
  rq : Nat
  rp : Nat
  ra : Nat
  r6 : Nat
  r8 : Nat
  c6 : List Value
  c8 : List Value
  asked : Slc
  l : List Int
structure PR (w0 w : World) (r : Nat) (x x2 : BkP) (up : Nat → Bool) (f2 : Nat → Int → VS) (pl : List PlS) (N2 : Nat) (z : PrP) (s2 : PS) : Prop where
  B : BkAt w r x2 up f2 pl N2
  n : x2.n = x.n ∧ x2.Y = x.Y
  P : PropAt w z.rq z.rp z.ra s2
  F : Foot (BkB r x) (BkB r x2) w0 w
  a : ∀ j, BkB r x2 j → ¬ PropM z.rq z.rp z.ra j ∧ j ≠ z.r6 ∧ j ≠ z.r8 ∧ (z.l ≠ [] → ¬ ownB z.asked j)
  pm : ∀ j, PropM z.rq z.rp z.ra j → w0.heap.size ≤ j ∧ j ≠ z.r6 ∧ j ≠ z.r8 ∧ ¬ x.Y j
  pa : z.l ≠ [] → ∀ j, ownB z.asked j → ¬ PropM z.rq z.rp z.ra j
  o6 : ObjAt w z.r6 z.c6
  o8 : ObjAt w z.r8 z.c8
  li : z.l ≠ [] → intsAt w z.asked z.l
section
variable {w0 w w' : World} {r : Nat} {x x2 : BkP} {up : Nat → Bool} {f2 : Nat → Int → VS} {pl : List PlS} {N2 : Nat} {z : PrP} {s2 : PS}
theorem PR.keep (h : PR w0 w r x x2 up f2 pl N2 z s2) (hk : Keep w w') : PR w0 w' r x x2 up f2 pl N2 z s2 :=
  ⟨h.B.keep hk, h.n, h.P.keep hk, h.F.keep hk, h.a, h.pm, h.pa, h.o6.keep hk, h.o8.keep hk, fun hl => intsAt_keep (h.li hl) hk⟩
theorem PR.seat (h : PR w0 w r x x2 up f2 pl N2 z s2) {i : Nat} (hi : i < x.n) {p' : SeatP} {f' : Int → VS} {N' : Nat} (ho : p'.o = (x2.ps i).o) (hs : SeatAt w' p' (up i) f' N') (hf : Foot (SeatB (x2.ps i)) (SeatB p') w w') (hN : N2 ≤ N') :
    ∃ x3, PR w0 w' r x x3 up (updF f2 i f') pl N' z s2 ∧ Foot (BkB r x2) (BkB r x3) w w' := by
  have hi2 : i < x2.n := by rw [h.n.1]; exact hi
  obtain ⟨h1, h2⟩ := h.B.seat hi2 ho hs hf hN
  have e : updF up i (up i) = up := by funext k; unfold updF; split <;> simp_all
  rw [e] at h1
  have sub : ∀ j, SeatB (x2.ps i) j → BkB r x2 j := fun j hj => .inr (.inr (.inr ⟨i, hi2, hj⟩))
  have lt := h.P.lt
  refine ⟨_, ⟨h1, h.n, h.P.ext hf.1 (fun j hj hh => (h.a j (sub j hh)).1 hj), h.F.trans h2, fun j hj => ?_, h.pm, h.pa, h.o6.ext hf.1 (fun hh => (h.a _ (sub _ hh)).2.1 rfl), h.o8.ext hf.1 (fun hh => (h.a _ (sub _ hh)).2.2.1 rfl), fun hl => intsAt_ext (h.li hl) hf.1 (fun j hj hh => (h.a j (sub j hh)).2.2.2 hl hj)⟩, h2⟩
  rcases h2.2 j hj with g | g
  · exact h.a j g
  · have l6 := h.o6.lt
    have l8 := h.o8.lt
    exact ⟨fun hh => by have := lt j hh; omega, by omega, by omega, fun hl hh => by have := intsAt_lt (h.li hl) hl j hh; omega⟩
theorem PR.prop (h : PR w0 w r x x2 up f2 pl N2 z s2) {s3 : PS} (hP : PropAt w' z.rq z.rp z.ra s3) (he : Ext (PropM z.rq z.rp z.ra) w w') : PR w0 w' r x x2 up f2 pl N2 z s3 := by
  refine ⟨h.B.ext he (fun j hj hh => (h.a j hj).1 hh) (fun j hj hh => (h.pm j hh).2.2.2 (by rw [← h.n.2]; exact hj)), h.n, hP, ?_, h.a, h.pm, h.pa, h.o6.ext he (fun hh => (h.pm _ hh).2.1 rfl), h.o8.ext he (fun hh => (h.pm _ hh).2.2.1 rfl), fun hl => intsAt_ext (h.li hl) he (fun j hj hh => h.pa hl j hj hh)⟩
  exact ⟨h.F.1.trans he (fun _ h => h) (fun j hj => .inr (h.pm j hj).1), h.F.2⟩
theorem PR.side (h : PR w0 w r x x2 up f2 pl N2 z s2) {r9 : Nat} (he : Ext (fun k => k = r9) w w') (h0 : w0.heap.size ≤ r9) (hb : ¬ BkB r x2 r9) (hy : ¬ x.Y r9) (hp : ¬ PropM z.rq z.rp z.ra r9) (h6 : r9 ≠ z.r6) (h8 : r9 ≠ z.r8) (hl : z.l ≠ [] → ¬ ownB z.asked r9) : PR w0 w' r x x2 up f2 pl N2 z s2 := by
  refine ⟨h.B.ext he (fun j hj hh => hb (by rw [← show j = r9 from hh]; exact hj)) (fun j hj hh => hy (by rw [← show j = r9 from hh, ← h.n.2]; exact hj)), h.n, h.P.ext he (fun j hj hh => hp (by rw [← show j = r9 from hh]; exact hj)), ⟨h.F.1.trans he (fun _ h => h) (fun j hj => .inr (by rw [show j = r9 from hj]; exact h0)), h.F.2⟩, h.a, h.pm, h.pa, h.o6.ext he (fun hh => h6 (show z.r6 = r9 from hh).symm), h.o8.ext he (fun hh => h8 (show z.r8 = r9 from hh).symm), fun hn => intsAt_ext (h.li hn) he (fun j hj hh => hl hn (by rw [← show j = r9 from hh]; exact hj))⟩
theorem PR.new (h : PR w0 w r x x2 up f2 pl N2 z s2) {k : Nat} (hk : w.heap.size ≤ k) : ¬ BkB r x2 k ∧ ¬ x.Y k ∧ ¬ PropM z.rq z.rp z.ra k ∧ k ≠ z.r6 ∧ k ≠ z.r8 ∧ (z.l ≠ [] → ¬ ownB z.asked k) := by
  have h6 := h.o6.lt
  have h8 := h.o8.lt
  exact ⟨fun hh => by have := h.B.lt k hh; omega, fun hh => by have := h.B.yb k (by rw [h.n.2]; exact hh); omega, fun hh => by have := h.P.lt k hh; omega, by omega, by omega, fun hl hh => by have := intsAt_lt (h.li hl) hl k hh; omega⟩
theorem PR.mono {N' : Nat} (h : PR w0 w r x x2 up f2 pl N2 z s2) (hN : N2 ≤ N') : PR w0 w r x x2 up f2 pl N' z s2 := ⟨h.B.mono hN, h.n, h.P, h.F, h.a, h.pm, h.pa, h.o6, h.o8, h.li⟩
end
theorem toB_true {n : Nat} {up : Nat → Bool} {i : Int} (h : toB n up i = true) : ∃ j : Nat, i = j ∧ j < n ∧ up j = true := by
  unfold toB at h
  rw [Bool.and_eq_true, decide_eq_true_eq] at h
  obtain ⟨⟨h1, h2⟩, h3⟩ := h
  exact ⟨i.toNat, by omega, by omega, h3⟩
end Go.D

set_option linter.unusedVariables false
set_option linter.unusedSimpArgs false
namespace Go.D
open Go Go.Proofs

section
variable {w : World} {r : Nat} {x : BkP} {up : Nat → Bool} {f : Nat → Int → VS} {pl : List PlS} {N : Nat}
/-- What a proposal comes to. -/
def PropOut (w : World) (r : Nat) (x : BkP) (up : Nat → Bool) (f : Nat → Int → VS) (pl : List PlS) (N : Nat) (ballot ep : Int) (cs : List (List Int)) (l : List Int) (csd : List (List Int)) (P : Prop) (q : Int) (t : Slc) (e' : Option Nat) (w' : World) : Prop :=
  ∃ x' f' pl', x'.n = x.n ∧ BkAt w' r x' up f' pl' (N + 2 * l.length) ∧ Foot (BkB r x) (BkB r x') w w' ∧ (∀ k, x'.Y k → x.Y k ∨ w.heap.size ≤ k) ∧
    ((¬ P ∧ (e' = some 3 ∨ e' = some 13) ∧ f' = f ∧ pl' = pl) ∨
     (P ∧ ¬ (propP x.n up f ep ballot (planB ep cs) l).2.most (propP x.n up f ep ballot (planB ep cs) l).2.done ∧ e' = some 11 ∧ f' = (propP x.n up f ep ballot (planB ep cs) l).1 ∧ pl' = pl) ∨
     (P ∧ (propP x.n up f ep ballot (planB ep cs) l).2.most (propP x.n up f ep ballot (planB ep cs) l).2.done ∧ e' = none ∧ f' = (propP x.n up f ep ballot (planB ep cs) l).1 ∧ q = ep ∧
       RightP ep csd ∧ (propP x.n up f ep ballot (planB ep cs) l).2.t = planB ep csd ∧ pl' = pl ++ [(ep, csd)] ∧ ChF w' t csd (fun k => w.heap.size ≤ k ∧ k < w'.heap.size)))
theorem bkPropose_spec (A : Nat → Addr) {n0 : Nat} (h : BkAt w r x up f pl N) (hN : N ≤ 2 ^ 20) (hn : 1 ≤ x.n ∧ x.n ≤ 5) (hpl : 0 < pl.length) (hpl2 : pl.length ≤ 2 ^ 20) (hE : ErrsB A n0 w) (hn0 : n0 ≤ w.heap.size) (hB : ∀ k, BkB r x k → n0 ≤ k) (hlat : (pl[pl.length - 1]'(by omega)).1 ≤ 2 ^ 40 ∧ 0 ≤ (pl[pl.length - 1]'(by omega)).1)
    (ballot ep : Int) (s : Slc) (cs : List (List Int)) (hC : Chs w s cs) (hcl : cs.length ≤ 2 ^ 40) (asked : Slc) (l : List Int) (hl : l.length ≤ 1000) (hal : asked.l = l.length) (ha : l ≠ [] → intsAt w asked l) (hab : l ≠ [] → ∀ j, ownB asked j → ¬ BkB r x j)
    (csd : List (List Int)) (hdec : RightP ep cs → 0 ≤ ballot → (propP x.n up f ep ballot (planB ep cs) l).2.most (propP x.n up f ep ballot (planB ep cs) l).2.done → RightP ep csd ∧ (propP x.n up f ep ballot (planB ep cs) l).2.t = planB ep csd) :
    Calls Tryd.prog fn_book_Book_Propose ⟨[ptrR' r, .int .i64 ballot, .agg ⟨[.int .i64 ep, s.v]⟩, asked.v]⟩ w fun e w' => ∃ (q : Int) (t : Slc) (e' : Option Nat), e = .returned (.tuple ⟨[.agg ⟨[.int .i64 q, t.v]⟩, errO A e']⟩) ∧ PropOut w r x up f pl N ballot ep cs l csd (RightP ep cs ∧ 0 ≤ ballot ∧ ep = (pl[pl.length - 1]'(by omega)).1 + 1) q t e' w' := by
  refine book_Book_Propose_ok _ _ _ _ _ ?_
  unfold book_Book_Propose
  refine newS_mk (fun r6 w7 hr6 hb6 k6 hs6 => newS_mk (fun r8 w9 hr8 hb8 k8 hs8 => ?_))
  have o6 := (ObjAt.new' hb6).keep k8
  have o8 := ObjAt.new' hb8
  have k9 := k6.trans k8
  have z7 := k6.size
  have z9 := k8.size
  refine ⟨_, _, o6.row, (PlanBytes_spec A ep s cs w9 (hC.keep k9) hcl (hE.keep k9)).mono ?_⟩
  rintro e w13 ⟨s14, eb, rfl, hb1, hb2, k13⟩
  have kk13 := k9.trans k13
  have lt := h.lt
  -- the answer of a call that fails
  have ans : ∀ {w5 w6 : World} {c : Nat}, Keep w w5 → ObjAt w5 r8 [.int .i64 0, (⟨none, 0, 0⟩ : Slc).v] → w6 = setCells w5 (⟨r8, 0, none⟩ : Addr) 0 [.int .i64 0, (⟨none, 0, 0⟩ : Slc).v] → ObjAt w6 r8 [.int .i64 0, (⟨none, 0, 0⟩ : Slc).v] ∧ Keep w w6 := by
    intro w5 w6 c hk ho hw
    obtain ⟨c1, c2⟩ := ho.setAll (n := 2) (cs := [.int .i64 0, (⟨none, 0, 0⟩ : Slc).v]) rfl rfl
    obtain ⟨o, e1, _⟩ := c2 w6 hw
    exact ⟨o, hk.ext e1 (fun k hk => by rw [show k = r8 from hk]; omega)⟩
  have can : ∀ {w5 : World}, ObjAt w5 r8 [.int .i64 0, (⟨none, 0, 0⟩ : Slc).v] → canW w5 (⟨r8, 0, none⟩ : Addr) 2 := fun ho => (ho.setAll (n := 2) (cs := [.int .i64 0, (⟨none, 0, 0⟩ : Slc).v]) rfl rfl).1
  have kd : ∀ w5 : World, Keep w5 (World.drew w5) := fun w5 => Ext.drew _ _
  refine ⟨_, _, rfl, fun w2 => Keep w13 w2 ∧ eb = none ∧ 0 ≤ ballot ∧ ep = (pl[pl.length - 1]'(by omega)).1 + 1, ⟨fun b w2 => b = (eb.isSome || decide (ballot < 0)) ∧ w2 = w13, ?_, ?_⟩, ?_⟩
  · refine ⟨errO_isI A _, BIf_mk (fun hh => ?_) (fun hh => ?_)⟩
    · rw [errO_nil] at hh
      exact ⟨by cases eb <;> simp_all, rfl⟩
    · rw [errO_nil] at hh
      exact ⟨by cases eb <;> simp_all, rfl⟩
  · rintro b w19 ⟨rfl, rfl⟩
    intros
    refine BIf_mk (fun hh => ?_) (fun hh => ?_)
    · have o5 := (o8.keep k13).keep (kd w19)
      have ke := kk13.trans (kd w19)
      refine ⟨_, errG_at (hE.keep ke).g 3 gl_ErrForm rfl (by decide), can o5, fun w27 hw27 => ?_⟩
      obtain ⟨o27, k27⟩ := ans (c := 0) ke o5 hw27
      refine ⟨⟨_, errG_at (hE.keep k27).g 3 gl_ErrForm rfl (by decide), rfl⟩, _, _, o27.row, _, _, some 3, rfl, x, f, pl, rfl, (h.keep k27).mono (by omega), k27.foot (Foot.refl _ _), fun k hk => .inl hk, .inl ⟨?_, .inl rfl, rfl, rfl⟩⟩
      rintro ⟨g1, g2, _⟩
      have := hb1.2 g1
      rw [this] at hh
      simp at hh; omega
    · have hen : eb = none ∧ 0 ≤ ballot := by cases eb <;> simp_all
      have ke := kk13.trans (kd w19)
      refine ⟨_, ((o6.keep k13).keep (kd w19)).cell 0 (by simp), (bklatest_spec (h.keep ke) hpl (by omega)).mono ?_⟩
      rintro e w33 ⟨sl, rfl, hCl, k33⟩
      have ke33 := ke.trans k33
      refine ⟨_, _, rfl, ⟨_, (((o6.keep k13).keep (kd w19)).keep k33).cell 0 (by simp), rfl⟩, inR64 (by omega), BIf_ndec (fun h1 => ?_) (fun h1 => ⟨(kd w19).trans k33, hen.1, hen.2, h1⟩)⟩
      have o5 := (((o8.keep k13).keep (kd w19)).keep k33).keep (kd w33)
      have ke2 := ke33.trans (kd w33)
      refine ⟨_, errG_at (hE.keep ke2).g 13 gl_ErrEpoch rfl (by decide), can o5, fun w38 hw38 => ?_⟩
      obtain ⟨o38, k38⟩ := ans (c := 0) ke2 o5 hw38
      exact ⟨⟨_, errG_at (hE.keep k38).g 13 gl_ErrEpoch rfl (by decide), rfl⟩, _, _, o38.row, _, _, some 13, rfl, x, f, pl, rfl, (h.keep k38).mono (by omega), k38.foot (Foot.refl _ _), fun k hk => .inl hk, .inl ⟨fun g => h1 g.2.2, .inr rfl, rfl, rfl⟩⟩
  rintro w42 ⟨k42, hen, hbal, hep⟩
  intros
  have hr : RightP ep cs := hb1.1 hen
  have kA := (kk13.trans k42).trans (kd w42)
  have hA := h.keep kA
  have o6A := ((o6.keep k13).keep k42).keep (kd w42)
  have o8A := ((o8.keep k13).keep k42).keep (kd w42)
  have hsl := hA.sl
  refine needSome_mk rfl ⟨_, hA.c0, _, o6A.cell 0 (by simp), _, bytesAt_keep (bytesAt_keep (hb2 hen) k42) (kd w42), ?_⟩
  rw [hsl]
  refine (voteNew_good (x.n : Int) ep ballot (planB ep cs) _ (by omega) hbal).mono ?_
  rintro e w68 ⟨k68, rq, rp, ra, rfl, hP, hPM⟩
  have kB := kA.trans k68
  have zA := kA.size
  have z42 := (k9.trans (k13.trans k42)).size
  have z13 := k13.size
  have z4 := k42.size
  have zd : (World.drew w42).heap.size = w42.heap.size := rfl
  have P0 : PR w w68 r x x up f pl N ⟨rq, rp, ra, r6, r8, [.int .i64 ep, s.v], [.int .i64 0, (⟨none, 0, 0⟩ : Slc).v], asked, l⟩ ⟨x.n, ballot, planB ep cs, -1, [], [], 0, 0⟩ := by
    refine ⟨h.keep kB, ⟨rfl, rfl⟩, hP, kB.foot (Foot.refl _ _), fun j hj => ⟨fun hh => ?_, ?_, ?_, fun hl hh => hab hl j hh hj⟩, fun j hj => ⟨?_, ?_, ?_, fun hh => ?_⟩, fun hl j hj hh => ?_, o6A.keep k68, o8A.keep k68, fun hl => intsAt_keep (ha hl) kB⟩
    · have := hPM j hh; have := lt j hj; omega
    · have := lt j hj; show j ≠ r6; omega
    · have := lt j hj; show j ≠ r8; omega
    · have := hPM j hj; omega
    · have := hPM j hj; show j ≠ r6; omega
    · have := hPM j hj; show j ≠ r8; omega
    · have := hPM j hj; have := h.yb j hh; omega
    · have := hPM j hh; have := intsAt_lt (ha hl) hl j hj; omega
  refine ⟨_, _, rfl, trivial, BIf_mk (fun hh => by cases hh) (fun _ => ?_)⟩
  -- the promises
  generalize hz : (⟨rq, rp, ra, r6, r8, [.int .i64 ep, s.v], [.int .i64 0, (⟨none, 0, 0⟩ : Slc).v], asked, l⟩ : PrP) = z at P0
  have zq : z.rq = rq ∧ z.rp = rp ∧ z.ra = ra ∧ z.r6 = r6 ∧ z.r8 = r8 ∧ z.c6 = [.int .i64 ep, s.v] ∧ z.c8 = [.int .i64 0, (⟨none, 0, 0⟩ : Slc).v] ∧ z.asked = asked ∧ z.l = l := by subst hz; exact ⟨rfl, rfl, rfl, rfl, rfl, rfl, rfl, rfl, rfl⟩
  obtain ⟨zq1, zq2, zq3, zq4, zq5, zq6, zq7, zq8, zq9⟩ := zq
  have pO6 : ∀ {w2 x2 f2 N2 s2}, PR w w2 r x x2 up f2 pl N2 z s2 → ObjAt w2 r6 [.int .i64 ep, s.v] := fun h2 => by have := h2.o6; rw [zq4, zq6] at this; exact this
  have pO8 : ∀ {w2 x2 f2 N2 s2}, PR w w2 r x x2 up f2 pl N2 z s2 → ObjAt w2 r8 [.int .i64 0, (⟨none, 0, 0⟩ : Slc).v] := fun h2 => by have := h2.o8; rw [zq5, zq7] at this; exact this
  have pP : ∀ {w2 x2 f2 N2 s2}, PR w w2 r x x2 up f2 pl N2 z s2 → PropAt w2 rq rp ra s2 := fun h2 => by have := h2.P; rw [zq1, zq2, zq3] at this; exact this
  have pI : ∀ {w2 x2 f2 N2 s2}, PR w w2 r x x2 up f2 pl N2 z s2 → l ≠ [] → intsAt w2 asked l := fun h2 hl => by have := h2.li; rw [zq8, zq9] at this; exact this hl
  have pS : ∀ {w2 w3 x2 f2 N2 s2 s3}, PR w w2 r x x2 up f2 pl N2 z s2 → PropAt w3 rq rp ra s3 → Ext (PropM rq rp ra) w2 w3 → PR w w3 r x x2 up f2 pl N2 z s3 := fun h2 hp he => h2.prop (by rw [zq1, zq2, zq3]; exact hp) (by rw [zq1, zq2, zq3]; exact he)
  refine ⟨fun i w2 => ∃ (k : Nat) (x2 : BkP), i = k ∧ k ≤ l.length ∧ PR w w2 r x x2 up (prepP x.n up f ep ballot (planB ep cs) (l.take k)).1 pl (N + k) z (prepP x.n up f ep ballot (planB ep cs) (l.take k)).2, fun i _ => ((l.length : Int) - i).toNat, ⟨0, x, rfl, by omega, by simpa [prepP] using P0⟩, ?_⟩
  rintro i w77 ⟨k, x2, rfl, hk, hR⟩
  intros
  refine BIf_dec (fun h0 => ?_) (fun h0 => ?_)
  · have hkl : k < l.length := by omega
    have hlne : l ≠ [] := fun e => by rw [e] at hkl; simp at hkl
    obtain ⟨a, hpa, hca⟩ := intsAt_cell (pI hR hlne) hkl
    have hpn := prep_n x.n up ep ballot (l.take k) (f, ⟨x.n, ballot, planB ep cs, -1, [], [], 0, 0⟩)
    have hyes : (prepP x.n up f ep ballot (planB ep cs) (l.take k)).2.yes ≤ 2 ^ 20 := by
      have h9 := hpn.2.1
      have h8 : (l.take k).length ≤ l.length := by simp; omega
      unfold prepP
      simp only at h9; omega
    have hnext : prepP x.n up f ep ballot (planB ep cs) (l.take (k + 1)) = prepS x.n up ep ballot (prepP x.n up f ep ballot (planB ep cs) (l.take k)) l[k] := by
      unfold prepP; exact fold_take _ _ _ _ hkl
    generalize hst : prepP x.n up f ep ballot (planB ep cs) (l.take k) = st at hR hyes hnext
    generalize hv : l[k] = v at hnext hca
    refine needSome_mk hpa ⟨by omega, h0, v, by rw [show Int.toNat (k : Int) * 1 = k by omega]; exact hca, fun b w2 => b = toB x.n up v ∧ w2 = w77, ?_, ?_⟩
    · refine (bkHas_spec hR.B v).mono ?_
      rintro e w123 ⟨rfl, rfl⟩
      rw [hR.n.1]
      refine ⟨_, rfl, BIf_dec (fun h1 => ?_) (fun h1 => ⟨by unfold toB; rw [decide_eq_false h1]; rfl, rfl⟩)⟩
      have hj : v.toNat < x2.n := by rw [hR.n.1]; omega
      obtain ⟨a1, hp1, hc1⟩ := hR.B.seatC hj
      have hsl2 := hR.B.sl
      refine needSome_mk rfl ⟨_, hR.B.c0, needSome_mk hp1 ⟨h1.1, by rw [hsl2, hR.n.1]; exact h1.2, _, hc1, needSome_mk rfl ⟨_, by rw [add_lit]; exact (hR.B.st _ hj).o.cell 1 (by simp), ?_, rfl⟩⟩⟩
      unfold toB; rw [decide_eq_true h1]; rfl
    · rintro b w132 ⟨rfl, rfl⟩
      intros
      refine BIf_mk (fun h1 => ?_) (fun h1 => ?_)
      · obtain ⟨j, rfl, hjn, hju⟩ := toB_true h1
        have hRd := hR.keep (kd w132)
        have hj2 : j < x2.n := by rw [hR.n.1]; exact hjn
        obtain ⟨a1, hp1, hc1⟩ := hRd.B.seatC hj2
        have hsl2 := hRd.B.sl
        have hs2 : prepS x.n up ep ballot st (j : Int) = (updF st.1 j (prepF (st.1 j) ep ballot), st.2.promise (j : Int) (decide ((st.1 j ep).p < ballot)) (st.1 j ep).b (st.1 j ep).t) := by
          unfold prepS; rw [if_pos h1, Int.toNat_natCast]
        rw [hs2] at hnext
        refine needSome_mk rfl ⟨_, hRd.B.c0, needSome_mk hp1 ⟨by omega, by rw [hsl2]; omega, _, by rw [Int.toNat_natCast]; exact hc1, _, (pO6 hRd).cell 0 (by simp), ?_, ?_⟩⟩
        · refine (doPrep_spec (hRd.B.st j hj2) (by omega) ep ballot []).mono ?_
          rintro e w153 ⟨rfl, p', hpo, hsp, hfp⟩
          obtain ⟨x3, hR3, f3⟩ := hRd.seat hjn hpo hsp hfp (by omega)
          refine ⟨_, _, _, _, rfl, var_mk (cs := [.bool (decide ((st.1 j ep).p < ballot)), .int .i64 (st.1 j ep).b, strV (st.1 j ep).t]) rfl rfl (fun r158 w160 hr158 o158 k158 hs158 => ⟨_, _, _, o158.row, (Promise_spec rq rp ra _ (j : Int) _ _ _ w160 (pP (hR3.keep k158)) (by omega)).mono ?_⟩)⟩
          rintro e w165 ⟨rfl, hP5, x5⟩
          refine ⟨_, rfl, inR64 (by omega), ⟨k + 1, x3, rfl, hkl, ?_⟩, by dsimp only; omega⟩
          rw [hnext]
          exact (pS (hR3.keep k158) hP5 x5).mono (by omega)
        · refine newS_mk (fun r167 w168 hr167 hb167 k167 hs167 => ?_)
          have o167 := ObjAt.new' hb167
          have hR8 := hRd.keep k167
          refine ⟨⟨_, (pO6 hR8).cell 0 (by simp), rfl⟩, ⟨_, by rw [Int.toNat_natCast]; exact k167.cell hc1, rfl⟩, ⟨_, hR8.B.c0, rfl⟩, ?_⟩
          refine (doPrep_spec (hR8.B.st j hj2) (by omega) ep ballot []).mono ?_
          rintro e w173 ⟨rfl, p', hpo, hsp, hfp⟩
          obtain ⟨x3, hR3, f3⟩ := hR8.seat hjn hpo hsp hfp (by omega)
          have hlt := hRd.B.lt
          have o173 := o167.ext hfp.1 (fun hh => by have := hlt r167 (.inr (.inr (.inr ⟨j, hj2, hh⟩))); omega)
          obtain ⟨c1, c2⟩ := o173.setAll (n := 3) (cs := [.bool (decide ((st.1 j ep).p < ballot)), .int .i64 (st.1 j ep).b, strV (st.1 j ep).t]) rfl rfl
          refine ⟨_, _, _, _, rfl, c1, fun w178 hw178 => ?_⟩
          obtain ⟨o178, e178, _⟩ := c2 w178 hw178
          obtain ⟨n1, n2, n3, n4, n5, n6⟩ := hRd.new (k := r167) (by omega)
          have hrb : w.heap.size ≤ r167 := by have h1 := hRd.F.1.size; omega
          have hR9 := hR3.side e178 hrb (fun hh => (f3.2 _ hh).elim n1 (fun g => by omega)) n2 n3 n4 n5 n6
          refine ⟨_, _, _, o178.row, (Promise_spec rq rp ra _ (j : Int) _ _ _ w178 (pP hR9) (by omega)).mono ?_⟩
          rintro e w183 ⟨rfl, hP5, x5⟩
          refine ⟨_, rfl, inR64 (by omega), ⟨k + 1, x3, rfl, hkl, ?_⟩, by dsimp only; omega⟩
          rw [hnext]
          exact (pS hR9 hP5 x5).mono (by omega)
      · refine ⟨inR64 (by omega), ⟨k + 1, x2, rfl, hkl, ?_⟩, by dsimp only; omega⟩
        have hs2 : prepS x.n up ep ballot st v = st := by unfold prepS; rw [if_neg (by rw [h1]; decide)]
        rw [hnext, hs2]
        exact hR.mono (by omega)
  · have hkl : k = l.length := by omega
    subst hkl
    rw [List.take_length] at hR
    have hpn := prep_n x.n up ep ballot l (f, ⟨x.n, ballot, planB ep cs, -1, [], [], 0, 0⟩)
    have hyes : (prepP x.n up f ep ballot (planB ep cs) l).2.yes ≤ 2 ^ 20 ∧ (prepP x.n up f ep ballot (planB ep cs) l).2.done = 0 := by
      have h9 := hpn.2.1
      have h8 := hpn.2.2
      unfold prepP
      simp only at h9 h8; exact ⟨by omega, h8⟩
    have hprop : propP x.n up f ep ballot (planB ep cs) l = accP x.n up ep ballot (prepP x.n up f ep ballot (planB ep cs) l) l := rfl
    generalize hst : prepP x.n up f ep ballot (planB ep cs) l = s1 at hR hyes hprop
    refine (Asks_spec rq rp ra s1.2 w77 (pP hR) (by omega)).mono ?_
    rintro e w186 ⟨rfl, rfl⟩
    -- the acceptances
    have hacc0 : ∀ k, s1.2.most s1.2.yes → ((l.take k).foldl (accS x.n up ep ballot s1.2.t) s1) = accP x.n up ep ballot s1 (l.take k) := fun k hm => by unfold accP; rw [if_pos hm]
    refine ⟨_, _, rfl, fun i w2 => ∃ (k : Nat) (x2 : BkP), i = k ∧ k ≤ l.length ∧ PR w w2 r x x2 up (accP x.n up ep ballot s1 (l.take k)).1 pl (N + l.length + k) z (accP x.n up ep ballot s1 (l.take k)).2, fun i _ => ((l.length : Int) - i).toNat, ⟨0, x2, rfl, by omega, ?_⟩, ?_⟩
    · have : accP x.n up ep ballot s1 (l.take 0) = s1 := by unfold accP; split <;> simp
      rw [this]; exact hR
    rintro i w192 ⟨k, x2, rfl, hk, hR⟩
    intros
    refine BIf_dec (fun h0 => ?_) (fun h0 => ?_)
    · have hkl : k < l.length := by omega
      have hlne : l ≠ [] := fun e => by rw [e] at hkl; simp at hkl
      obtain ⟨a, hpa, hca⟩ := intsAt_cell (pI hR hlne) hkl
      generalize hv : l[k] = v at hca
      refine needSome_mk hpa ⟨by omega, h0, v, by rw [show Int.toNat (k : Int) * 1 = k by omega]; exact hca, fun b w2 => b = (decide (s1.2.most s1.2.yes) && toB x.n up v) ∧ w2 = w192, BIf_dec (fun hm => ?_) (fun hm => ⟨by rw [decide_eq_false hm]; rfl, rfl⟩), ?_⟩
      · refine (bkHas_spec hR.B v).mono ?_
        rintro e w242 ⟨rfl, rfl⟩
        rw [hR.n.1, decide_eq_true hm, Bool.true_and]
        refine ⟨_, rfl, BIf_dec (fun h1 => ?_) (fun h1 => ⟨by unfold toB; rw [decide_eq_false h1]; rfl, rfl⟩)⟩
        have hj : v.toNat < x2.n := by rw [hR.n.1]; omega
        obtain ⟨a1, hp1, hc1⟩ := hR.B.seatC hj
        have hsl2 := hR.B.sl
        refine needSome_mk rfl ⟨_, hR.B.c0, needSome_mk hp1 ⟨h1.1, by rw [hsl2, hR.n.1]; exact h1.2, _, hc1, needSome_mk rfl ⟨_, by rw [add_lit]; exact (hR.B.st _ hj).o.cell 1 (by simp), ?_, rfl⟩⟩⟩
        unfold toB; rw [decide_eq_true h1]; rfl
      · rintro b w251 ⟨rfl, rfl⟩
        intros
        refine BIf_mk (fun h1 => ?_) (fun h1 => ?_)
        · rw [Bool.and_eq_true, decide_eq_true_eq] at h1
          obtain ⟨hm, h1⟩ := h1
          have hnext : accP x.n up ep ballot s1 (l.take (k + 1)) = accS x.n up ep ballot s1.2.t (accP x.n up ep ballot s1 (l.take k)) v := by
            rw [← hacc0 _ hm, ← hacc0 _ hm, fold_take _ _ _ _ hkl, hv]
          have hbd : (accP x.n up ep ballot s1 (l.take k)).2.yes ≤ 2 ^ 20 ∧ (accP x.n up ep ballot s1 (l.take k)).2.done ≤ 2 ^ 20 := by
            rw [← hacc0 _ hm]
            obtain ⟨g1, g2, g3, g4⟩ := acc_n x.n up ep ballot s1.2.t (l.take k) s1
            have h8 : (l.take k).length ≤ l.length := by simp; omega
            omega
          generalize hst2 : accP x.n up ep ballot s1 (l.take k) = st at hR hnext hbd
          obtain ⟨j, rfl, hjn, hju⟩ := toB_true h1
          have hRd := hR.keep (kd w251)
          have hj2 : j < x2.n := by rw [hR.n.1]; exact hjn
          obtain ⟨a1, hp1, hc1⟩ := hRd.B.seatC hj2
          have hsl2 := hRd.B.sl
          have hs2 : accS x.n up ep ballot s1.2.t st (j : Int) = (updF st.1 j (accF (st.1 j) ep ballot s1.2.t), st.2.accepted (j : Int) (decide (0 ≤ ballot ∧ (st.1 j ep).p ≤ ballot))) := by
            unfold accS; rw [if_pos h1, Int.toNat_natCast]
          rw [hs2] at hnext
          rw [if_pos hm]
          refine needSome_mk rfl ⟨_, hRd.B.c0, needSome_mk hp1 ⟨by omega, by rw [hsl2]; omega, _, by rw [Int.toNat_natCast]; exact hc1, _, (pO6 hRd).cell 0 (by simp), ?_, ?_⟩⟩
          · refine (doAcc_spec (hRd.B.st j hj2) (by omega) ep ballot s1.2.t).mono ?_
            rintro e w275 ⟨rfl, p', hpo, hsp, hfp⟩
            obtain ⟨x3, hR3, f3⟩ := hRd.seat hjn hpo hsp hfp (by omega)
            refine ⟨_, _, [], _, rfl, var_mk (cs := [.bool false, .int .i64 0, strV []]) rfl rfl (fun r280 w282 hr280 o280 k280 hs280 => ?_)⟩
            refine (Accepted_spec rq rp ra _ (j : Int) _ w282 (pP (hR3.keep k280)) (by omega)).mono ?_
            rintro e w284 ⟨rfl, hP5, x5⟩
            refine ⟨_, rfl, inR64 (by omega), ⟨k + 1, x3, rfl, hkl, ?_⟩, by dsimp only; omega⟩
            rw [hnext]
            exact (pS (hR3.keep k280) hP5 x5).mono (by omega)
          · refine newS_mk (fun r286 w287 hr286 hb286 k286 hs286 => ?_)
            have o286 := ObjAt.new' hb286
            have hR8 := hRd.keep k286
            refine ⟨⟨_, (pO6 hR8).cell 0 (by simp), rfl⟩, ⟨_, by rw [Int.toNat_natCast]; exact k286.cell hc1, rfl⟩, ⟨_, hR8.B.c0, rfl⟩, ?_⟩
            refine (doAcc_spec (hR8.B.st j hj2) (by omega) ep ballot s1.2.t).mono ?_
            rintro e w292 ⟨rfl, p', hpo, hsp, hfp⟩
            obtain ⟨x3, hR3, f3⟩ := hR8.seat hjn hpo hsp hfp (by omega)
            have hlt := hRd.B.lt
            have o292 := o286.ext hfp.1 (fun hh => by have := hlt r286 (.inr (.inr (.inr ⟨j, hj2, hh⟩))); omega)
            obtain ⟨c1, c2⟩ := o292.setAll (n := 3) (cs := [.bool false, .int .i64 0, strV []]) rfl rfl
            refine ⟨_, _, [], _, rfl, c1, fun w297 hw297 => ?_⟩
            obtain ⟨o297, e297, _⟩ := c2 w297 hw297
            obtain ⟨n1, n2, n3, n4, n5, n6⟩ := hRd.new (k := r286) (by omega)
            have hrb : w.heap.size ≤ r286 := by have h1 := hRd.F.1.size; omega
            have hR9 := hR3.side e297 hrb (fun hh => (f3.2 _ hh).elim n1 (fun g => by omega)) n2 n3 n4 n5 n6
            refine (Accepted_spec rq rp ra _ (j : Int) _ w297 (pP hR9) (by omega)).mono ?_
            rintro e w299 ⟨rfl, hP5, x5⟩
            refine ⟨_, rfl, inR64 (by omega), ⟨k + 1, x3, rfl, hkl, ?_⟩, by dsimp only; omega⟩
            rw [hnext]
            exact (pS hR9 hP5 x5).mono (by omega)
        · refine ⟨inR64 (by omega), ⟨k + 1, x2, rfl, hkl, ?_⟩, by dsimp only; omega⟩
          have hnext : accP x.n up ep ballot s1 (l.take (k + 1)) = accP x.n up ep ballot s1 (l.take k) := by
            by_cases hm : s1.2.most s1.2.yes
            · rw [← hacc0 _ hm, ← hacc0 _ hm, fold_take _ _ _ _ hkl, hv]
              have h2 : toB x.n up v = false := by rw [decide_eq_true hm, Bool.true_and] at h1; exact h1
              unfold accS
              rw [if_neg (by rw [h2]; decide)]
            · unfold accP; rw [if_neg hm, if_neg hm]
          rw [hnext]
          exact hR.mono (by omega)
    · have hkl : k = l.length := by omega
      subst hkl
      rw [List.take_length] at hR
      rw [hprop] at hdec
      have hbd : (accP x.n up ep ballot s1 l).2.done ≤ 2 ^ 20 := by
        unfold accP
        split
        · obtain ⟨g1, g2, g3, g4⟩ := acc_n x.n up ep ballot s1.2.t l s1
          omega
        · omega
      have hout : propP x.n up f ep ballot (planB ep cs) l = accP x.n up ep ballot s1 l := hprop
      generalize hst2 : accP x.n up ep ballot s1 l = s3 at hR hbd hdec hout
      refine (Decided_spec rq rp ra s3.2 w192 (pP hR) (by omega)).mono ?_
      rintro e w302 ⟨rfl, rfl⟩
      have hBF : ∀ {w5}, Keep w302 w5 → ErrsB A n0 w5 := fun hk => (hE.ext hR.F.1 hB).keep hk
      have zF := hR.F.1.size
      refine ⟨_, _, rfl, BIf_ndec (fun h1 => ?_) (fun h1 => ?_)⟩
      · have k1 := kd w302
        have o5 := (pO8 hR).keep k1
        obtain ⟨c1, c2⟩ := o5.setAll (n := 2) (cs := [.int .i64 0, (⟨none, 0, 0⟩ : Slc).v]) rfl rfl
        refine ⟨_, errG_at (hBF k1).g 11 gl_ErrDown rfl (by decide), c1, fun w306 hw306 => ?_⟩
        obtain ⟨o306, e306, _⟩ := c2 w306 hw306
        have hr8 : ∀ j, BkB r x2 j → ¬ j = r8 := fun j hj hh => (hR.a j hj).2.2.1 (by rw [zq5]; exact hh)
        have hy8 : ∀ j, x.Y j → ¬ j = r8 := fun j hj hh => by have := h.yb j hj; omega
        have hB6 := (hR.B.keep k1).ext e306 (fun j hj hh => hr8 j hj hh) (fun j hj hh => hy8 j (by rw [← hR.n.2]; exact hj) hh)
        have k306 : Foot (BkB r x) (BkB r x2) w w306 := ⟨(hR.F.1.trans k1 (fun _ h => h) (fun _ h => h.elim)).trans e306 (fun _ h => h) (fun j hj => .inr (by rw [show j = r8 from hj]; omega)), hR.F.2⟩
        refine ⟨⟨_, errG_at (hE.ext k306.1 hB).g 11 gl_ErrDown rfl (by decide), rfl⟩, _, _, o306.row, _, _, some 11, rfl, x2, s3.1, pl, hR.n.1, hB6.mono (by omega), k306, fun j hj => .inl (by rw [← hR.n.2]; exact hj), .inr (.inl ?_)⟩
        rw [hout]
        exact ⟨⟨hr, hbal, hep⟩, h1, rfl, rfl, rfl⟩
      · obtain ⟨hr', ht'⟩ := hdec hr hbal h1
        rw [if_pos h1, ht']
        have hpl' := planB_len hr'
        refine bytesK_mk (fun s310 w311 hb311 hc311 hf311 k311 => ?_)
        refine (PlanRead_spec A ep s310 csd w311 hr' hb311 (hBF k311) (by have := k311.size; omega)).mono ?_
        rintro e w313 ⟨t, rfl, hCt, k313⟩
        have k1 := k311.trans k313
        refine ⟨_, _, _, rfl, var_mk (cs := [.int .i64 ep, t.v]) rfl rfl (fun r317 w319 hr317 o317 k319 hs319 => ⟨trivial, BIf_mk (fun hh => by cases hh) (fun _ => ?_)⟩)⟩
        have k2 := k1.trans k319
        have kdd := kd w319
        have k3 := k2.trans kdd
        have hR3 := hR.keep k3
        refine needSome_mk rfl ⟨_, hR3.B.c1, _, _, (o317.keep kdd).row, newS_mk (fun r327 w328 hr327 hb327 k328 hs328 => ⟨⟨_, (hR3.keep k328).B.c1, rfl⟩, ?_⟩)⟩
        have hR8 := hR3.keep k328
        have hC8 := ((hCt.keep k319).keep kdd).keep k328
        have z192 := hR.B.lt
        have z311 := k311.size
        have z313 := k313.size
        have z319 := k319.size
        have zdd : (World.drew w319).heap.size = w319.heap.size := rfl
        have z328 := k328.size
        refine hR8.B.addPlan hC8 (fun q hq => ⟨by omega, fun hh => by have := z192 q hh; omega⟩) hb327 (by omega) (fun s330 w331 hK => needSome_mk rfl ⟨hK.1, fun w333 hw333 => ?_⟩)
        obtain ⟨B333, f333⟩ := hK.2 w333 hw333
        have hlt8 := hR8.B.lt
        have o317' := ((o317.keep kdd).keep k328).ext f333.1 (fun hh => by have := z192 r317 hh; omega)
        have o8' := (pO8 hR8).ext f333.1 (fun hh => (hR8.a _ hh).2.2.1 (by rw [zq5]))
        have hC9 := hC8.ext f333.1 (fun q hq hh => by have := z192 q hh; omega)
        obtain ⟨v1, v2, v3, v4⟩ := hr'
        refine ⟨_, _, o317'.row, (Copy_spec ep t csd w333 hC9.chs (by omega) (fun c hc => by have := (v3 c hc).2.1; omega)).mono ?_⟩
        rintro e w337 ⟨t2, ts2, rfl, hO, hBt, k337⟩
        obtain ⟨c1, c2⟩ := (o8'.keep k337).setAll (n := 2) (cs := [.int .i64 ep, t2.v]) rfl rfl
        refine ⟨_, _, rfl, c1, fun w340 hw340 => ?_⟩
        obtain ⟨o340, e340, z340⟩ := c2 w340 hw340
        have z333 := f333.1.size
        have z337 := k337.size
        have olt := hO.lt
        have hr8 : ∀ j, BkB r x2 j → ¬ j = r8 := fun j hj hh => (hR.a j hj).2.2.1 (by rw [zq5]; exact hh)
        have zF8 : r8 < w302.heap.size := (pO8 hR).lt
        have hx3 : ∀ j, BkB r { x2 with pp := s330, ql := x2.ql ++ [(ep, t)], Y := fun k => x2.Y k ∨ (w311.heap.size ≤ k ∧ k < w313.heap.size) } j → ¬ j = r8 := fun j hj hh => by
          rcases f333.2 j hj with g | g
          · exact hr8 j g hh
          · omega
        have F340 : Foot (BkB r x) (BkB r { x2 with pp := s330, ql := x2.ql ++ [(ep, t)], Y := fun k => x2.Y k ∨ (w311.heap.size ≤ k ∧ k < w313.heap.size) }) w w340 := by
          have g := (hR.F.trans ((k3.trans k328).foot f333)).keep k337
          exact ⟨g.1.trans e340 (fun _ h => h) (fun j hj => .inr (by rw [show j = r8 from hj]; omega)), g.2⟩
        refine ⟨_, _, o340.row, ep, t2, none, rfl, { x2 with pp := s330, ql := x2.ql ++ [(ep, t)], Y := fun k => x2.Y k ∨ (w311.heap.size ≤ k ∧ k < w313.heap.size) }, s3.1, pl ++ [(ep, csd)], hR.n.1, ((B333.keep k337).ext e340 (fun j hj hh => hx3 j hj hh) (fun j hj hh => ?_)).mono (by omega), F340, fun j hj => ?_, .inr (.inr ?_)⟩
        · have h9 : j = r8 := hh
          rcases hj with hj | hj
          · have := h.yb j (by rw [← hR.n.2]; exact hj); omega
          · have := hj.1; omega
        · rcases hj with hj | hj
          · exact .inl (by rw [← hR.n.2]; exact hj)
          · exact .inr (by have := hj.1; omega)
        · rw [hout]
          refine ⟨⟨hr, hbal, hep⟩, h1, rfl, rfl, rfl, ⟨v1, v2, v3, v4⟩, ht', rfl, ?_⟩
          exact ((ChF.of hO).ext e340 (fun j hj hh => by have := hBt j hj; have h9 : j = r8 := hh; omega)).mono (fun j hj => ⟨by have := hBt j hj; omega, by have := olt j hj; omega⟩)
end
end Go.D

set_option linter.unusedVariables false
set_option linter.unusedSimpArgs false
namespace Go.D
open Go Go.Proofs

def eN : Option Nat → Int
  | none => 0
  | some k => ((k + 1 : Nat) : Int)
theorem numO_spec8 (A : Nat → Addr) (e' : Option Nat) (h : ∀ k, e' = some k → k < 19) (w : World) (hE : Errs A w) : Calls Tryd.prog fn_tidewaternum_Num ⟨[errO A e']⟩ w fun e w' => e = .returned (.int .i64 (eN e')) ∧ Keep w w' := by
  cases e' with
  | none =>
    refine (Num_nil w).mono ?_
    rintro e w' ⟨rfl, rfl⟩
    exact ⟨rfl, Ext.refl _ _⟩
  | some k => exact Num_spec A k (h k rfl) w hE
/-! ### the parameters -/
theorem wrapU_nn8 (n : Int) : 0 ≤ IntKind.wrap .u64 n := by
  simp [IntKind.wrap, IntKind.signed, IntKind.bits]; omega
theorem mod_wrap8 (n : Int) (c : Nat) (hc : 0 < c) (hc2 : c ≤ 2 ^ 20) : ∃ m : Nat, m < c ∧ IntKind.wrap .i64 ((IntKind.wrap .u64 n) % (c : Int)) = (m : Int) ∧ 0 ≤ IntKind.wrap .u64 n := by
  have hu : 0 ≤ IntKind.wrap .u64 n := wrapU_nn8 n
  generalize IntKind.wrap .u64 n = u at hu
  have h1 := Int.emod_nonneg u (show (c : Int) ≠ 0 by omega)
  have h2 := Int.emod_lt_of_pos u (show (0 : Int) < (c : Int) by omega)
  obtain ⟨m, hm⟩ : ∃ m : Nat, u % (c : Int) = m := ⟨(u % (c : Int)).toNat, by omega⟩
  refine ⟨m, by omega, ?_, hu⟩
  rw [hm]
  exact wrap_inR (inR64 (by omega))
end Go.D

set_option linter.unusedVariables false
set_option linter.unusedSimpArgs false
namespace Go.D
open Go Go.Proofs

/-! ### a first ballot -/
def up5 (b0 b1 b2 b3 b4 : Bool) : Nat → Bool
  | 0 => b0
  | 1 => b1
  | 2 => b2
  | 3 => b3
  | 4 => b4
  | _ => false
def fresh5 : Nat → Int → VS := fun _ _ => VS.new
theorem half1 (b0 b1 b2 b3 b4 : Bool) (t : List UInt8) : ∀ n, 1 ≤ n → n ≤ 5 → (propP n (up5 b0 b1 b2 b3 b4) fresh5 1 0 t [0, 1, 2, 3, 4]).2.done = (if n < 2 * upN (up5 b0 b1 b2 b3 b4) n then upN (up5 b0 b1 b2 b3 b4) n else 0) ∧ (propP n (up5 b0 b1 b2 b3 b4) fresh5 1 0 t [0, 1, 2, 3, 4]).2.t = t ∧ (propP n (up5 b0 b1 b2 b3 b4) fresh5 1 0 t [0, 1, 2, 3, 4]).2.n = n := by
  intro n h1 h5
  match n, h1, h5 with
  | 1, _, _ => cases b0 <;> exact ⟨by kernel_rfl, by kernel_rfl, by kernel_rfl⟩
  | 2, _, _ => cases b0 <;> cases b1 <;> exact ⟨by kernel_rfl, by kernel_rfl, by kernel_rfl⟩
  | 3, _, _ => cases b0 <;> cases b1 <;> cases b2 <;> exact ⟨by kernel_rfl, by kernel_rfl, by kernel_rfl⟩
  | 4, _, _ => cases b0 <;> cases b1 <;> cases b2 <;> cases b3 <;> exact ⟨by kernel_rfl, by kernel_rfl, by kernel_rfl⟩
  | 5, _, _ => cases b0 <;> cases b1 <;> cases b2 <;> cases b3 <;> cases b4 <;> exact ⟨by kernel_rfl, by kernel_rfl, by kernel_rfl⟩
theorem upN5 (up : Nat → Bool) : ∀ n, 1 ≤ n → n ≤ 5 → upN up n = upN (up5 (up 0) (up 1) (up 2) (up 3) (up 4)) n := by
  intro n h1 h5
  match n, h1, h5 with
  | 1, _, _ => rfl
  | 2, _, _ => rfl
  | 3, _, _ => rfl
  | 4, _, _ => rfl
  | 5, _, _ => rfl
theorem half5 (n : Nat) (up : Nat → Bool) (t : List UInt8) : propP n up fresh5 1 0 t [0, 1, 2, 3, 4] = propP n (up5 (up 0) (up 1) (up 2) (up 3) (up 4)) fresh5 1 0 t [0, 1, 2, 3, 4] := by kernel_rfl
theorem half_law (n : Nat) (hn : 1 ≤ n ∧ n ≤ 5) (up : Nat → Bool) (t : List UInt8) : ((propP n up fresh5 1 0 t [0, 1, 2, 3, 4]).2.most (propP n up fresh5 1 0 t [0, 1, 2, 3, 4]).2.done ↔ n < 2 * upN up n) ∧ (propP n up fresh5 1 0 t [0, 1, 2, 3, 4]).2.t = t := by
  have h := half1 (up 0) (up 1) (up 2) (up 3) (up 4) t n hn.1 hn.2
  rw [← half5, ← upN5 up n hn.1 hn.2] at h
  generalize propP n up fresh5 1 0 t [0, 1, 2, 3, 4] = q at h
  obtain ⟨g1, g2, g3⟩ := h
  refine ⟨?_, g2⟩
  show q.2.n < 2 * (q.2.done : Int) ↔ _
  rw [g1, g3]
  split
  · constructor <;> intro _ <;> omega
  · constructor <;> intro _ <;> omega

/-! ### pieces -/
theorem chs_one {w : World} {r3 r1 : Nat} {T1 T3 : TypeId} (h1 : w.heap[r1]? = some (.cells ⟨[Value.int .i64 0]⟩ T1)) (h3 : w.heap[r3]? = some (.cells ⟨[Slc.v (⟨some ⟨r1, 0, none⟩, 1, 1⟩ : Slc)]⟩ T3)) : Chs w ⟨some ⟨r3, 0, none⟩, 1, 1⟩ [[0]] := by
  refine ⟨rfl, fun i hi => ?_⟩
  have : i = 0 := by simp at hi; omega
  subst this
  refine ⟨_, ⟨some ⟨r1, 0, none⟩, 1, 1⟩, rfl, ?_, (Own.new (sz := 1) (n := 1) (cs := [Value.int .i64 0]) h1 (.inl (by simp)) rfl).ints (l := [0]), Nat.le_refl _⟩
  rw [add_lit, cell_of h3]; rfl
theorem right_one (ep : Int) (h : 0 ≤ ep ∧ ep ≤ 1073741824) : RightP ep [[0]] := ⟨h, by simp, by simp [chainOk, unitsOk], by simp⟩
theorem bkAlive_spec (A : Nat → Addr) (w : World) (hE : Errs A w) : Calls Tryd.prog fn_tidewaterlaw12_alive ⟨[]⟩ w fun e w' => e = .returned (.bool true) ∧ Keep w w' := by
  refine tidewaterlaw12_alive_ok ?_
  unfold tidewaterlaw12_alive
  have hB : ErrsB A w.heap.size w := hE.b
  refine newS_mk (fun r1 w2 hr1 hb1 k1 hs1 => newS_mk (fun r3 w4 hr3 hb3 k3 hs3 => ?_))
  have kk4 := k1.trans k3
  have z2 := k1.size
  have z4 := k3.size
  refine (bkNew_spec A (n0 := 0) 3 (by omega) 0 ⟨some ⟨r3, 0, none⟩, 1, 1⟩ [[0]] w4 (chs_one (k3.heap hb1) hb3) (right_one 0 (by omega))).mono ?_
  rintro e w6 ⟨r, x, rfl, hBk, hxn, hBn, hYn, k6⟩
  refine ⟨_, _, rfl, fun w2 => w2 = w6, ⟨trivial, BIf_mk (fun h => by cases h) (fun _ => BIf_mk (fun h => by cases h) (fun _ => rfl))⟩, ?_⟩
  rintro w10 rfl
  intros
  have kk6 := kk4.trans k6
  have z6 := k6.size
  refine (bkSet_spec hBk 0 false).mono ?_
  rintro e w19 ⟨rfl, x1, hx1, hy1, hB1, f1⟩
  rw [if_pos (by rw [hxn]; omega)] at hB1
  refine ⟨rfl, (bkSet_spec hB1 1 false).mono ?_⟩
  rintro e w21 ⟨rfl, x2, hx2, hy2, hB2, f2⟩
  rw [if_pos (by rw [hx1, hxn]; omega)] at hB2
  have fA := f1.trans f2
  have b2 : ∀ k, BkB r x2 k → w4.heap.size ≤ k := fun k hk => (fA.2 k hk).elim (hBn k) (fun g => by omega)
  have kk21 : Keep w w21 := kk6.ext fA.1 (fun k hk => by have := hBn k hk; omega)
  refine ⟨rfl, newS_mk (fun r22 w23 hr22 hb22 k22 hs22 => newS_mk (fun r24 w25 hr24 hb24 k24 hs24 => newS_mk (fun r26 w27 hr26 hb26 k26 hs26 => ?_)))⟩
  have k27 := (k22.trans k24).trans k26
  have kk27 := kk21.trans k27
  have z21 := fA.1.size
  have hu : (updF (updF (fun _ => true) (Int.toNat 0) false) (Int.toNat 1) false) = fun i => if i = 1 then false else if i = 0 then false else true := by funext i; rfl
  have hlt := hB2.lt
  have hp0 : ¬ (propP x2.n (updF (updF (fun _ => true) (Int.toNat 0) false) (Int.toNat 1) false) fresh5 1 1 (planB 1 [[0]]) [0, 1, 2]).2.most (propP x2.n (updF (updF (fun _ => true) (Int.toNat 0) false) (Int.toNat 1) false) fresh5 1 1 (planB 1 [[0]]) [0, 1, 2]).2.done := by
    rw [hx2, hx1, hxn]; decide
  have own3 : intsAt w27 ⟨some ⟨r26, 0, none⟩, 3, 3⟩ [0, 1, 2] := (Own.new (sz := 1) (n := 3) (cs := [Value.int .i64 0, Value.int .i64 1, Value.int .i64 2]) hb26 (.inl (by simp)) rfl).ints
  refine (bkPropose_spec A (n0 := w.heap.size) (hB2.keep k27) (by omega) (by rw [hx2, hx1, hxn]; omega) (by simp) (by simp) (hB.keep kk27) kk27.size (fun k hk => by have := b2 k hk; omega) (by simp) 1 1 ⟨some ⟨r24, 0, none⟩, 1, 1⟩ [[0]] (chs_one ((k24.trans k26).heap hb22) (k26.heap hb24)) (by simp) ⟨some ⟨r26, 0, none⟩, 3, 3⟩ [0, 1, 2] (by simp) rfl (fun _ => own3) (fun _ j hj hh => ?_) [[0]] (fun _ _ hm => absurd hm hp0)).mono ?_
  · have h9 : j = r26 := by obtain ⟨a, ha, rfl⟩ := hj; cases ha; rfl
    have := hlt j hh
    have := (k22.trans k24).size
    omega
  rintro e w29 ⟨q, t, e', rfl, x', f', pl', hxn', hB', f9, hY', hcase⟩
  have kk29 : Keep w w29 := kk27.ext f9.1 (fun k hk => by have := b2 k hk; omega)
  have h11 : e' = some 11 := by
    rcases hcase with ⟨g, _⟩ | ⟨_, _, g, _⟩ | ⟨_, g, _⟩
    · exact absurd ⟨right_one 1 (by omega), by omega, by simp⟩ g
    · exact g
    · exact absurd g hp0
  subst h11
  refine ⟨_, _, _, rfl, (numO_spec8 A (some 11) (fun j hj => by cases hj; omega) _ (hE.keep kk29)).mono ?_⟩
  rintro e w34 ⟨rfl, k34⟩
  refine ⟨_, rfl, BIf_dec (fun _ => (bkUp_spec (hB'.keep k34) (by rw [hxn', hx2, hx1, hxn]; omega)).mono ?_) (fun hh => absurd rfl hh)⟩
  rintro e w37 ⟨rfl, rfl⟩
  refine ⟨_, rfl, ?_, kk29.trans k34⟩
  rw [hxn', hx2, hx1, hxn]; rfl
end Go.D

set_option linter.unusedVariables false
set_option linter.unusedSimpArgs false
set_option maxRecDepth 8000
namespace Go.D
open Go Go.Proofs

theorem BookHalf_walk (A : Nat → Addr) (v : Int) (sd : Slc) (dl : List Int) (sc : Slc) (cs : List (List Int)) (w : World) (hd : intsAt w sd dl) (hC : Chs w sc cs) (hE : Errs A w) :
    Calls Tryd.prog fn_tidewaterlaw12_BookHalf ⟨[.int .i64 v, sd.v, sc.v]⟩ w fun e w' => e = .returned (.bool true) ∧ Keep w w' := by
  refine tidewaterlaw12_BookHalf_ok _ _ _ ?_
  unfold tidewaterlaw12_BookHalf
  have hB : ErrsB A w.heap.size w := hE.b
  have hdl := hd.1
  have hcl := hC.1
  refine (bkAlive_spec A w hE).mono ?_
  rintro e w5 ⟨rfl, k5⟩
  obtain ⟨a, ha, hwa', hua⟩ := mod_wrap8 v 5 (by omega) (by omega)
  have hwa : IntKind.wrap .i64 ((IntKind.wrap .u64 v) % (5 : Int)) = (a : Int) := hwa'
  have hwn : (1 : Int) + IntKind.wrap .i64 ((IntKind.wrap .u64 v) % (5 : Int)) = ((a + 1 : Nat) : Int) := by rw [hwa]; omega
  refine ⟨_, rfl, BIf_mk (fun h => by cases h) (fun _ => ⟨hua, by omega, by rw [hwn]; exact inR64 (by omega), ?_⟩)⟩
  rw [hwn]
  refine var_mk (cs := [.int .i64 1, sc.v]) rfl rfl (fun r7 w9 hr7 o7 k9 hs9 => ?_)
  have kk9 := k5.trans k9
  refine ⟨fun w2 => Keep w9 w2 ∧ dl.length ≤ 20 ∧ cs.length ≤ 10 ∧ RightP 1 cs, BIf_dec (fun h0 => ⟨rfl, kk9⟩) (fun h0 => BIf_dec (fun h1 => ⟨rfl, kk9⟩) (fun h1 => ⟨_, _, o7.row, (Right_spec 1 sc cs w9 (hC.keep kk9) (by omega)).mono ?_⟩)), ?_⟩
  · rintro e w14 ⟨b, rfl, hb, k14⟩
    exact ⟨_, rfl, BIf_mk (fun _ => ⟨rfl, kk9.trans k14⟩) (fun hh => ⟨k14, by omega, by omega, hb.1 (by simpa using hh)⟩)⟩
  rintro w16 ⟨k16, h20, h10, hr⟩
  intros
  have kk16 := kk9.trans k16
  refine newS_mk (fun r31 w32 hr31 hb31 k31 hs31 => newS_mk (fun r33 w34 hr33 hb33 k33 hs33 => ?_))
  have kk34 := (kk16.trans k31).trans k33
  refine (bkNew_spec A (n0 := 0) (a + 1) (by omega) 0 ⟨some ⟨r33, 0, none⟩, 1, 1⟩ [[0]] w34 (chs_one (k33.heap hb31) hb33) (right_one 0 (by omega))).mono ?_
  rintro e w36 ⟨r, x, rfl, hBk, hxn, hBn, hYn, k36⟩
  have kk36 := kk34.trans k36
  have z34 := kk34.size
  have o36 := ((o7.keep k16).keep (k31.trans k33)).keep k36
  have r7lt : r7 < w34.heap.size := ((o7.keep k16).keep (k31.trans k33)).lt
  refine ⟨_, _, rfl, trivial, BIf_mk (fun h => by cases h) (fun _ => ?_)⟩
  refine ⟨fun i w2 => ∃ (k : Nat) (x2 : BkP) (up2 : Nat → Bool), i = k ∧ k ≤ dl.length ∧ BkAt w2 r x2 up2 fresh5 [(0, [[0]])] 0 ∧ x2.n = a + 1 ∧ Keep w w2 ∧ (∀ j, BkB r x2 j → w34.heap.size ≤ j) ∧ (∀ j, x2.Y j → w34.heap.size ≤ j) ∧ ObjAt w2 r7 [.int .i64 1, sc.v], fun i _ => ((dl.length : Int) - i).toNat,
    ⟨0, x, _, rfl, by omega, hBk, hxn, kk36, hBn, hYn, o36⟩, ?_⟩
  rintro i w42 ⟨k, x2, up2, rfl, hk, hBk, hxn, kw, hBn, hYn, o42⟩
  intros
  have z42 := kw.size
  have lt := hBk.lt
  refine BIf_dec (fun h1 => ?_) (fun h1 => ?_)
  · have hkl : k < dl.length := by omega
    obtain ⟨a1, hp1, hc1⟩ := intsAt_cell (intsAt_keep hd kw) hkl
    refine needSome_mk hp1 ⟨by omega, h1, dl[k], by rw [show Int.toNat (k : Int) * 1 = k by omega]; exact hc1, (bkSet_spec hBk dl[k] false).mono ?_⟩
    rintro e w54 ⟨rfl, x3, hx3, hy3, hB3, f3⟩
    have hB3' : ∃ up3, BkAt w54 r x3 up3 fresh5 [(0, [[0]])] 0 := ⟨_, hB3⟩
    obtain ⟨up3, hB4⟩ := hB3'
    have zf := f3.1.size
    have zk := k36.size
    have z36' : w34.heap.size ≤ w42.heap.size := by have := hBn r (.inl rfl); have := lt r (.inl rfl); omega
    exact ⟨rfl, inR64 (by omega), ⟨k + 1, x3, up3, rfl, hkl, hB4, by omega, kw.ext f3.1 (fun j hj => by have := hBn j hj; omega), fun j hj => (f3.2 j hj).elim (hBn j) (fun g => by omega), fun j hj => hYn j (by rw [← hy3]; exact hj), o42.ext f3.1 (fun hh => by have := hBn r7 hh; omega)⟩, by dsimp only; omega⟩
  · refine ⟨_, _, o42.row, newS_mk (fun r57 w58 hr57 hb57 k57 hs57 => ?_)⟩
    have kw58 := kw.trans k57
    have own5 : intsAt w58 ⟨some ⟨r57, 0, none⟩, 5, 5⟩ [0, 1, 2, 3, 4] := (Own.new (sz := 1) (n := 5) (cs := [Value.int .i64 0, Value.int .i64 1, Value.int .i64 2, Value.int .i64 3, Value.int .i64 4]) hb57 (.inl (by simp)) rfl).ints
    have law := half_law x2.n (by omega) up2 (planB 1 cs)
    refine (bkPropose_spec A (n0 := w.heap.size) (hBk.keep k57) (by omega) (by omega) (by simp) (by simp) (hB.keep kw58) kw58.size (fun q hq => by have := hBn q hq; omega) (by simp) 0 1 sc cs (hC.keep kw58) (by omega) ⟨some ⟨r57, 0, none⟩, 5, 5⟩ [0, 1, 2, 3, 4] (by simp) rfl (fun _ => own5) (fun _ j hj hh => ?_) cs (fun _ _ _ => ⟨hr, law.2⟩)).mono ?_
    · have h9 : j = r57 := by obtain ⟨a, ha, rfl⟩ := hj; cases ha; rfl
      have := lt j hh
      omega
    rintro e w60 ⟨q, t, e', rfl, x', f', pl', hxn', hB', f9, hY', hcase⟩
    have z58 := k57.size
    have kw60 : Keep w w60 := kw58.ext f9.1 (fun j hj => by have := hBn j hj; omega)
    have o60 := (o42.keep k57).ext f9.1 (fun hh => by have := hBn r7 hh; omega)
    have hP : RightP 1 cs ∧ (0 : Int) ≤ 0 ∧ (1 : Int) = (([(0, [[0]])] : List PlS)[([(0, [[0]])] : List PlS).length - 1]'(by simp)).1 + 1 := ⟨hr, by omega, by simp⟩
    refine ⟨_, _, _, rfl, var_mk (cs := [.int .i64 q, t.v]) rfl rfl (fun r64 w66 hr64 o64 k66 hs66 => (bkUp_spec (hB'.keep k66) (by omega)).mono ?_)⟩
    rintro e w68 ⟨rfl, rfl⟩
    rw [hxn', hxn]
    have hul := upN_le up2 (a + 1)
    have kw66 := kw60.trans k66
    have hlaw : (propP x2.n up2 fresh5 1 0 (planB 1 cs) [0, 1, 2, 3, 4]).2.most (propP x2.n up2 fresh5 1 0 (planB 1 cs) [0, 1, 2, 3, 4]).2.done ↔ a + 1 < 2 * upN up2 (a + 1) := by
      have := law.1
      rw [hxn] at this ⊢
      exact this
    have hB6 := hB'.keep k66
    refine ⟨_, rfl, inR64 (by omega), BIf_dec (fun h2 => ?_) (fun h2 => ?_)⟩
    · have hnm : ¬ (a + 1 < 2 * upN up2 (a + 1)) := by omega
      obtain ⟨he', hpl'⟩ : e' = some 11 ∧ pl' = [(0, [[0]])] := by
        rcases hcase with ⟨g, _⟩ | ⟨_, _, g, _, g2⟩ | ⟨_, g, _⟩
        · exact absurd hP g
        · exact ⟨g, g2⟩
        · exact absurd (hlaw.1 g) hnm
      subst he'
      refine ⟨errO_isI A _, BIf_mk (fun _ => (bkKnown_spec hB6).mono ?_) (fun hh => by cases hh)⟩
      rintro e w71 ⟨rfl, rfl⟩
      refine ⟨_, rfl, ?_, kw66⟩
      rw [hpl']; rfl
    · have hm : a + 1 < 2 * upN up2 (a + 1) := by omega
      obtain ⟨he', hq, hpl', hCt⟩ : e' = none ∧ q = 1 ∧ pl' = [(0, [[0]])] ++ [(1, cs)] ∧ ChF w60 t cs (fun k => w58.heap.size ≤ k ∧ k < w60.heap.size) := by
        rcases hcase with ⟨g, _⟩ | ⟨_, g, _⟩ | ⟨_, _, g1, _, g2, _, _, g3, g4⟩
        · exact absurd hP g
        · exact absurd (hlaw.2 hm) g
        · exact ⟨g1, g2, g3, g4⟩
      subst he'; subst hq; subst hpl'
      have kd : Keep w68 (World.drew w68) := Ext.drew _ _
      have o6d := ((o60.keep k66).keep kd)
      have hl3 : cs.length ≤ 3 := by have := hr.2.1; omega
      refine ⟨errO_isI A _, BIf_mk (fun _ => ⟨_, _, (o64.keep kd).row, _, _, o6d.row, (PlanSame_spec 1 1 t sc cs cs _ ((hCt.chs.keep k66).keep kd) (hC.keep (kw66.trans kd)) (by omega) (by omega)).mono ?_⟩) (fun hh => by cases hh)⟩
      rintro e w78 ⟨b, rfl, hb, k78⟩
      have hbt : b = true := hb.2 ⟨hr, hr, rfl, rfl⟩
      subst hbt
      have k6878 := kd.trans k78
      have hB7 := hB6.keep k6878
      refine ⟨_, rfl, BIf_mk (fun _ => ⟨_, _, (o6d.keep k78).row, (bkLatest_spec hB7 (by simp) (by simp) (fun p hp => ?_)).mono ?_⟩) (fun hh => by cases hh)⟩
      · simp only [List.cons_append, List.nil_append, List.mem_cons, List.not_mem_nil, or_false] at hp
        rcases hp with rfl | rfl
        · simp
        · exact ⟨by show cs.length ≤ 1000; omega, fun c hc => by have := (hr.2.2.1 c hc).2.1; omega⟩
      rintro e w83 ⟨s2, rfl, hC2, k83⟩
      have kw83 := (kw66.trans k6878).trans k83
      refine ⟨_, _, rfl, ⟨_, _, ((o6d.keep k78).keep k83).row, rfl⟩, (PlanSame_spec 1 1 s2 sc cs cs _ hC2.chs (hC.keep kw83) (by omega) (by omega)).mono ?_⟩
      rintro e w89 ⟨b, rfl, hb, k89⟩
      have hbt : b = true := hb.2 ⟨hr, hr, rfl, rfl⟩
      subst hbt
      refine ⟨_, rfl, BIf_mk (fun _ => (bkKnown_spec ((hB7.keep k83).keep k89)).mono ?_) (fun hh => by cases hh)⟩
      rintro e w92 ⟨rfl, rfl⟩
      exact ⟨_, rfl, rfl, kw83.trans k89⟩
theorem BookHalf_fin (v : Int) (sd : Slc) (dl : List Int) (sc : Slc) (xs : List (Slc × List Int)) (w : World) (hd : intsAt w sd dl) (hC : rowsR Rd.ints w sc xs) (A : Nat → Addr) (hE : Errs A w) :
    Calls Tryd.prog fn_tidewaterlaw12_BookHalf ⟨[.int .i64 v, sd.v, sc.v]⟩ w fun e w' => e = .returned (.bool true) ∧ Keep w w' := BookHalf_walk A v sd dl sc _ w hd (Chs.of hC) hE
end Go.D

