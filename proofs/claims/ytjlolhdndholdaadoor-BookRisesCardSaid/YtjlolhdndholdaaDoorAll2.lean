/-
  WHAT IS PROVED: contracts of functions, and the plain law, for this proof. No further conditions.
-/
import Derived.Test.YtjlolhdndholdaaDoorAll1
import Derived.Test.YtjlolhdndholdaaDoorVClaw12
set_option linter.unusedVariables false
set_option linter.unusedSimpArgs false
namespace Go.D
open Go Go.Proofs

/-! ### a book in memory -/
def plC (x : Int × Slc) : List Value := [.int .i64 x.1, x.2.v]
theorem foot_pl {x : Int × Slc} {k : Nat} (h : footV (plC x) k) : ownB x.2 k := by
  obtain ⟨s, hs, _, hk⟩ := h
  have : s = x.2 := by
    simp only [plC, List.mem_cons, List.not_mem_nil, or_false] at hs
    rcases hs with hs | hs
    · simp [Slc.v] at hs
    · exact Slc.v_inj hs
  rw [← this]; exact hk
def PlR : RowD (Int × Slc) where
  n := 2
  pos := by omega
  R w x cs := cs = plC x ∧ ∀ k, ownB x.2 k → k < w.heap.size
  len h := by rw [h.1]; rfl
  one h := by rw [h.1]; intro v hv; simp [plC] at hv; rcases hv with rfl | rfl <;> rfl
  ext h he _ := ⟨h.1, fun k hk => Nat.lt_of_lt_of_le (h.2 k hk) he.size⟩
  lt h := by rw [h.1]; intro k hk; exact h.2 k (foot_pl hk)
abbrev PlS := Int × List (List Int)
structure BkP where
  ss : Slc
  pp : Slc
  n : Nat
  ps : Nat → SeatP
  ql : List (Int × Slc)
  Y : Nat → Prop
def BkB (r : Nat) (x : BkP) (k : Nat) : Prop := k = r ∨ ownB x.ss k ∨ ownB x.pp k ∨ ∃ i, i < x.n ∧ SeatB (x.ps i) k
structure BkC (r : Nat) (x : BkP) (c : Nat → Nat) : Prop where
  cr : c r = 0
  cs : ∀ k, ownB x.ss k → c k = 1
  cp : ∀ k, ownB x.pp k → c k = 2
  cy : ∀ k, x.Y k → c k = 3
  ci : ∀ i, i < x.n → ∀ k, SeatB (x.ps i) k → c k = 4 + i
structure BkAt (w : World) (r : Nat) (x : BkP) (up : Nat → Bool) (f : Nat → Int → VS) (pl : List PlS) (N : Nat) : Prop where
  o : ObjAt w r [x.ss.v, x.pp.v]
  s : Own w x.ss 1 ((List.range x.n).map fun i => ptrR' (x.ps i).o)
  p : Rows PlR w x.pp x.ql (x.ql.map plC)
  len : x.ql.length = pl.length
  q : ∀ i (h : i < x.ql.length) (h' : i < pl.length), x.ql[i].1 = pl[i].1 ∧ ChF w x.ql[i].2 pl[i].2 x.Y
  yb : ∀ k, x.Y k → k < w.heap.size
  st : ∀ i, i < x.n → SeatAt w (x.ps i) (up i) (f i) N
  c : ∃ c, BkC r x c
section
variable {w w' : World} {r : Nat} {x : BkP} {up : Nat → Bool} {f : Nat → Int → VS} {pl : List PlS} {N : Nat}
theorem BkAt.ext {M : Nat → Prop} (h : BkAt w r x up f pl N) (he : Ext M w w') (h1 : ∀ k, BkB r x k → ¬ M k) (h2 : ∀ k, x.Y k → ¬ M k) : BkAt w' r x up f pl N := by
  refine ⟨h.o.ext he (h1 _ (.inl rfl)), h.s.ext he (fun k hk => h1 k (.inr (.inl hk))), h.p.ext he (fun k hk => h1 k (.inr (.inr (.inl hk)))) (fun k hk => ?_), h.len, fun i hi hi' => ⟨(h.q i hi hi').1, (h.q i hi hi').2.ext he h2⟩, fun k hk => Nat.lt_of_lt_of_le (h.yb k hk) he.size, fun i hi => (h.st i hi).ext he (fun k hk => h1 k (.inr (.inr (.inr ⟨i, hi, hk⟩)))), h.c⟩
  obtain ⟨cs, hcs, hk⟩ := hk
  obtain ⟨y, hy, rfl⟩ := List.mem_map.1 hcs
  obtain ⟨i, hi, rfl⟩ := List.getElem_of_mem hy
  exact h2 k ((h.q i hi (by rw [← h.len]; exact hi)).2.y k (foot_pl hk))
theorem BkAt.keep (h : BkAt w r x up f pl N) (he : Keep w w') : BkAt w' r x up f pl N := h.ext he (fun _ _ h => h) (fun _ _ h => h)
theorem BkAt.lt (h : BkAt w r x up f pl N) : ∀ k, BkB r x k → k < w.heap.size := by
  rintro k (rfl | hk | hk | ⟨i, hi, hk⟩)
  · exact h.o.lt
  · exact OwnLt h.s k hk
  · exact h.p.lt k hk
  · exact (h.st i hi).lt k hk
theorem BkAt.mono {N' : Nat} (h : BkAt w r x up f pl N) (hN : N ≤ N') : BkAt w r x up f pl N' := ⟨h.o, h.s, h.p, h.len, h.q, h.yb, fun i hi => (h.st i hi).mono hN, h.c⟩
theorem BkAt.c0 (h : BkAt w r x up f pl N) : w.cell? ⟨r, 0, none⟩ = some x.ss.v := h.o.cell 0 (by simp)
theorem BkAt.c1 (h : BkAt w r x up f pl N) : w.cell? ((⟨r, 0, none⟩ : Addr).add 1) = some x.pp.v := by rw [add_lit]; exact h.o.cell 1 (by simp)
theorem BkAt.sl (h : BkAt w r x up f pl N) : x.ss.l = x.n := by have := h.s.1; rw [List.length_map, List.length_range] at this; omega
theorem BkAt.pll (h : BkAt w r x up f pl N) : x.pp.l = pl.length := by rw [h.p.sl, h.len]
theorem BkAt.seatC (h : BkAt w r x up f pl N) {i : Nat} (hi : i < x.n) : ∃ a : Addr, x.ss.p = some a ∧ w.cell? (a.add (i * 1)) = some (ptrR' (x.ps i).o) := by
  obtain ⟨a, ha, hc⟩ := cellsAt_get h.s.cells (i := i) (by simpa using hi)
  exact ⟨a, ha, by rw [Nat.mul_one, hc]; simp⟩
theorem BkAt.planC (h : BkAt w r x up f pl N) {i : Nat} (hi : i < pl.length) : ∃ (a : Addr) (s : Slc), x.pp.p = some a ∧ rowAt w (a.add (i * 2)) 0 [.int .i64 pl[i].1, s.v] ∧ ChF w s pl[i].2 x.Y := by
  have hi' : i < x.ql.length := by rw [h.len]; exact hi
  obtain ⟨a, ha, _, hrow⟩ := h.p.get (i := i) (by simpa using hi')
  rw [List.getElem_map] at hrow
  obtain ⟨h1, h2⟩ := h.q i hi' hi
  refine ⟨a, x.ql[i].2, ha, ?_, h2⟩
  rw [← h1]; exact hrow
def updF {α : Type} (g : Nat → α) (i : Nat) (v : α) : Nat → α := fun j => if j = i then v else g j
theorem updF_same {α : Type} (g : Nat → α) (i : Nat) (v : α) : updF g i v i = v := if_pos rfl
theorem updF_ne {α : Type} (g : Nat → α) {i j : Nat} (v : α) (h : j ≠ i) : updF g i v j = g j := if_neg h
/-- A seat has changed. -/
theorem BkAt.seat (h : BkAt w r x up f pl N) {i : Nat} (hi : i < x.n) {p' : SeatP} {u' : Bool} {f' : Int → VS} {N' : Nat} (ho : p'.o = (x.ps i).o) (hs : SeatAt w' p' u' f' N') (hf : Foot (SeatB (x.ps i)) (SeatB p') w w') (hN : N ≤ N') :
    BkAt w' r { x with ps := updF x.ps i p' } (updF up i u') (updF f i f') pl N' ∧ Foot (BkB r x) (BkB r { x with ps := updF x.ps i p' }) w w' := by
  obtain ⟨c, hc⟩ := h.c
  have lt := h.lt
  have no : ∀ k, c k ≠ 4 + i → ¬ SeatB (x.ps i) k := fun k h1 h2 => h1 (hc.ci i hi k h2)
  have hlt := hs.lt
  have hfoot : Foot (BkB r x) (BkB r { x with ps := updF x.ps i p' }) w w' := by
    refine ⟨hf.1.mono (fun k hk => .inr (.inr (.inr ⟨i, hi, hk⟩))), ?_⟩
    rintro k (hk | hk | hk | ⟨j, hj, hk⟩)
    · exact .inl (.inl hk)
    · exact .inl (.inr (.inl hk))
    · exact .inl (.inr (.inr (.inl hk)))
    · have hk' : SeatB (updF x.ps i p' j) k := hk
      by_cases e : j = i
      · rw [e, updF_same] at hk'
        exact (hf.2 k hk').imp (fun g => .inr (.inr (.inr ⟨i, hi, g⟩))) (fun g => g)
      · rw [updF_ne _ _ e] at hk'
        exact .inl (.inr (.inr (.inr ⟨j, hj, hk'⟩)))
  refine ⟨⟨h.o.ext hf.1 (no r (by rw [hc.cr]; omega)), ?_, h.p.ext hf.1 (fun k hk => no k (by rw [hc.cp k hk]; omega)) (fun k hk => ?_), h.len, fun j hj hj' => ⟨(h.q j hj hj').1, (h.q j hj hj').2.ext hf.1 (fun k hk => no k (by rw [hc.cy k hk]; omega))⟩, fun k hk => Nat.lt_of_lt_of_le (h.yb k hk) hf.1.size, fun j hj => ?_, fun k => if k < w.heap.size then c k else 4 + i, ?_, fun k hk => ?_, fun k hk => ?_, fun k hk => ?_, fun j hj k hk => ?_⟩, hfoot⟩
  · have := h.s.ext hf.1 (fun k hk => no k (by rw [hc.cs k hk]; omega))
    have e : (List.range x.n).map (fun j => ptrR' (updF x.ps i p' j).o) = (List.range x.n).map fun j => ptrR' (x.ps j).o := by
      apply List.map_congr_left
      intro j _
      by_cases e : j = i
      · rw [e, updF_same, ho]
      · rw [updF_ne _ _ e]
    show Own w' x.ss 1 ((List.range x.n).map (fun j => ptrR' (updF x.ps i p' j).o))
    rw [e]; exact this
  · obtain ⟨cs, hcs, hk'⟩ := hk
    obtain ⟨y, hy, rfl⟩ := List.mem_map.1 hcs
    obtain ⟨j, hj, rfl⟩ := List.getElem_of_mem hy
    have := (h.q j hj (by rw [← h.len]; exact hj)).2.y k (foot_pl hk')
    exact no k (by rw [hc.cy k this]; omega)
  · show SeatAt w' (updF x.ps i p' j) (updF up i u' j) (updF f i f' j) N'
    by_cases e : j = i
    · rw [e, updF_same, updF_same, updF_same]; exact hs
    · rw [updF_ne _ _ e, updF_ne _ _ e, updF_ne _ _ e]
      exact ((h.st j hj).ext hf.1 (fun k hk => no k (by rw [hc.ci j hj k hk]; omega))).mono hN
  · rw [if_pos h.o.lt]; exact hc.cr
  · rw [if_pos (lt k (.inr (.inl hk)))]; exact hc.cs k hk
  · rw [if_pos (lt k (.inr (.inr (.inl hk))))]; exact hc.cp k hk
  · rw [if_pos (h.yb k hk)]; exact hc.cy k hk
  · have hk' : SeatB (updF x.ps i p' j) k := hk
    by_cases e : j = i
    · rw [e, updF_same] at hk'
      rw [e]
      rcases hf.2 k hk' with g | g
      · rw [if_pos (lt k (.inr (.inr (.inr ⟨i, hi, g⟩))))]; exact hc.ci i hi k g
      · rw [if_neg (by omega)]
    · rw [updF_ne _ _ e] at hk'
      rw [if_pos (lt k (.inr (.inr (.inr ⟨j, hj, hk'⟩))))]; exact hc.ci j hj k hk'
theorem BkAt.y_out (h : BkAt w r x up f pl N) : ∀ k, x.Y k → ¬ BkB r x k := by
  obtain ⟨c, hc⟩ := h.c
  intro k hk hh
  have h3 := hc.cy k hk
  rcases hh with rfl | hh | hh | ⟨i, hi, hh⟩
  · have := hc.cr; omega
  · have := hc.cs k hh; omega
  · have := hc.cp k hh; omega
  · have := hc.ci i hi k hh; omega

/-! ### questions -/
theorem bkHas_spec (h : BkAt w r x up f pl N) (i : Int) :
    Calls Tryd.prog fn_book_Book_has ⟨[ptrR' r, .int .i64 i]⟩ w fun e w' => e = .returned (.bool (decide (0 ≤ i ∧ i < (x.n : Int)))) ∧ w' = w := by
  refine book_Book_has_ok _ _ ?_
  unfold book_Book_has
  have hsl := h.sl
  refine BIf_dec (fun h0 => needSome_mk rfl ⟨_, h.c0, ?_, rfl⟩) (fun h0 => ⟨by rw [decide_eq_false (by omega)], rfl⟩)
  congr 2
  rw [decide_eq_decide]; omega
theorem bkKnown_spec (h : BkAt w r x up f pl N) : Calls Tryd.prog fn_book_Book_Known ⟨[ptrR' r]⟩ w fun e w' => e = .returned (.int .i64 (pl.length : Int)) ∧ w' = w := by
  refine book_Book_Known_ok _ ?_
  unfold book_Book_Known
  exact needSome_mk rfl ⟨_, h.c1, by rw [h.pll], rfl⟩
theorem bkSet_spec (h : BkAt w r x up f pl N) (i : Int) (u : Bool) :
    Calls Tryd.prog fn_book_Book_Set ⟨[ptrR' r, .int .i64 i, .bool u]⟩ w fun e w' => e = .returned (.tuple #[]) ∧ ∃ x', x'.n = x.n ∧ x'.Y = x.Y ∧ BkAt w' r x' (if 0 ≤ i ∧ i < (x.n : Int) then updF up i.toNat u else up) f pl N ∧ Foot (BkB r x) (BkB r x') w w' := by
  refine book_Book_Set_ok _ _ _ ?_
  unfold book_Book_Set
  refine (bkHas_spec h i).mono ?_
  rintro e w5 ⟨rfl, rfl⟩
  refine ⟨_, rfl, BIf_dec (fun h0 => ?_) (fun h0 => ⟨rfl, x, rfl, rfl, by rw [if_neg h0]; exact h, Foot.refl _ _⟩)⟩
  obtain ⟨j, rfl⟩ : ∃ j : Nat, i = j := ⟨i.toNat, by omega⟩
  have hj : j < x.n := by omega
  obtain ⟨a, ha, hc⟩ := h.seatC hj
  have hsl := h.sl
  have hst := h.st j hj
  obtain ⟨c1, c2⟩ := hst.o.setOne 1 (by simp) (.bool u)
  refine needSome_mk rfl ⟨_, h.c0, needSome_mk ha ⟨by omega, by omega, _, by rw [Int.toNat_natCast]; exact hc, needSome_mk rfl ?_⟩⟩
  rw [add_lit]
  refine ⟨c1, fun w12 hw12 => ⟨rfl, ?_⟩⟩
  obtain ⟨o12, e12, z12⟩ := c2 w12 hw12
  have hs' : SeatAt w12 (x.ps j) u (f j) N := by
    obtain ⟨xs, css, q1, q2⟩ := hst.s
    exact ⟨o12, hst.v.ext e12 (fun k hk hh => hst.d1 (by rw [← show k = (x.ps j).o from hh]; exact hk)), ⟨xs, css, q1.ext e12 (fun k hk hh => hst.d2 (by rw [← show k = (x.ps j).o from hh]; exact hk)) (fun k hk => (footC_said q1 k hk).elim), q2⟩, fun k hk => by have := hst.b k hk; omega, hst.d1, hst.d2, hst.d3⟩
  obtain ⟨h', hf⟩ := h.seat hj (p' := x.ps j) rfl hs' ⟨e12.mono (fun k hk => .inl hk), fun k hk => .inl hk⟩ (Nat.le_refl _)
  rw [if_pos h0, Int.toNat_natCast]
  have e9 : updF f j (f j) = f := by funext k; unfold updF; split <;> simp_all
  rw [e9] at h'
  exact ⟨{ x with ps := updF x.ps j (x.ps j) }, rfl, rfl, h', hf⟩
def upN (up : Nat → Bool) : Nat → Nat
  | 0 => 0
  | n + 1 => upN up n + (if up n = true then 1 else 0)
theorem upN_succ (up : Nat → Bool) (n : Nat) : upN up (n + 1) = upN up n + (if up n = true then 1 else 0) := rfl
theorem upN_le (up : Nat → Bool) : ∀ n, upN up n ≤ n
  | 0 => Nat.le_refl _
  | n + 1 => by have := upN_le up n; unfold upN; split <;> omega
theorem bkUp_spec (h : BkAt w r x up f pl N) (hn : x.n ≤ 2 ^ 20) : Calls Tryd.prog fn_book_Book_Up ⟨[ptrR' r]⟩ w fun e w' => e = .returned (.int .i64 (upN up x.n : Int)) ∧ w' = w := by
  refine book_Book_Up_ok _ ?_
  unfold book_Book_Up
  have hsl := h.sl
  refine needSome_mk rfl ⟨_, h.c0, fun n i w2 => ∃ k : Nat, i = k ∧ k ≤ x.n ∧ n = (upN up k : Int) ∧ w2 = w, fun _ i _ => ((x.n : Int) - i).toNat, ⟨0, rfl, by omega, rfl, rfl⟩, ?_⟩
  rintro n i w8 ⟨k, rfl, hk, rfl, rfl⟩
  intros
  have hul := upN_le up k
  refine BIf_dec (fun h0 => ?_) (fun h0 => ?_)
  · have hkl : k < x.n := by omega
    obtain ⟨a, ha, hc⟩ := h.seatC hkl
    have hst := h.st k hkl
    refine needSome_mk ha ⟨by omega, h0, _, by rw [Int.toNat_natCast]; exact hc, needSome_mk rfl ⟨_, by rw [add_lit]; exact hst.o.cell 1 (by simp), BIf_mk (fun hu => ⟨inR64 (by omega), inR64 (by omega), ⟨k + 1, rfl, hkl, ?_, rfl⟩, by dsimp only; omega⟩) (fun hu => ⟨inR64 (by omega), ⟨k + 1, rfl, hkl, ?_, rfl⟩, by dsimp only; omega⟩)⟩⟩
    · rw [upN_succ, if_pos hu]; omega
    · rw [upN_succ, if_neg (by rw [hu]; decide)]; omega
  · have : k = x.n := by omega
    subst this
    exact ⟨rfl, rfl⟩
theorem bklatest_spec (h : BkAt w r x up f pl N) (hp : 0 < pl.length) (hl : pl.length ≤ 2 ^ 30) :
    Calls Tryd.prog fn_book_Book_latest ⟨[ptrR' r]⟩ w fun e w' => ∃ s : Slc, e = .returned (.agg ⟨[.int .i64 (pl[pl.length - 1]'(by omega)).1, s.v]⟩) ∧ ChF w' s (pl[pl.length - 1]'(by omega)).2 x.Y ∧ Keep w w' := by
  refine book_Book_latest_ok _ ?_
  unfold book_Book_latest
  refine newS_mk (fun r2 w3 hr2 hb2 k2 hs2 => ?_)
  have o2 := ObjAt.new' hb2
  have kd : Keep w3 (World.drew w3) := Ext.drew _ _
  have hd := (h.keep k2).keep kd
  have hpl := h.pll
  obtain ⟨a, s, ha, hrow, hC⟩ := hd.planC (i := pl.length - 1) (by omega)
  have e1 : Int.toNat (((x.pp.l : Nat) : Int) - 1) = pl.length - 1 := by omega
  obtain ⟨c1, c2⟩ := (o2.keep kd).setAll (n := 2) (cs := [.int .i64 (pl[pl.length - 1]'(by omega)).1, s.v]) rfl rfl
  refine needSome_mk rfl ⟨_, hd.c1, needSome_mk rfl ⟨_, hd.c1, inR64 (by omega), needSome_mk ha ⟨by omega, by omega, _, _, by rw [e1]; exact hrow, c1, fun w11 hw11 => ?_⟩⟩⟩
  obtain ⟨o11, e11, z11⟩ := c2 w11 hw11
  have ylt := h.yb
  exact ⟨_, _, o11.row, s, rfl, hC.ext e11 (fun k hk hh => by have := ylt k hk; have h9 : k = r2 := hh; omega), (k2.trans kd).ext e11 (fun k hk => by rw [show k = r2 from hk]; omega)⟩
theorem bkLatest_spec (h : BkAt w r x up f pl N) (hp : 0 < pl.length) (hl : pl.length ≤ 2 ^ 30) (hs : ∀ p ∈ pl, p.2.length ≤ 1000 ∧ ∀ c ∈ p.2, c.length ≤ 1000) :
    Calls Tryd.prog fn_book_Book_Latest ⟨[ptrR' r]⟩ w fun e w' => ∃ s : Slc, e = .returned (.agg ⟨[.int .i64 (pl[pl.length - 1]'(by omega)).1, s.v]⟩) ∧ ChF w' s (pl[pl.length - 1]'(by omega)).2 (fun k => w.heap.size ≤ k ∧ k < w'.heap.size) ∧ Keep w w' := by
  refine book_Book_Latest_ok _ ?_
  unfold book_Book_Latest
  refine newS_mk (fun r2 w3 hr2 hb2 k2 hs2 => (bklatest_spec (h.keep k2) hp hl).mono ?_)
  have o2 := ObjAt.new' hb2
  rintro e w5 ⟨s, rfl, hC, k5⟩
  obtain ⟨v1, v2⟩ := hs _ (List.getElem_mem (show pl.length - 1 < pl.length by omega))
  refine ⟨_, _, rfl, (Copy_spec _ s _ w5 hC.chs v1 v2).mono ?_⟩
  rintro e w9 ⟨t, ts, rfl, hO, hB, k9⟩
  have k39 := k5.trans k9
  obtain ⟨c1, c2⟩ := (o2.keep k39).setAll (n := 2) (cs := [.int .i64 (pl[pl.length - 1]'(by omega)).1, t.v]) rfl rfl
  refine ⟨_, _, rfl, c1, fun w12 hw12 => ?_⟩
  obtain ⟨o12, e12, z12⟩ := c2 w12 hw12
  have z3 := k2.size
  have z5 := k5.size
  have olt := hO.lt
  refine ⟨_, _, o12.row, t, rfl, ((ChF.of hO).ext e12 (fun k hk hh => by have := hB k hk; have h9 : k = r2 := hh; omega)).mono (fun k hk => ⟨by have := hB k hk; omega, by have := olt k hk; omega⟩), (k2.trans k39).ext e12 (fun k hk => by rw [show k = r2 from hk]; omega)⟩
end
end Go.D

set_option linter.unusedVariables false
set_option linter.unusedSimpArgs false
namespace Go.D
open Go Go.Proofs

section
variable {w w' : World} {r : Nat} {x : BkP} {up : Nat → Bool} {f : Nat → Int → VS} {pl : List PlS} {N : Nat}
/-- A plan more. -/
theorem BkAt.addPlan {E T : TypeId} {K : Slc → World → Prop} (h : BkAt w r x up f pl N) {ep : Int} {t : Slc} {cs : List (List Int)} {Y1 : Nat → Prop} {r9 : Nat} (hC : ChF w t cs Y1) (hY : ∀ k, Y1 k → k < w.heap.size ∧ ¬ BkB r x k) (hb : w.heap[r9]? = some (.cells ⟨plC (ep, t)⟩ T)) (hl : pl.length < 2 ^ 29)
    (hK : ∀ (s' : Slc) (w2 : World), (canW w2 ((⟨r, 0, none⟩ : Addr).add 1) 1 ∧ ∀ w3 : World, w3 = World.setCell w2 ((⟨r, 0, none⟩ : Addr).add 1) s'.v → BkAt w3 r { x with pp := s', ql := x.ql ++ [(ep, t)], Y := fun k => x.Y k ∨ Y1 k } up f (pl ++ [(ep, cs)]) N ∧ Foot (BkB r x) (BkB r { x with pp := s', ql := x.ql ++ [(ep, t)], Y := fun k => x.Y k ∨ Y1 k }) w w3) → K s' w2) :
    appendS 2 E [.int .i64 0, (⟨none, 0, 0⟩ : Slc).v] w x.pp (.slc ⟨some ⟨r9, 0, none⟩, 1, 1⟩) K := by
  obtain ⟨c, hc⟩ := h.c
  have lt := h.lt
  refine h.p.snoc (cs := plC (ep, t)) (x := (ep, t)) (z := [.int .i64 0, (⟨none, 0, 0⟩ : Slc).v]) rfl ⟨rfl, fun k hk => (hY k (hC.y k hk)).1⟩ (fun k hk hh => (hY k (hC.y k (foot_pl hk))).2 (.inr (.inr (.inl hh)))) hb (.inl (by simp [plC])) (by rw [h.len]; omega) (fun s' w2 g1 g2 g3 => hK s' w2 ?_)
  have no2 : ∀ k, c k ≠ 2 → ¬ ownB x.pp k := fun k h1 h2 => h1 (hc.cp k h2)
  have o2 := h.o.ext g2 (no2 r (by rw [hc.cr]; omega))
  obtain ⟨c1, c2⟩ := o2.setOne 1 (by simp) s'.v
  rw [add_lit]
  refine ⟨c1, fun w3 hw3 => ?_⟩
  obtain ⟨o3, e3, z3⟩ := c2 w3 hw3
  have z2 := g2.size
  have no0 : ∀ k, c k ≠ 0 → ¬ k = r := fun k h1 h2 => h1 (by rw [h2]; exact hc.cr)
  have sr : ∀ k, ownB s' k → ¬ k = r := fun k hk => by
    rcases g3 k hk with g | g
    · exact no0 k (by rw [hc.cp k g]; omega)
    · have := lt r (.inl rfl); omega
  have YY : ∀ k, Y1 k → ¬ ownB x.pp k ∧ ¬ k = r := fun k hk => ⟨fun hh => (hY k hk).2 (.inr (.inr (.inl hh))), fun hh => (hY k hk).2 (.inl hh)⟩
  have yold : ∀ k, x.Y k → ¬ ownB x.pp k ∧ ¬ k = r := fun k hk => ⟨no2 k (by rw [hc.cy k hk]; omega), no0 k (by rw [hc.cy k hk]; omega)⟩
  have hq : ∀ i (h1 : i < (x.ql ++ [(ep, t)]).length) (h2 : i < (pl ++ [(ep, cs)]).length), (x.ql ++ [(ep, t)])[i].1 = (pl ++ [(ep, cs)])[i].1 ∧ ChF w3 (x.ql ++ [(ep, t)])[i].2 (pl ++ [(ep, cs)])[i].2 (fun k => x.Y k ∨ Y1 k) := by
    intro i h1 h2
    rw [List.length_append, List.length_singleton] at h1 h2
    by_cases e : i < x.ql.length
    · have e' : i < pl.length := by rw [← h.len]; exact e
      rw [List.getElem_append_left e, List.getElem_append_left e']
      obtain ⟨q1, q2⟩ := h.q i e e'
      exact ⟨q1, ((q2.ext g2 (fun k hk => (yold k hk).1)).ext e3 (fun k hk => (yold k hk).2)).mono (fun k hk => .inl hk)⟩
    · have ei : i = x.ql.length := by omega
      have ei' : i = pl.length := by rw [← h.len]; exact ei
      have e1 : (x.ql ++ [(ep, t)])[i]'(by simp; omega) = (ep, t) := by rw [List.getElem_append_right (by omega)]; simp [ei]
      have e2 : (pl ++ [(ep, cs)])[i]'(by simp; omega) = (ep, cs) := by rw [List.getElem_append_right (by omega)]; simp [ei']
      rw [e1, e2]
      exact ⟨rfl, ((hC.ext g2 (fun k hk => (YY k hk).1)).ext e3 (fun k hk => (YY k hk).2)).mono (fun k hk => .inr hk)⟩
  refine ⟨⟨o3, (h.s.ext g2 (fun k hk => no2 k (by rw [hc.cs k hk]; omega))).ext e3 (fun k hk => no0 k (by rw [hc.cs k hk]; omega)), ?_, by simp [h.len], hq, ?_, fun i hi => ((h.st i hi).ext g2 (fun k hk => no2 k (by rw [hc.ci i hi k hk]; omega))).ext e3 (fun k hk => no0 k (by rw [hc.ci i hi k hk]; omega)), @ite _ (c r = 0) (instDecidableEqNat _ _) (fun k => @ite _ (Y1 k) (Classical.propDecidable _) 3 (if k < w.heap.size then c k else 2)) c, ?_⟩, ?_⟩
  · have := g1.ext e3 (fun k hk => sr k hk) (fun k hk => ?_)
    · have e9 : x.ql.map plC ++ [plC (ep, t)] = (x.ql ++ [(ep, t)]).map plC := by simp
      rw [e9] at this; exact this
    · obtain ⟨cs', hcs, hk'⟩ := hk
      have e9 : x.ql.map plC ++ [plC (ep, t)] = (x.ql ++ [(ep, t)]).map plC := by simp
      rw [e9] at hcs
      obtain ⟨y, hy, rfl⟩ := List.mem_map.1 hcs
      obtain ⟨i, hi, rfl⟩ := List.getElem_of_mem hy
      have h9 := (hq i hi (by simp at hi ⊢; rw [← h.len]; exact hi)).2.y k (foot_pl hk')
      rcases h9 with h9 | h9
      · exact (yold k h9).2
      · exact (YY k h9).2
  · rintro k (hk | hk)
    · have := h.yb k hk; omega
    · have := (hY k hk).1; omega
  · rw [if_pos hc.cr]
    refine ⟨?_, fun k hk => ?_, fun k hk => ?_, fun k hk => ?_, fun i hi k hk => ?_⟩
    · rw [@if_neg _ (Classical.propDecidable _) (fun hh => (hY r hh).2 (.inl rfl)), if_pos h.o.lt]; exact hc.cr
    · rw [@if_neg _ (Classical.propDecidable _) (fun hh => (hY k hh).2 (.inr (.inl hk))), if_pos (lt k (.inr (.inl hk)))]; exact hc.cs k hk
    · rcases g3 k hk with g | g
      · rw [@if_neg _ (Classical.propDecidable _) (fun hh => (hY k hh).2 (.inr (.inr (.inl g)))), if_pos (lt k (.inr (.inr (.inl g))))]; exact hc.cp k g
      · rw [@if_neg _ (Classical.propDecidable _) (fun hh => by have := (hY k hh).1; omega), if_neg (by omega)]
    · rcases hk with hk | hk
      · by_cases e : Y1 k
        · rw [@if_pos _ (Classical.propDecidable _) e]
        · rw [@if_neg _ (Classical.propDecidable _) e, if_pos (h.yb k hk)]; exact hc.cy k hk
      · rw [@if_pos _ (Classical.propDecidable _) hk]
    · rw [@if_neg _ (Classical.propDecidable _) (fun hh => (hY k hh).2 (.inr (.inr (.inr ⟨i, hi, hk⟩)))), if_pos (lt k (.inr (.inr (.inr ⟨i, hi, hk⟩))))]; exact hc.ci i hi k hk
  · refine ⟨(g2.mono (fun k hk => .inr (.inr (.inl hk)))).trans e3 (fun _ h => h) (fun k hk => .inl (.inl hk)), ?_⟩
    rintro k (hk | hk | hk | hk)
    · exact .inl (.inl hk)
    · exact .inl (.inr (.inl hk))
    · exact (g3 k hk).imp (fun g => .inr (.inr (.inl g))) (fun g => g)
    · exact .inl (.inr (.inr (.inr hk)))
/-- A seat more. -/
theorem BkAt.addSeat {E T : TypeId} {K : Slc → World → Prop} (h : BkAt w r x up f pl N) {p : SeatP} (hs : SeatAt w p (up x.n) (f x.n) N) (hp : ∀ k, SeatB p k → ¬ BkB r x k ∧ ¬ x.Y k) {r9 : Nat} (hb : w.heap[r9]? = some (.cells ⟨[ptrR' p.o]⟩ T)) (hl : x.n < 2 ^ 29)
    (hK : ∀ (s' : Slc) (w2 : World), (canW w2 (⟨r, 0, none⟩ : Addr) 1 ∧ ∀ w3 : World, w3 = World.setCell w2 (⟨r, 0, none⟩ : Addr) s'.v → BkAt w3 r { x with ss := s', n := x.n + 1, ps := updF x.ps x.n p } up f pl N ∧ Ext (BkB r x) w w3 ∧ ∀ k, BkB r { x with ss := s', n := x.n + 1, ps := updF x.ps x.n p } k → BkB r x k ∨ SeatB p k ∨ w.heap.size ≤ k) → K s' w2) :
    appendS 1 E [.pointer none] w x.ss (.slc ⟨some ⟨r9, 0, none⟩, 1, 1⟩) K := by
  obtain ⟨c, hc⟩ := h.c
  have lt := h.lt
  have hsrc : srcAt w 1 (.slc ⟨some ⟨r9, 0, none⟩, 1, 1⟩) [ptrR' p.o] := srcAt_slc (Own.new (sz := 1) (n := 1) hb (.inl (by simp)) rfl).cells rfl
  refine appendS_own h.s (by omega) rfl hsrc (by intro v hv; simp at hv; subst hv; rfl) (by simp only [Src.n]; rw [h.sl]; omega) (fun s' w2 g1 g2 g3 g4 => hK s' w2 ?_)
  have no1 : ∀ k, c k ≠ 1 → ¬ ownB x.ss k := fun k h1 h2 => h1 (hc.cs k h2)
  have o2 := h.o.ext g2 (no1 r (by rw [hc.cr]; omega))
  obtain ⟨c1, c2⟩ := o2.setOne 0 (by simp) s'.v
  refine ⟨c1, fun w3 hw3 => ?_⟩
  obtain ⟨o3, e3, z3⟩ := c2 w3 hw3
  have z2 := g2.size
  have no0 : ∀ k, c k ≠ 0 → ¬ k = r := fun k h1 h2 => h1 (by rw [h2]; exact hc.cr)
  have sr : ∀ k, ownB s' k → ¬ k = r := fun k hk => by
    rcases g3 k hk with g | g
    · exact no0 k (by rw [hc.cs k g]; omega)
    · have := lt r (.inl rfl); omega
  have hsl := hs.lt
  have pn : ∀ k, SeatB p k → ¬ ownB x.ss k ∧ ¬ k = r := fun k hk => ⟨fun hh => (hp k hk).1 (.inr (.inl hh)), fun hh => (hp k hk).1 (.inl hh)⟩
  have psn : ∀ i, i < x.n → updF x.ps x.n p i = x.ps i := fun i hi => updF_ne _ _ (by omega)
  refine ⟨⟨o3, ?_, (h.p.ext g2 (fun k hk => no1 k (by rw [hc.cp k hk]; omega)) (fun k hk => ?_)).ext e3 (fun k hk => no0 k (by rw [hc.cp k hk]; omega)) (fun k hk => ?_), h.len, fun i hi hi' => ⟨(h.q i hi hi').1, ((h.q i hi hi').2.ext g2 (fun k hk => no1 k (by rw [hc.cy k hk]; omega))).ext e3 (fun k hk => no0 k (by rw [hc.cy k hk]; omega))⟩, fun k hk => by have := h.yb k hk; omega, fun i hi => ?_, fun k => @ite _ (SeatB p k) (Classical.propDecidable _) (4 + x.n) (if k < w.heap.size then c k else 1), ?_, fun k hk => ?_, fun k hk => ?_, fun k hk => ?_, fun i hi k hk => ?_⟩, (g2.mono (fun k hk => .inr (.inl hk))).trans e3 (fun _ h => h) (fun k hk => .inl (.inl hk)), ?_⟩
  · have := g1.ext e3 (fun k hk => sr k hk)
    show Own w3 s' 1 ((List.range (x.n + 1)).map fun i => ptrR' (updF x.ps x.n p i).o)
    rw [List.range_succ, List.map_append, List.map_singleton, updF_same]
    have e9 : (List.range x.n).map (fun i => ptrR' (updF x.ps x.n p i).o) = (List.range x.n).map fun i => ptrR' (x.ps i).o := by
      apply List.map_congr_left
      intro i hi
      rw [psn i (List.mem_range.1 hi)]
    rw [e9]; exact this
  · obtain ⟨cs', hcs, hk'⟩ := hk
    obtain ⟨y, hy, rfl⟩ := List.mem_map.1 hcs
    obtain ⟨i, hi, rfl⟩ := List.getElem_of_mem hy
    have := (h.q i hi (by rw [← h.len]; exact hi)).2.y k (foot_pl hk')
    exact no1 k (by rw [hc.cy k this]; omega)
  · obtain ⟨cs', hcs, hk'⟩ := hk
    obtain ⟨y, hy, rfl⟩ := List.mem_map.1 hcs
    obtain ⟨i, hi, rfl⟩ := List.getElem_of_mem hy
    have := (h.q i hi (by rw [← h.len]; exact hi)).2.y k (foot_pl hk')
    exact no0 k (by rw [hc.cy k this]; omega)
  · have hi' : i < x.n + 1 := hi
    show SeatAt w3 (updF x.ps x.n p i) (up i) (f i) N
    by_cases e : i = x.n
    · rw [e, updF_same]
      exact (hs.ext g2 (fun k hk => (pn k hk).1)).ext e3 (fun k hk => (pn k hk).2)
    · rw [psn i (by omega)]
      exact ((h.st i (by omega)).ext g2 (fun k hk => no1 k (by rw [hc.ci i (by omega) k hk]; omega))).ext e3 (fun k hk => no0 k (by rw [hc.ci i (by omega) k hk]; omega))
  · rw [@if_neg _ (Classical.propDecidable _) (fun hh => (hp r hh).1 (.inl rfl)), if_pos h.o.lt]; exact hc.cr
  · rcases g3 k hk with g | g
    · rw [@if_neg _ (Classical.propDecidable _) (fun hh => (hp k hh).1 (.inr (.inl g))), if_pos (lt k (.inr (.inl g)))]; exact hc.cs k g
    · rw [@if_neg _ (Classical.propDecidable _) (fun hh => by have := hsl k hh; omega), if_neg (by omega)]
  · rw [@if_neg _ (Classical.propDecidable _) (fun hh => (hp k hh).1 (.inr (.inr (.inl hk)))), if_pos (lt k (.inr (.inr (.inl hk))))]; exact hc.cp k hk
  · rw [@if_neg _ (Classical.propDecidable _) (fun hh => (hp k hh).2 hk), if_pos (h.yb k hk)]; exact hc.cy k hk
  · have hk' : SeatB (updF x.ps x.n p i) k := hk
    have hi' : i < x.n + 1 := hi
    by_cases e : i = x.n
    · rw [e, updF_same] at hk'
      rw [@if_pos _ (Classical.propDecidable _) hk', e]
    · rw [psn i (by omega)] at hk'
      rw [@if_neg _ (Classical.propDecidable _) (fun hh => (hp k hh).1 (.inr (.inr (.inr ⟨i, by omega, hk'⟩)))), if_pos (lt k (.inr (.inr (.inr ⟨i, by omega, hk'⟩))))]; exact hc.ci i (by omega) k hk'
  · rintro k (hk | hk | hk | ⟨i, hi, hk⟩)
    · exact .inl (.inl hk)
    · exact (g3 k hk).imp (fun g => .inr (.inl g)) .inr
    · exact .inl (.inr (.inr (.inl hk)))
    · have hk' : SeatB (updF x.ps x.n p i) k := hk
      have hi' : i < x.n + 1 := hi
      by_cases e : i = x.n
      · rw [e, updF_same] at hk'
        exact .inr (.inl hk')
      · rw [psn i (by omega)] at hk'
        exact .inl (.inr (.inr (.inr ⟨i, by omega, hk'⟩)))
end
/-- A new book. -/
theorem bkNew_spec (A : Nat → Addr) {n0 : Nat} (n : Nat) (hn : 1 ≤ n ∧ n ≤ 5) (ep : Int) (s : Slc) (cs : List (List Int)) (w : World) (h : Chs w s cs) (hr : RightP ep cs) :
    Calls Tryd.prog fn_book_New ⟨[.int .i64 (n : Int), .agg ⟨[.int .i64 ep, s.v]⟩]⟩ w fun e w' => ∃ r x, e = .returned (.tuple ⟨[ptrR' r, .nilIface]⟩) ∧ BkAt w' r x (fun _ => true) (fun _ _ => VS.new) [(ep, cs)] 0 ∧ x.n = n ∧ (∀ k, BkB r x k → w.heap.size ≤ k) ∧ (∀ k, x.Y k → w.heap.size ≤ k) ∧ Keep w w' := by
  refine book_New_ok _ _ _ ?_
  unfold book_New
  obtain ⟨v1, v2, v3, v4⟩ := hr
  refine newS_mk (fun r4 w5 hr4 hb4 k4 hs4 => ?_)
  have o4 := ObjAt.new' hb4
  refine ⟨fun w2 => Keep w5 w2, BIf_dec (fun h0 => by omega) (fun _ => BIf_dec (fun h0 => by omega) (fun _ => ⟨_, _, o4.row, (Right_spec ep s cs w5 (h.keep k4) (by omega)).mono ?_⟩)), ?_⟩
  · rintro e w12 ⟨b, rfl, hb, k12⟩
    exact ⟨_, rfl, BIf_mk (fun hh => by rw [hb.2 ⟨v1, v2, v3, v4⟩] at hh; cases hh) (fun _ => k12)⟩
  rintro w15 k15
  intros
  have kk := k4.trans k15
  refine ⟨_, _, (o4.keep k15).row, (Copy_spec ep s cs w15 (h.keep kk) (by omega) (fun c hc => by have := (v3 c hc).2.1; omega)).mono ?_⟩
  rintro e w34 ⟨t, ts, rfl, hO, hB, k34⟩
  refine ⟨_, _, rfl, newS_mk (fun r37 w38 hr37 hb37 k37 hs37 => newS_mk (fun r39 w40 hr39 hb39 k39 hs39 => ?_))⟩
  have kA := kk.trans k34
  have olt := hO.lt
  have z34 := kA.size
  have z15 := kk.size
  have z38 := k37.size
  have z40 := k39.size
  have kAll : Keep w w40 := (kA.trans k37).trans k39
  have hb37' := k39.heap hb37
  have B0 : BkAt w40 r39 ⟨⟨none, 0, 0⟩, ⟨some ⟨r37, 0, none⟩, 1, 1⟩, 0, fun _ => ⟨0, 0, fun _ => False, ⟨none, 0, 0⟩⟩, [(ep, t)], ChB t ts⟩ (fun _ => true) (fun _ _ => VS.new) [(ep, cs)] 0 := by
    have hC40 := ((ChF.of hO).keep k37).keep k39
    have ob : ∀ k, ownB (⟨some ⟨r37, 0, none⟩, 1, 1⟩ : Slc) k → k = r37 := by rintro k ⟨a, ha, rfl⟩; cases ha; rfl
    have nob : ∀ k, ¬ ownB (⟨none, 0, 0⟩ : Slc) k := by rintro k ⟨a, ha, _⟩; cases ha
    refine ⟨ObjAt.new' hb39, Own.nil _ _, ⟨Own.new (sz := 2) (n := 1) hb37' (.inl (by simp)) rfl, rfl, fun i h1 h2 => ?_, fun k hk hh => ?_⟩, rfl, fun i h1 h2 => ?_, fun k hk => ?_, (fun i hi => by cases hi), fun k => if k = r39 then 0 else if k = r37 then 2 else 3, ?_, fun k hk => (nob k hk).elim, fun k hk => ?_, fun k hk => ?_, (fun i hi => by cases hi)⟩
    · have : i = 0 := by simp at h1; omega
      subst this
      exact ⟨rfl, fun k hk => by have := olt k (.inl hk); omega⟩
    · have h9 := ob k hh
      obtain ⟨cs', hcs, hk'⟩ := hk
      rw [List.map_singleton, List.mem_singleton] at hcs
      rw [hcs] at hk'
      have := olt k (.inl (foot_pl hk')); omega
    · have : i = 0 := by simp at h1; omega
      subst this
      exact ⟨rfl, hC40⟩
    · have := olt k hk; omega
    · rw [if_pos rfl]
    · have := ob k hk
      rw [if_neg (by omega), if_pos this]
    · have := olt k hk
      rw [if_neg (by omega), if_neg (by omega)]
  have B0n : ∀ k, BkB r39 ⟨⟨none, 0, 0⟩, ⟨some ⟨r37, 0, none⟩, 1, 1⟩, 0, fun _ => ⟨0, 0, fun _ => False, ⟨none, 0, 0⟩⟩, [(ep, t)], ChB t ts⟩ k → w.heap.size ≤ k := by
    rintro k (hk | ⟨a, ha, _⟩ | ⟨a, ha, rfl⟩ | ⟨i, hi, _⟩)
    · omega
    · cases ha
    · cases ha; show _ ≤ r37; omega
    · cases hi
  refine ⟨fun i w2 => ∃ (k : Nat) (x : BkP), i = k ∧ k ≤ n ∧ x.n = k ∧ BkAt w2 r39 x (fun _ => true) (fun _ _ => VS.new) [(ep, cs)] 0 ∧ (∀ j, BkB r39 x j → w.heap.size ≤ j) ∧ (∀ j, x.Y j → w.heap.size ≤ j) ∧ Keep w w2, fun i _ => ((n : Int) - i).toNat,
    ⟨0, _, rfl, by omega, rfl, B0, B0n, fun k hk => by have := hB k hk; omega, kAll⟩, ?_⟩
  rintro i w44 ⟨k, x, rfl, hk, hxn, hBk, hBn, hYn, kw⟩
  intros
  refine BIf_dec (fun h0 => ?_) (fun h0 => ⟨r39, x, rfl, hBk, by omega, hBn, hYn, kw⟩)
  have lt := hBk.lt
  refine ⟨_, hBk.c0, newS_mk (fun r61 w62 hr61 hb61 k61 hs61 => newS_mk (fun r63 w64 hr63 hb63 k63 hs63 => newS_mk (fun r65 w66 hr65 hb65 k65 hs65 => ?_)))⟩
  have k66 := (k61.trans k63).trans k65
  have z62 := k61.size
  have z64 := k63.size
  have z66 := k65.size
  have hv : VoterAt w66 r61 (fun k => k = r61) (fun _ => VS.new) := ((VoterAt.new hb61).keep k63).keep k65
  have nob : ∀ k, ¬ ownB (⟨none, 0, 0⟩ : Slc) k := by rintro k ⟨a, ha, _⟩; cases ha
  have hst : SeatAt w66 ⟨r63, r61, fun k => k = r61, ⟨none, 0, 0⟩⟩ true (fun _ => VS.new) 0 :=
    ⟨(ObjAt.new' hb63).keep k65, hv, ⟨[], [], Rows.nil _ _, Nat.le_refl _⟩, fun k hk => by have h9 : k = r61 := hk; omega, fun hh => by have h9 : r63 = r61 := hh; omega, nob _, fun k _ => nob k⟩
  have hsb : ∀ j, SeatB ⟨r63, r61, fun k => k = r61, ⟨none, 0, 0⟩⟩ j → w44.heap.size ≤ j := by
    rintro j (hj | hj | hj)
    · have h9 : j = r63 := hj; omega
    · have h9 : j = r61 := hj; omega
    · exact (nob j hj).elim
  refine (hBk.keep k66).addSeat hst (fun j hj => ⟨fun hh => by have := hsb j hj; have := lt j hh; omega, fun hh => by have := hsb j hj; have := hBk.yb j hh; omega⟩) hb65 (by omega) (fun s67 w68 hK => ⟨hK.1, fun w69 hw69 => ?_⟩)
  obtain ⟨B69, x69, f69⟩ := hK.2 w69 hw69
  have z44 := kw.size
  refine ⟨inR64 (by omega), ⟨k + 1, _, rfl, by omega, by show x.n + 1 = _; omega, B69, fun j hj => ?_, hYn, (kw.trans k66).ext x69 hBn⟩, by dsimp only; omega⟩
  rcases f69 j hj with g | g | g
  · exact hBn j g
  · have := hsb j g; omega
  · omega
end Go.D

set_option linter.unusedVariables false
set_option linter.unusedSimpArgs false
namespace Go.D
open Go Go.Proofs

theorem voteNew_good (n m b : Int) (t : List UInt8) (w : World) (hn : 1 ≤ n ∧ n ≤ 5) (hb : 0 ≤ b) :
    Calls Tryd.prog fn_vote_New ⟨[.int .i64 n, .int .i64 m, .int .i64 b, strV t]⟩ w fun e w' => Keep w w' ∧ ∃ r rp ra, e = .returned (.tuple ⟨[.pointer (some ⟨r, 0, none⟩), .nilIface]⟩) ∧ PropAt w' r rp ra ⟨n, b, t, -1, [], [], 0, 0⟩ ∧ ∀ k, PropM r rp ra k → w.heap.size ≤ k := by
  refine vote_New_ok _ _ _ _ ?_
  unfold vote_New
  refine BIf_dec (fun h1 => by omega) (fun h1 => BIf_dec (fun h2 => by omega) (fun h2 => BIf_dec (fun h3 => by omega) (fun h3 => ?_)))
  refine newS_mk (fun r8 w9 hr8 hb8 k8 hs8 => newS_mk (fun r10 w11 hr10 hb10 k10 hs10 => newS_mk (fun r12 w13 hr12 hb12 k12 hs12 => ?_)))
  refine ⟨(k8.trans k10).trans k12, r12, r8, r10, rfl, ⟨ObjAt.new' hb12, MapAt.keep (MapAt.new hb8) (k10.trans k12), MapAt.keep (MapAt.new hb10) k12, by omega⟩, ?_⟩
  rintro k (rfl | rfl | rfl) <;> omega
theorem promise_n5 (s : PS) (i : Int) (y : Bool) (b : Int) (t : List UInt8) : (s.promise i y b t).n = s.n ∧ (s.promise i y b t).yes ≤ s.yes + 1 ∧ (s.promise i y b t).done = s.done := by
  rw [PS.promise]
  split
  · split
    · split <;> simp
    · simp
  · simp
theorem accepted_n5 (s : PS) (i : Int) (y : Bool) : (s.accepted i y).n = s.n ∧ (s.accepted i y).yes = s.yes ∧ (s.accepted i y).done ≤ s.done + 1 ∧ (s.accepted i y).t = s.t := by
  rw [PS.accepted]
  split
  · refine ⟨rfl, rfl, ?_, rfl⟩
    dsimp only
    split <;> omega
  · simp

/-! ### a proposal, plainly -/
abbrev BkS := (Nat → Int → VS) × PS
def toB (n : Nat) (up : Nat → Bool) (i : Int) : Bool := decide (0 ≤ i ∧ i < (n : Int)) && up i.toNat
def prepS (n : Nat) (up : Nat → Bool) (ep ballot : Int) (st : BkS) (i : Int) : BkS :=
  if toB n up i = true then (updF st.1 i.toNat (prepF (st.1 i.toNat) ep ballot), st.2.promise i (decide ((st.1 i.toNat ep).p < ballot)) (st.1 i.toNat ep).b (st.1 i.toNat ep).t) else st
def accS (n : Nat) (up : Nat → Bool) (ep ballot : Int) (want : List UInt8) (st : BkS) (i : Int) : BkS :=
  if toB n up i = true then (updF st.1 i.toNat (accF (st.1 i.toNat) ep ballot want), st.2.accepted i (decide (0 ≤ ballot ∧ (st.1 i.toNat ep).p ≤ ballot))) else st
def prepP (n : Nat) (up : Nat → Bool) (f : Nat → Int → VS) (ep ballot : Int) (t : List UInt8) (l : List Int) : BkS := l.foldl (prepS n up ep ballot) (f, ⟨n, ballot, t, -1, [], [], 0, 0⟩)
def accP (n : Nat) (up : Nat → Bool) (ep ballot : Int) (st : BkS) (l : List Int) : BkS := if st.2.most st.2.yes then l.foldl (accS n up ep ballot st.2.t) st else st
def propP (n : Nat) (up : Nat → Bool) (f : Nat → Int → VS) (ep ballot : Int) (t : List UInt8) (l : List Int) : BkS := accP n up ep ballot (prepP n up f ep ballot t l) l
theorem fold_take {α β : Type} (g : β → α → β) (b : β) (l : List α) (k : Nat) (hk : k < l.length) : (l.take (k + 1)).foldl g b = g ((l.take k).foldl g b) l[k] := by
  rw [List.take_succ_eq_append_getElem hk, List.foldl_append]; rfl
theorem prep_n (n : Nat) (up : Nat → Bool) (ep ballot : Int) : ∀ (l : List Int) (st : BkS), (l.foldl (prepS n up ep ballot) st).2.n = st.2.n ∧ (l.foldl (prepS n up ep ballot) st).2.yes ≤ st.2.yes + l.length ∧ (l.foldl (prepS n up ep ballot) st).2.done = st.2.done
  | [], st => ⟨rfl, by simp, rfl⟩
  | i :: l, st => by
    obtain ⟨h1, h2, h3⟩ := prep_n n up ep ballot l (prepS n up ep ballot st i)
    rw [List.foldl_cons, List.length_cons]
    have : (prepS n up ep ballot st i).2.n = st.2.n ∧ (prepS n up ep ballot st i).2.yes ≤ st.2.yes + 1 ∧ (prepS n up ep ballot st i).2.done = st.2.done := by
      unfold prepS
      split
      · exact promise_n5 _ _ _ _ _
      · exact ⟨rfl, by omega, rfl⟩
    exact ⟨by rw [h1, this.1], by omega, by rw [h3, this.2.2]⟩
theorem acc_n (n : Nat) (up : Nat → Bool) (ep ballot : Int) (want : List UInt8) : ∀ (l : List Int) (st : BkS), (l.foldl (accS n up ep ballot want) st).2.n = st.2.n ∧ (l.foldl (accS n up ep ballot want) st).2.yes = st.2.yes ∧ (l.foldl (accS n up ep ballot want) st).2.done ≤ st.2.done + l.length ∧ (l.foldl (accS n up ep ballot want) st).2.t = st.2.t
  | [], st => ⟨rfl, rfl, by simp, rfl⟩
  | i :: l, st => by
    obtain ⟨h1, h2, h3, h4⟩ := acc_n n up ep ballot want l (accS n up ep ballot want st i)
    rw [List.foldl_cons, List.length_cons]
    have : (accS n up ep ballot want st i).2.n = st.2.n ∧ (accS n up ep ballot want st i).2.yes = st.2.yes ∧ (accS n up ep ballot want st i).2.done ≤ st.2.done + 1 ∧ (accS n up ep ballot want st i).2.t = st.2.t := by
      unfold accS
      split
      · exact accepted_n5 _ _ _
      · exact ⟨rfl, rfl, by omega, rfl⟩
    exact ⟨by rw [h1, this.1], by rw [h2, this.2.1], by omega, by rw [h4, this.2.2.2]⟩

/-! ### a proposal under way -/
structure PrP where
  rq : Nat
  rp : Nat
  ra : Nat
  r6 : Nat
  r8 : Nat
  c6 : List Value
  c8 : List Value
  asked : Slc
  l : List Int
structure PR (w0 w : World) (r : Nat) (x x2 : BkP) (up : Nat → Bool) (f2 : Nat → Int → VS) (pl : List PlS) (N2 : Nat) (z : PrP) (s2 : PS) : Prop where
  B : BkAt w r x2 up f2 pl N2
  n : x2.n = x.n ∧ x2.Y = x.Y
  P : PropAt w z.rq z.rp z.ra s2
  F : Foot (BkB r x) (BkB r x2) w0 w
  a : ∀ j, BkB r x2 j → ¬ PropM z.rq z.rp z.ra j ∧ j ≠ z.r6 ∧ j ≠ z.r8 ∧ (z.l ≠ [] → ¬ ownB z.asked j)
  pm : ∀ j, PropM z.rq z.rp z.ra j → w0.heap.size ≤ j ∧ j ≠ z.r6 ∧ j ≠ z.r8 ∧ ¬ x.Y j
  pa : z.l ≠ [] → ∀ j, ownB z.asked j → ¬ PropM z.rq z.rp z.ra j
  o6 : ObjAt w z.r6 z.c6
  o8 : ObjAt w z.r8 z.c8
  li : z.l ≠ [] → intsAt w z.asked z.l
section
variable {w0 w w' : World} {r : Nat} {x x2 : BkP} {up : Nat → Bool} {f2 : Nat → Int → VS} {pl : List PlS} {N2 : Nat} {z : PrP} {s2 : PS}
theorem PR.keep (h : PR w0 w r x x2 up f2 pl N2 z s2) (hk : Keep w w') : PR w0 w' r x x2 up f2 pl N2 z s2 :=
  ⟨h.B.keep hk, h.n, h.P.keep hk, h.F.keep hk, h.a, h.pm, h.pa, h.o6.keep hk, h.o8.keep hk, fun hl => intsAt_keep (h.li hl) hk⟩
theorem PR.seat (h : PR w0 w r x x2 up f2 pl N2 z s2) {i : Nat} (hi : i < x.n) {p' : SeatP} {f' : Int → VS} {N' : Nat} (ho : p'.o = (x2.ps i).o) (hs : SeatAt w' p' (up i) f' N') (hf : Foot (SeatB (x2.ps i)) (SeatB p') w w') (hN : N2 ≤ N') :
    ∃ x3, PR w0 w' r x x3 up (updF f2 i f') pl N' z s2 ∧ Foot (BkB r x2) (BkB r x3) w w' := by
  have hi2 : i < x2.n := by rw [h.n.1]; exact hi
  obtain ⟨h1, h2⟩ := h.B.seat hi2 ho hs hf hN
  have e : updF up i (up i) = up := by funext k; unfold updF; split <;> simp_all
  rw [e] at h1
  have sub : ∀ j, SeatB (x2.ps i) j → BkB r x2 j := fun j hj => .inr (.inr (.inr ⟨i, hi2, hj⟩))
  have lt := h.P.lt
  refine ⟨_, ⟨h1, h.n, h.P.ext hf.1 (fun j hj hh => (h.a j (sub j hh)).1 hj), h.F.trans h2, fun j hj => ?_, h.pm, h.pa, h.o6.ext hf.1 (fun hh => (h.a _ (sub _ hh)).2.1 rfl), h.o8.ext hf.1 (fun hh => (h.a _ (sub _ hh)).2.2.1 rfl), fun hl => intsAt_ext (h.li hl) hf.1 (fun j hj hh => (h.a j (sub j hh)).2.2.2 hl hj)⟩, h2⟩
  rcases h2.2 j hj with g | g
  · exact h.a j g
  · have l6 := h.o6.lt
    have l8 := h.o8.lt
    exact ⟨fun hh => by have := lt j hh; omega, by omega, by omega, fun hl hh => by have := intsAt_lt (h.li hl) hl j hh; omega⟩
theorem PR.prop (h : PR w0 w r x x2 up f2 pl N2 z s2) {s3 : PS} (hP : PropAt w' z.rq z.rp z.ra s3) (he : Ext (PropM z.rq z.rp z.ra) w w') : PR w0 w' r x x2 up f2 pl N2 z s3 := by
  refine ⟨h.B.ext he (fun j hj hh => (h.a j hj).1 hh) (fun j hj hh => (h.pm j hh).2.2.2 (by rw [← h.n.2]; exact hj)), h.n, hP, ?_, h.a, h.pm, h.pa, h.o6.ext he (fun hh => (h.pm _ hh).2.1 rfl), h.o8.ext he (fun hh => (h.pm _ hh).2.2.1 rfl), fun hl => intsAt_ext (h.li hl) he (fun j hj hh => h.pa hl j hj hh)⟩
  exact ⟨h.F.1.trans he (fun _ h => h) (fun j hj => .inr (h.pm j hj).1), h.F.2⟩
theorem PR.side (h : PR w0 w r x x2 up f2 pl N2 z s2) {r9 : Nat} (he : Ext (fun k => k = r9) w w') (h0 : w0.heap.size ≤ r9) (hb : ¬ BkB r x2 r9) (hy : ¬ x.Y r9) (hp : ¬ PropM z.rq z.rp z.ra r9) (h6 : r9 ≠ z.r6) (h8 : r9 ≠ z.r8) (hl : z.l ≠ [] → ¬ ownB z.asked r9) : PR w0 w' r x x2 up f2 pl N2 z s2 := by
  refine ⟨h.B.ext he (fun j hj hh => hb (by rw [← show j = r9 from hh]; exact hj)) (fun j hj hh => hy (by rw [← show j = r9 from hh, ← h.n.2]; exact hj)), h.n, h.P.ext he (fun j hj hh => hp (by rw [← show j = r9 from hh]; exact hj)), ⟨h.F.1.trans he (fun _ h => h) (fun j hj => .inr (by rw [show j = r9 from hj]; exact h0)), h.F.2⟩, h.a, h.pm, h.pa, h.o6.ext he (fun hh => h6 (show z.r6 = r9 from hh).symm), h.o8.ext he (fun hh => h8 (show z.r8 = r9 from hh).symm), fun hn => intsAt_ext (h.li hn) he (fun j hj hh => hl hn (by rw [← show j = r9 from hh]; exact hj))⟩
theorem PR.new (h : PR w0 w r x x2 up f2 pl N2 z s2) {k : Nat} (hk : w.heap.size ≤ k) : ¬ BkB r x2 k ∧ ¬ x.Y k ∧ ¬ PropM z.rq z.rp z.ra k ∧ k ≠ z.r6 ∧ k ≠ z.r8 ∧ (z.l ≠ [] → ¬ ownB z.asked k) := by
  have h6 := h.o6.lt
  have h8 := h.o8.lt
  exact ⟨fun hh => by have := h.B.lt k hh; omega, fun hh => by have := h.B.yb k (by rw [h.n.2]; exact hh); omega, fun hh => by have := h.P.lt k hh; omega, by omega, by omega, fun hl hh => by have := intsAt_lt (h.li hl) hl k hh; omega⟩
theorem PR.mono {N' : Nat} (h : PR w0 w r x x2 up f2 pl N2 z s2) (hN : N2 ≤ N') : PR w0 w r x x2 up f2 pl N' z s2 := ⟨h.B.mono hN, h.n, h.P, h.F, h.a, h.pm, h.pa, h.o6, h.o8, h.li⟩
end
theorem toB_true {n : Nat} {up : Nat → Bool} {i : Int} (h : toB n up i = true) : ∃ j : Nat, i = j ∧ j < n ∧ up j = true := by
  unfold toB at h
  rw [Bool.and_eq_true, decide_eq_true_eq] at h
  obtain ⟨⟨h1, h2⟩, h3⟩ := h
  exact ⟨i.toNat, by omega, by omega, h3⟩
end Go.D

set_option linter.unusedVariables false
set_option linter.unusedSimpArgs false
namespace Go.D
open Go Go.Proofs

section
variable {w : World} {r : Nat} {x : BkP} {up : Nat → Bool} {f : Nat → Int → VS} {pl : List PlS} {N : Nat}
/-- What a proposal comes to. -/
def PropOut (w : World) (r : Nat) (x : BkP) (up : Nat → Bool) (f : Nat → Int → VS) (pl : List PlS) (N : Nat) (ballot ep : Int) (cs : List (List Int)) (l : List Int) (csd : List (List Int)) (P : Prop) (q : Int) (t : Slc) (e' : Option Nat) (w' : World) : Prop :=
  ∃ x' f' pl', x'.n = x.n ∧ BkAt w' r x' up f' pl' (N + 2 * l.length) ∧ Foot (BkB r x) (BkB r x') w w' ∧ (∀ k, x'.Y k → x.Y k ∨ w.heap.size ≤ k) ∧
    ((¬ P ∧ (e' = some 3 ∨ e' = some 13) ∧ f' = f ∧ pl' = pl) ∨
     (P ∧ ¬ (propP x.n up f ep ballot (planB ep cs) l).2.most (propP x.n up f ep ballot (planB ep cs) l).2.done ∧ e' = some 11 ∧ f' = (propP x.n up f ep ballot (planB ep cs) l).1 ∧ pl' = pl) ∨
     (P ∧ (propP x.n up f ep ballot (planB ep cs) l).2.most (propP x.n up f ep ballot (planB ep cs) l).2.done ∧ e' = none ∧ f' = (propP x.n up f ep ballot (planB ep cs) l).1 ∧ q = ep ∧
       RightP ep csd ∧ (propP x.n up f ep ballot (planB ep cs) l).2.t = planB ep csd ∧ pl' = pl ++ [(ep, csd)] ∧ ChF w' t csd (fun k => w.heap.size ≤ k ∧ k < w'.heap.size)))
theorem bkPropose_spec (A : Nat → Addr) {n0 : Nat} (h : BkAt w r x up f pl N) (hN : N ≤ 2 ^ 20) (hn : 1 ≤ x.n ∧ x.n ≤ 5) (hpl : 0 < pl.length) (hpl2 : pl.length ≤ 2 ^ 20) (hE : ErrsB A n0 w) (hn0 : n0 ≤ w.heap.size) (hB : ∀ k, BkB r x k → n0 ≤ k) (hlat : (pl[pl.length - 1]'(by omega)).1 ≤ 2 ^ 40 ∧ 0 ≤ (pl[pl.length - 1]'(by omega)).1)
    (ballot ep : Int) (s : Slc) (cs : List (List Int)) (hC : Chs w s cs) (hcl : cs.length ≤ 2 ^ 40) (asked : Slc) (l : List Int) (hl : l.length ≤ 1000) (hal : asked.l = l.length) (ha : l ≠ [] → intsAt w asked l) (hab : l ≠ [] → ∀ j, ownB asked j → ¬ BkB r x j)
    (csd : List (List Int)) (hdec : RightP ep cs → 0 ≤ ballot → (propP x.n up f ep ballot (planB ep cs) l).2.most (propP x.n up f ep ballot (planB ep cs) l).2.done → RightP ep csd ∧ (propP x.n up f ep ballot (planB ep cs) l).2.t = planB ep csd) :
    Calls Tryd.prog fn_book_Book_Propose ⟨[ptrR' r, .int .i64 ballot, .agg ⟨[.int .i64 ep, s.v]⟩, asked.v]⟩ w fun e w' => ∃ (q : Int) (t : Slc) (e' : Option Nat), e = .returned (.tuple ⟨[.agg ⟨[.int .i64 q, t.v]⟩, errO A e']⟩) ∧ PropOut w r x up f pl N ballot ep cs l csd (RightP ep cs ∧ 0 ≤ ballot ∧ ep = (pl[pl.length - 1]'(by omega)).1 + 1) q t e' w' := by
  refine book_Book_Propose_ok _ _ _ _ _ ?_
  unfold book_Book_Propose
  refine newS_mk (fun r6 w7 hr6 hb6 k6 hs6 => newS_mk (fun r8 w9 hr8 hb8 k8 hs8 => ?_))
  have o6 := (ObjAt.new' hb6).keep k8
  have o8 := ObjAt.new' hb8
  have k9 := k6.trans k8
  have z7 := k6.size
  have z9 := k8.size
  refine ⟨_, _, o6.row, (PlanBytes_spec A ep s cs w9 (hC.keep k9) hcl (hE.keep k9)).mono ?_⟩
  rintro e w13 ⟨s14, eb, rfl, hb1, hb2, k13⟩
  have kk13 := k9.trans k13
  have lt := h.lt
  -- the answer of a call that fails
  have ans : ∀ {w5 w6 : World} {c : Nat}, Keep w w5 → ObjAt w5 r8 [.int .i64 0, (⟨none, 0, 0⟩ : Slc).v] → w6 = setCells w5 (⟨r8, 0, none⟩ : Addr) 0 [.int .i64 0, (⟨none, 0, 0⟩ : Slc).v] → ObjAt w6 r8 [.int .i64 0, (⟨none, 0, 0⟩ : Slc).v] ∧ Keep w w6 := by
    intro w5 w6 c hk ho hw
    obtain ⟨c1, c2⟩ := ho.setAll (n := 2) (cs := [.int .i64 0, (⟨none, 0, 0⟩ : Slc).v]) rfl rfl
    obtain ⟨o, e1, _⟩ := c2 w6 hw
    exact ⟨o, hk.ext e1 (fun k hk => by rw [show k = r8 from hk]; omega)⟩
  have can : ∀ {w5 : World}, ObjAt w5 r8 [.int .i64 0, (⟨none, 0, 0⟩ : Slc).v] → canW w5 (⟨r8, 0, none⟩ : Addr) 2 := fun ho => (ho.setAll (n := 2) (cs := [.int .i64 0, (⟨none, 0, 0⟩ : Slc).v]) rfl rfl).1
  have kd : ∀ w5 : World, Keep w5 (World.drew w5) := fun w5 => Ext.drew _ _
  refine ⟨_, _, rfl, fun w2 => Keep w13 w2 ∧ eb = none ∧ 0 ≤ ballot ∧ ep = (pl[pl.length - 1]'(by omega)).1 + 1, ⟨fun b w2 => b = (eb.isSome || decide (ballot < 0)) ∧ w2 = w13, ?_, ?_⟩, ?_⟩
  · refine ⟨errO_isI A _, BIf_mk (fun hh => ?_) (fun hh => ?_)⟩
    · rw [errO_nil] at hh
      exact ⟨by cases eb <;> simp_all, rfl⟩
    · rw [errO_nil] at hh
      exact ⟨by cases eb <;> simp_all, rfl⟩
  · rintro b w19 ⟨rfl, rfl⟩
    intros
    refine BIf_mk (fun hh => ?_) (fun hh => ?_)
    · have o5 := (o8.keep k13).keep (kd w19)
      have ke := kk13.trans (kd w19)
      refine ⟨_, errG_at (hE.keep ke).g 3 gl_ErrForm rfl (by decide), can o5, fun w27 hw27 => ?_⟩
      obtain ⟨o27, k27⟩ := ans (c := 0) ke o5 hw27
      refine ⟨⟨_, errG_at (hE.keep k27).g 3 gl_ErrForm rfl (by decide), rfl⟩, _, _, o27.row, _, _, some 3, rfl, x, f, pl, rfl, (h.keep k27).mono (by omega), k27.foot (Foot.refl _ _), fun k hk => .inl hk, .inl ⟨?_, .inl rfl, rfl, rfl⟩⟩
      rintro ⟨g1, g2, _⟩
      have := hb1.2 g1
      rw [this] at hh
      simp at hh; omega
    · have hen : eb = none ∧ 0 ≤ ballot := by cases eb <;> simp_all
      have ke := kk13.trans (kd w19)
      refine ⟨_, ((o6.keep k13).keep (kd w19)).cell 0 (by simp), (bklatest_spec (h.keep ke) hpl (by omega)).mono ?_⟩
      rintro e w33 ⟨sl, rfl, hCl, k33⟩
      have ke33 := ke.trans k33
      refine ⟨_, _, rfl, ⟨_, (((o6.keep k13).keep (kd w19)).keep k33).cell 0 (by simp), rfl⟩, inR64 (by omega), BIf_ndec (fun h1 => ?_) (fun h1 => ⟨(kd w19).trans k33, hen.1, hen.2, h1⟩)⟩
      have o5 := (((o8.keep k13).keep (kd w19)).keep k33).keep (kd w33)
      have ke2 := ke33.trans (kd w33)
      refine ⟨_, errG_at (hE.keep ke2).g 13 gl_ErrEpoch rfl (by decide), can o5, fun w38 hw38 => ?_⟩
      obtain ⟨o38, k38⟩ := ans (c := 0) ke2 o5 hw38
      exact ⟨⟨_, errG_at (hE.keep k38).g 13 gl_ErrEpoch rfl (by decide), rfl⟩, _, _, o38.row, _, _, some 13, rfl, x, f, pl, rfl, (h.keep k38).mono (by omega), k38.foot (Foot.refl _ _), fun k hk => .inl hk, .inl ⟨fun g => h1 g.2.2, .inr rfl, rfl, rfl⟩⟩
  rintro w42 ⟨k42, hen, hbal, hep⟩
  intros
  have hr : RightP ep cs := hb1.1 hen
  have kA := (kk13.trans k42).trans (kd w42)
  have hA := h.keep kA
  have o6A := ((o6.keep k13).keep k42).keep (kd w42)
  have o8A := ((o8.keep k13).keep k42).keep (kd w42)
  have hsl := hA.sl
  refine needSome_mk rfl ⟨_, hA.c0, _, o6A.cell 0 (by simp), _, bytesAt_keep (bytesAt_keep (hb2 hen) k42) (kd w42), ?_⟩
  rw [hsl]
  refine (voteNew_good (x.n : Int) ep ballot (planB ep cs) _ (by omega) hbal).mono ?_
  rintro e w68 ⟨k68, rq, rp, ra, rfl, hP, hPM⟩
  have kB := kA.trans k68
  have zA := kA.size
  have z42 := (k9.trans (k13.trans k42)).size
  have z13 := k13.size
  have z4 := k42.size
  have zd : (World.drew w42).heap.size = w42.heap.size := rfl
  have P0 : PR w w68 r x x up f pl N ⟨rq, rp, ra, r6, r8, [.int .i64 ep, s.v], [.int .i64 0, (⟨none, 0, 0⟩ : Slc).v], asked, l⟩ ⟨x.n, ballot, planB ep cs, -1, [], [], 0, 0⟩ := by
    refine ⟨h.keep kB, ⟨rfl, rfl⟩, hP, kB.foot (Foot.refl _ _), fun j hj => ⟨fun hh => ?_, ?_, ?_, fun hl hh => hab hl j hh hj⟩, fun j hj => ⟨?_, ?_, ?_, fun hh => ?_⟩, fun hl j hj hh => ?_, o6A.keep k68, o8A.keep k68, fun hl => intsAt_keep (ha hl) kB⟩
    · have := hPM j hh; have := lt j hj; omega
    · have := lt j hj; show j ≠ r6; omega
    · have := lt j hj; show j ≠ r8; omega
    · have := hPM j hj; omega
    · have := hPM j hj; show j ≠ r6; omega
    · have := hPM j hj; show j ≠ r8; omega
    · have := hPM j hj; have := h.yb j hh; omega
    · have := hPM j hh; have := intsAt_lt (ha hl) hl j hj; omega
  refine ⟨_, _, rfl, trivial, BIf_mk (fun hh => by cases hh) (fun _ => ?_)⟩
  -- the promises
  generalize hz : (⟨rq, rp, ra, r6, r8, [.int .i64 ep, s.v], [.int .i64 0, (⟨none, 0, 0⟩ : Slc).v], asked, l⟩ : PrP) = z at P0
  have zq : z.rq = rq ∧ z.rp = rp ∧ z.ra = ra ∧ z.r6 = r6 ∧ z.r8 = r8 ∧ z.c6 = [.int .i64 ep, s.v] ∧ z.c8 = [.int .i64 0, (⟨none, 0, 0⟩ : Slc).v] ∧ z.asked = asked ∧ z.l = l := by subst hz; exact ⟨rfl, rfl, rfl, rfl, rfl, rfl, rfl, rfl, rfl⟩
  obtain ⟨zq1, zq2, zq3, zq4, zq5, zq6, zq7, zq8, zq9⟩ := zq
  have pO6 : ∀ {w2 x2 f2 N2 s2}, PR w w2 r x x2 up f2 pl N2 z s2 → ObjAt w2 r6 [.int .i64 ep, s.v] := fun h2 => by have := h2.o6; rw [zq4, zq6] at this; exact this
  have pO8 : ∀ {w2 x2 f2 N2 s2}, PR w w2 r x x2 up f2 pl N2 z s2 → ObjAt w2 r8 [.int .i64 0, (⟨none, 0, 0⟩ : Slc).v] := fun h2 => by have := h2.o8; rw [zq5, zq7] at this; exact this
  have pP : ∀ {w2 x2 f2 N2 s2}, PR w w2 r x x2 up f2 pl N2 z s2 → PropAt w2 rq rp ra s2 := fun h2 => by have := h2.P; rw [zq1, zq2, zq3] at this; exact this
  have pI : ∀ {w2 x2 f2 N2 s2}, PR w w2 r x x2 up f2 pl N2 z s2 → l ≠ [] → intsAt w2 asked l := fun h2 hl => by have := h2.li; rw [zq8, zq9] at this; exact this hl
  have pS : ∀ {w2 w3 x2 f2 N2 s2 s3}, PR w w2 r x x2 up f2 pl N2 z s2 → PropAt w3 rq rp ra s3 → Ext (PropM rq rp ra) w2 w3 → PR w w3 r x x2 up f2 pl N2 z s3 := fun h2 hp he => h2.prop (by rw [zq1, zq2, zq3]; exact hp) (by rw [zq1, zq2, zq3]; exact he)
  refine ⟨fun i w2 => ∃ (k : Nat) (x2 : BkP), i = k ∧ k ≤ l.length ∧ PR w w2 r x x2 up (prepP x.n up f ep ballot (planB ep cs) (l.take k)).1 pl (N + k) z (prepP x.n up f ep ballot (planB ep cs) (l.take k)).2, fun i _ => ((l.length : Int) - i).toNat, ⟨0, x, rfl, by omega, by simpa [prepP] using P0⟩, ?_⟩
  rintro i w77 ⟨k, x2, rfl, hk, hR⟩
  intros
  refine BIf_dec (fun h0 => ?_) (fun h0 => ?_)
  · have hkl : k < l.length := by omega
    have hlne : l ≠ [] := fun e => by rw [e] at hkl; simp at hkl
    obtain ⟨a, hpa, hca⟩ := intsAt_cell (pI hR hlne) hkl
    have hpn := prep_n x.n up ep ballot (l.take k) (f, ⟨x.n, ballot, planB ep cs, -1, [], [], 0, 0⟩)
    have hyes : (prepP x.n up f ep ballot (planB ep cs) (l.take k)).2.yes ≤ 2 ^ 20 := by
      have h9 := hpn.2.1
      have h8 : (l.take k).length ≤ l.length := by simp; omega
      unfold prepP
      simp only at h9; omega
    have hnext : prepP x.n up f ep ballot (planB ep cs) (l.take (k + 1)) = prepS x.n up ep ballot (prepP x.n up f ep ballot (planB ep cs) (l.take k)) l[k] := by
      unfold prepP; exact fold_take _ _ _ _ hkl
    generalize hst : prepP x.n up f ep ballot (planB ep cs) (l.take k) = st at hR hyes hnext
    generalize hv : l[k] = v at hnext hca
    refine needSome_mk hpa ⟨by omega, h0, v, by rw [show Int.toNat (k : Int) * 1 = k by omega]; exact hca, fun b w2 => b = toB x.n up v ∧ w2 = w77, ?_, ?_⟩
    · refine (bkHas_spec hR.B v).mono ?_
      rintro e w123 ⟨rfl, rfl⟩
      rw [hR.n.1]
      refine ⟨_, rfl, BIf_dec (fun h1 => ?_) (fun h1 => ⟨by unfold toB; rw [decide_eq_false h1]; rfl, rfl⟩)⟩
      have hj : v.toNat < x2.n := by rw [hR.n.1]; omega
      obtain ⟨a1, hp1, hc1⟩ := hR.B.seatC hj
      have hsl2 := hR.B.sl
      refine needSome_mk rfl ⟨_, hR.B.c0, needSome_mk hp1 ⟨h1.1, by rw [hsl2, hR.n.1]; exact h1.2, _, hc1, needSome_mk rfl ⟨_, by rw [add_lit]; exact (hR.B.st _ hj).o.cell 1 (by simp), ?_, rfl⟩⟩⟩
      unfold toB; rw [decide_eq_true h1]; rfl
    · rintro b w132 ⟨rfl, rfl⟩
      intros
      refine BIf_mk (fun h1 => ?_) (fun h1 => ?_)
      · obtain ⟨j, rfl, hjn, hju⟩ := toB_true h1
        have hRd := hR.keep (kd w132)
        have hj2 : j < x2.n := by rw [hR.n.1]; exact hjn
        obtain ⟨a1, hp1, hc1⟩ := hRd.B.seatC hj2
        have hsl2 := hRd.B.sl
        have hs2 : prepS x.n up ep ballot st (j : Int) = (updF st.1 j (prepF (st.1 j) ep ballot), st.2.promise (j : Int) (decide ((st.1 j ep).p < ballot)) (st.1 j ep).b (st.1 j ep).t) := by
          unfold prepS; rw [if_pos h1, Int.toNat_natCast]
        rw [hs2] at hnext
        refine needSome_mk rfl ⟨_, hRd.B.c0, needSome_mk hp1 ⟨by omega, by rw [hsl2]; omega, _, by rw [Int.toNat_natCast]; exact hc1, _, (pO6 hRd).cell 0 (by simp), ?_, ?_⟩⟩
        · refine (doPrep_spec (hRd.B.st j hj2) (by omega) ep ballot []).mono ?_
          rintro e w153 ⟨rfl, p', hpo, hsp, hfp⟩
          obtain ⟨x3, hR3, f3⟩ := hRd.seat hjn hpo hsp hfp (by omega)
          refine ⟨_, _, _, _, rfl, var_mk (cs := [.bool (decide ((st.1 j ep).p < ballot)), .int .i64 (st.1 j ep).b, strV (st.1 j ep).t]) rfl rfl (fun r158 w160 hr158 o158 k158 hs158 => ⟨_, _, _, o158.row, (Promise_spec rq rp ra _ (j : Int) _ _ _ w160 (pP (hR3.keep k158)) (by omega)).mono ?_⟩)⟩
          rintro e w165 ⟨rfl, hP5, x5⟩
          refine ⟨_, rfl, inR64 (by omega), ⟨k + 1, x3, rfl, hkl, ?_⟩, by dsimp only; omega⟩
          rw [hnext]
          exact (pS (hR3.keep k158) hP5 x5).mono (by omega)
        · refine newS_mk (fun r167 w168 hr167 hb167 k167 hs167 => ?_)
          have o167 := ObjAt.new' hb167
          have hR8 := hRd.keep k167
          refine ⟨⟨_, (pO6 hR8).cell 0 (by simp), rfl⟩, ⟨_, by rw [Int.toNat_natCast]; exact k167.cell hc1, rfl⟩, ⟨_, hR8.B.c0, rfl⟩, ?_⟩
          refine (doPrep_spec (hR8.B.st j hj2) (by omega) ep ballot []).mono ?_
          rintro e w173 ⟨rfl, p', hpo, hsp, hfp⟩
          obtain ⟨x3, hR3, f3⟩ := hR8.seat hjn hpo hsp hfp (by omega)
          have hlt := hRd.B.lt
          have o173 := o167.ext hfp.1 (fun hh => by have := hlt r167 (.inr (.inr (.inr ⟨j, hj2, hh⟩))); omega)
          obtain ⟨c1, c2⟩ := o173.setAll (n := 3) (cs := [.bool (decide ((st.1 j ep).p < ballot)), .int .i64 (st.1 j ep).b, strV (st.1 j ep).t]) rfl rfl
          refine ⟨_, _, _, _, rfl, c1, fun w178 hw178 => ?_⟩
          obtain ⟨o178, e178, _⟩ := c2 w178 hw178
          obtain ⟨n1, n2, n3, n4, n5, n6⟩ := hRd.new (k := r167) (by omega)
          have hrb : w.heap.size ≤ r167 := by have h1 := hRd.F.1.size; omega
          have hR9 := hR3.side e178 hrb (fun hh => (f3.2 _ hh).elim n1 (fun g => by omega)) n2 n3 n4 n5 n6
          refine ⟨_, _, _, o178.row, (Promise_spec rq rp ra _ (j : Int) _ _ _ w178 (pP hR9) (by omega)).mono ?_⟩
          rintro e w183 ⟨rfl, hP5, x5⟩
          refine ⟨_, rfl, inR64 (by omega), ⟨k + 1, x3, rfl, hkl, ?_⟩, by dsimp only; omega⟩
          rw [hnext]
          exact (pS hR9 hP5 x5).mono (by omega)
      · refine ⟨inR64 (by omega), ⟨k + 1, x2, rfl, hkl, ?_⟩, by dsimp only; omega⟩
        have hs2 : prepS x.n up ep ballot st v = st := by unfold prepS; rw [if_neg (by rw [h1]; decide)]
        rw [hnext, hs2]
        exact hR.mono (by omega)
  · have hkl : k = l.length := by omega
    subst hkl
    rw [List.take_length] at hR
    have hpn := prep_n x.n up ep ballot l (f, ⟨x.n, ballot, planB ep cs, -1, [], [], 0, 0⟩)
    have hyes : (prepP x.n up f ep ballot (planB ep cs) l).2.yes ≤ 2 ^ 20 ∧ (prepP x.n up f ep ballot (planB ep cs) l).2.done = 0 := by
      have h9 := hpn.2.1
      have h8 := hpn.2.2
      unfold prepP
      simp only at h9 h8; exact ⟨by omega, h8⟩
    have hprop : propP x.n up f ep ballot (planB ep cs) l = accP x.n up ep ballot (prepP x.n up f ep ballot (planB ep cs) l) l := rfl
    generalize hst : prepP x.n up f ep ballot (planB ep cs) l = s1 at hR hyes hprop
    refine (Asks_spec rq rp ra s1.2 w77 (pP hR) (by omega)).mono ?_
    rintro e w186 ⟨rfl, rfl⟩
    -- the acceptances
    have hacc0 : ∀ k, s1.2.most s1.2.yes → ((l.take k).foldl (accS x.n up ep ballot s1.2.t) s1) = accP x.n up ep ballot s1 (l.take k) := fun k hm => by unfold accP; rw [if_pos hm]
    refine ⟨_, _, rfl, fun i w2 => ∃ (k : Nat) (x2 : BkP), i = k ∧ k ≤ l.length ∧ PR w w2 r x x2 up (accP x.n up ep ballot s1 (l.take k)).1 pl (N + l.length + k) z (accP x.n up ep ballot s1 (l.take k)).2, fun i _ => ((l.length : Int) - i).toNat, ⟨0, x2, rfl, by omega, ?_⟩, ?_⟩
    · have : accP x.n up ep ballot s1 (l.take 0) = s1 := by unfold accP; split <;> simp
      rw [this]; exact hR
    rintro i w192 ⟨k, x2, rfl, hk, hR⟩
    intros
    refine BIf_dec (fun h0 => ?_) (fun h0 => ?_)
    · have hkl : k < l.length := by omega
      have hlne : l ≠ [] := fun e => by rw [e] at hkl; simp at hkl
      obtain ⟨a, hpa, hca⟩ := intsAt_cell (pI hR hlne) hkl
      generalize hv : l[k] = v at hca
      refine needSome_mk hpa ⟨by omega, h0, v, by rw [show Int.toNat (k : Int) * 1 = k by omega]; exact hca, fun b w2 => b = (decide (s1.2.most s1.2.yes) && toB x.n up v) ∧ w2 = w192, BIf_dec (fun hm => ?_) (fun hm => ⟨by rw [decide_eq_false hm]; rfl, rfl⟩), ?_⟩
      · refine (bkHas_spec hR.B v).mono ?_
        rintro e w242 ⟨rfl, rfl⟩
        rw [hR.n.1, decide_eq_true hm, Bool.true_and]
        refine ⟨_, rfl, BIf_dec (fun h1 => ?_) (fun h1 => ⟨by unfold toB; rw [decide_eq_false h1]; rfl, rfl⟩)⟩
        have hj : v.toNat < x2.n := by rw [hR.n.1]; omega
        obtain ⟨a1, hp1, hc1⟩ := hR.B.seatC hj
        have hsl2 := hR.B.sl
        refine needSome_mk rfl ⟨_, hR.B.c0, needSome_mk hp1 ⟨h1.1, by rw [hsl2, hR.n.1]; exact h1.2, _, hc1, needSome_mk rfl ⟨_, by rw [add_lit]; exact (hR.B.st _ hj).o.cell 1 (by simp), ?_, rfl⟩⟩⟩
        unfold toB; rw [decide_eq_true h1]; rfl
      · rintro b w251 ⟨rfl, rfl⟩
        intros
        refine BIf_mk (fun h1 => ?_) (fun h1 => ?_)
        · rw [Bool.and_eq_true, decide_eq_true_eq] at h1
          obtain ⟨hm, h1⟩ := h1
          have hnext : accP x.n up ep ballot s1 (l.take (k + 1)) = accS x.n up ep ballot s1.2.t (accP x.n up ep ballot s1 (l.take k)) v := by
            rw [← hacc0 _ hm, ← hacc0 _ hm, fold_take _ _ _ _ hkl, hv]
          have hbd : (accP x.n up ep ballot s1 (l.take k)).2.yes ≤ 2 ^ 20 ∧ (accP x.n up ep ballot s1 (l.take k)).2.done ≤ 2 ^ 20 := by
            rw [← hacc0 _ hm]
            obtain ⟨g1, g2, g3, g4⟩ := acc_n x.n up ep ballot s1.2.t (l.take k) s1
            have h8 : (l.take k).length ≤ l.length := by simp; omega
            omega
          generalize hst2 : accP x.n up ep ballot s1 (l.take k) = st at hR hnext hbd
          obtain ⟨j, rfl, hjn, hju⟩ := toB_true h1
          have hRd := hR.keep (kd w251)
          have hj2 : j < x2.n := by rw [hR.n.1]; exact hjn
          obtain ⟨a1, hp1, hc1⟩ := hRd.B.seatC hj2
          have hsl2 := hRd.B.sl
          have hs2 : accS x.n up ep ballot s1.2.t st (j : Int) = (updF st.1 j (accF (st.1 j) ep ballot s1.2.t), st.2.accepted (j : Int) (decide (0 ≤ ballot ∧ (st.1 j ep).p ≤ ballot))) := by
            unfold accS; rw [if_pos h1, Int.toNat_natCast]
          rw [hs2] at hnext
          rw [if_pos hm]
          refine needSome_mk rfl ⟨_, hRd.B.c0, needSome_mk hp1 ⟨by omega, by rw [hsl2]; omega, _, by rw [Int.toNat_natCast]; exact hc1, _, (pO6 hRd).cell 0 (by simp), ?_, ?_⟩⟩
          · refine (doAcc_spec (hRd.B.st j hj2) (by omega) ep ballot s1.2.t).mono ?_
            rintro e w275 ⟨rfl, p', hpo, hsp, hfp⟩
            obtain ⟨x3, hR3, f3⟩ := hRd.seat hjn hpo hsp hfp (by omega)
            refine ⟨_, _, [], _, rfl, var_mk (cs := [.bool false, .int .i64 0, strV []]) rfl rfl (fun r280 w282 hr280 o280 k280 hs280 => ?_)⟩
            refine (Accepted_spec rq rp ra _ (j : Int) _ w282 (pP (hR3.keep k280)) (by omega)).mono ?_
            rintro e w284 ⟨rfl, hP5, x5⟩
            refine ⟨_, rfl, inR64 (by omega), ⟨k + 1, x3, rfl, hkl, ?_⟩, by dsimp only; omega⟩
            rw [hnext]
            exact (pS (hR3.keep k280) hP5 x5).mono (by omega)
          · refine newS_mk (fun r286 w287 hr286 hb286 k286 hs286 => ?_)
            have o286 := ObjAt.new' hb286
            have hR8 := hRd.keep k286
            refine ⟨⟨_, (pO6 hR8).cell 0 (by simp), rfl⟩, ⟨_, by rw [Int.toNat_natCast]; exact k286.cell hc1, rfl⟩, ⟨_, hR8.B.c0, rfl⟩, ?_⟩
            refine (doAcc_spec (hR8.B.st j hj2) (by omega) ep ballot s1.2.t).mono ?_
            rintro e w292 ⟨rfl, p', hpo, hsp, hfp⟩
            obtain ⟨x3, hR3, f3⟩ := hR8.seat hjn hpo hsp hfp (by omega)
            have hlt := hRd.B.lt
            have o292 := o286.ext hfp.1 (fun hh => by have := hlt r286 (.inr (.inr (.inr ⟨j, hj2, hh⟩))); omega)
            obtain ⟨c1, c2⟩ := o292.setAll (n := 3) (cs := [.bool false, .int .i64 0, strV []]) rfl rfl
            refine ⟨_, _, [], _, rfl, c1, fun w297 hw297 => ?_⟩
            obtain ⟨o297, e297, _⟩ := c2 w297 hw297
            obtain ⟨n1, n2, n3, n4, n5, n6⟩ := hRd.new (k := r286) (by omega)
            have hrb : w.heap.size ≤ r286 := by have h1 := hRd.F.1.size; omega
            have hR9 := hR3.side e297 hrb (fun hh => (f3.2 _ hh).elim n1 (fun g => by omega)) n2 n3 n4 n5 n6
            refine (Accepted_spec rq rp ra _ (j : Int) _ w297 (pP hR9) (by omega)).mono ?_
            rintro e w299 ⟨rfl, hP5, x5⟩
            refine ⟨_, rfl, inR64 (by omega), ⟨k + 1, x3, rfl, hkl, ?_⟩, by dsimp only; omega⟩
            rw [hnext]
            exact (pS hR9 hP5 x5).mono (by omega)
        · refine ⟨inR64 (by omega), ⟨k + 1, x2, rfl, hkl, ?_⟩, by dsimp only; omega⟩
          have hnext : accP x.n up ep ballot s1 (l.take (k + 1)) = accP x.n up ep ballot s1 (l.take k) := by
            by_cases hm : s1.2.most s1.2.yes
            · rw [← hacc0 _ hm, ← hacc0 _ hm, fold_take _ _ _ _ hkl, hv]
              have h2 : toB x.n up v = false := by rw [decide_eq_true hm, Bool.true_and] at h1; exact h1
              unfold accS
              rw [if_neg (by rw [h2]; decide)]
            · unfold accP; rw [if_neg hm, if_neg hm]
          rw [hnext]
          exact hR.mono (by omega)
    · have hkl : k = l.length := by omega
      subst hkl
      rw [List.take_length] at hR
      rw [hprop] at hdec
      have hbd : (accP x.n up ep ballot s1 l).2.done ≤ 2 ^ 20 := by
        unfold accP
        split
        · obtain ⟨g1, g2, g3, g4⟩ := acc_n x.n up ep ballot s1.2.t l s1
          omega
        · omega
      have hout : propP x.n up f ep ballot (planB ep cs) l = accP x.n up ep ballot s1 l := hprop
      generalize hst2 : accP x.n up ep ballot s1 l = s3 at hR hbd hdec hout
      refine (Decided_spec rq rp ra s3.2 w192 (pP hR) (by omega)).mono ?_
      rintro e w302 ⟨rfl, rfl⟩
      have hBF : ∀ {w5}, Keep w302 w5 → ErrsB A n0 w5 := fun hk => (hE.ext hR.F.1 hB).keep hk
      have zF := hR.F.1.size
      refine ⟨_, _, rfl, BIf_ndec (fun h1 => ?_) (fun h1 => ?_)⟩
      · have k1 := kd w302
        have o5 := (pO8 hR).keep k1
        obtain ⟨c1, c2⟩ := o5.setAll (n := 2) (cs := [.int .i64 0, (⟨none, 0, 0⟩ : Slc).v]) rfl rfl
        refine ⟨_, errG_at (hBF k1).g 11 gl_ErrDown rfl (by decide), c1, fun w306 hw306 => ?_⟩
        obtain ⟨o306, e306, _⟩ := c2 w306 hw306
        have hr8 : ∀ j, BkB r x2 j → ¬ j = r8 := fun j hj hh => (hR.a j hj).2.2.1 (by rw [zq5]; exact hh)
        have hy8 : ∀ j, x.Y j → ¬ j = r8 := fun j hj hh => by have := h.yb j hj; omega
        have hB6 := (hR.B.keep k1).ext e306 (fun j hj hh => hr8 j hj hh) (fun j hj hh => hy8 j (by rw [← hR.n.2]; exact hj) hh)
        have k306 : Foot (BkB r x) (BkB r x2) w w306 := ⟨(hR.F.1.trans k1 (fun _ h => h) (fun _ h => h.elim)).trans e306 (fun _ h => h) (fun j hj => .inr (by rw [show j = r8 from hj]; omega)), hR.F.2⟩
        refine ⟨⟨_, errG_at (hE.ext k306.1 hB).g 11 gl_ErrDown rfl (by decide), rfl⟩, _, _, o306.row, _, _, some 11, rfl, x2, s3.1, pl, hR.n.1, hB6.mono (by omega), k306, fun j hj => .inl (by rw [← hR.n.2]; exact hj), .inr (.inl ?_)⟩
        rw [hout]
        exact ⟨⟨hr, hbal, hep⟩, h1, rfl, rfl, rfl⟩
      · obtain ⟨hr', ht'⟩ := hdec hr hbal h1
        rw [if_pos h1, ht']
        have hpl' := planB_len hr'
        refine bytesK_mk (fun s310 w311 hb311 hc311 hf311 k311 => ?_)
        refine (PlanRead_spec A ep s310 csd w311 hr' hb311 (hBF k311) (by have := k311.size; omega)).mono ?_
        rintro e w313 ⟨t, rfl, hCt, k313⟩
        have k1 := k311.trans k313
        refine ⟨_, _, _, rfl, var_mk (cs := [.int .i64 ep, t.v]) rfl rfl (fun r317 w319 hr317 o317 k319 hs319 => ⟨trivial, BIf_mk (fun hh => by cases hh) (fun _ => ?_)⟩)⟩
        have k2 := k1.trans k319
        have kdd := kd w319
        have k3 := k2.trans kdd
        have hR3 := hR.keep k3
        refine needSome_mk rfl ⟨_, hR3.B.c1, _, _, (o317.keep kdd).row, newS_mk (fun r327 w328 hr327 hb327 k328 hs328 => ⟨⟨_, (hR3.keep k328).B.c1, rfl⟩, ?_⟩)⟩
        have hR8 := hR3.keep k328
        have hC8 := ((hCt.keep k319).keep kdd).keep k328
        have z192 := hR.B.lt
        have z311 := k311.size
        have z313 := k313.size
        have z319 := k319.size
        have zdd : (World.drew w319).heap.size = w319.heap.size := rfl
        have z328 := k328.size
        refine hR8.B.addPlan hC8 (fun q hq => ⟨by omega, fun hh => by have := z192 q hh; omega⟩) hb327 (by omega) (fun s330 w331 hK => needSome_mk rfl ⟨hK.1, fun w333 hw333 => ?_⟩)
        obtain ⟨B333, f333⟩ := hK.2 w333 hw333
        have hlt8 := hR8.B.lt
        have o317' := ((o317.keep kdd).keep k328).ext f333.1 (fun hh => by have := z192 r317 hh; omega)
        have o8' := (pO8 hR8).ext f333.1 (fun hh => (hR8.a _ hh).2.2.1 (by rw [zq5]))
        have hC9 := hC8.ext f333.1 (fun q hq hh => by have := z192 q hh; omega)
        obtain ⟨v1, v2, v3, v4⟩ := hr'
        refine ⟨_, _, o317'.row, (Copy_spec ep t csd w333 hC9.chs (by omega) (fun c hc => by have := (v3 c hc).2.1; omega)).mono ?_⟩
        rintro e w337 ⟨t2, ts2, rfl, hO, hBt, k337⟩
        obtain ⟨c1, c2⟩ := (o8'.keep k337).setAll (n := 2) (cs := [.int .i64 ep, t2.v]) rfl rfl
        refine ⟨_, _, rfl, c1, fun w340 hw340 => ?_⟩
        obtain ⟨o340, e340, z340⟩ := c2 w340 hw340
        have z333 := f333.1.size
        have z337 := k337.size
        have olt := hO.lt
        have hr8 : ∀ j, BkB r x2 j → ¬ j = r8 := fun j hj hh => (hR.a j hj).2.2.1 (by rw [zq5]; exact hh)
        have zF8 : r8 < w302.heap.size := (pO8 hR).lt
        have hx3 : ∀ j, BkB r { x2 with pp := s330, ql := x2.ql ++ [(ep, t)], Y := fun k => x2.Y k ∨ (w311.heap.size ≤ k ∧ k < w313.heap.size) } j → ¬ j = r8 := fun j hj hh => by
          rcases f333.2 j hj with g | g
          · exact hr8 j g hh
          · omega
        have F340 : Foot (BkB r x) (BkB r { x2 with pp := s330, ql := x2.ql ++ [(ep, t)], Y := fun k => x2.Y k ∨ (w311.heap.size ≤ k ∧ k < w313.heap.size) }) w w340 := by
          have g := (hR.F.trans ((k3.trans k328).foot f333)).keep k337
          exact ⟨g.1.trans e340 (fun _ h => h) (fun j hj => .inr (by rw [show j = r8 from hj]; omega)), g.2⟩
        refine ⟨_, _, o340.row, ep, t2, none, rfl, { x2 with pp := s330, ql := x2.ql ++ [(ep, t)], Y := fun k => x2.Y k ∨ (w311.heap.size ≤ k ∧ k < w313.heap.size) }, s3.1, pl ++ [(ep, csd)], hR.n.1, ((B333.keep k337).ext e340 (fun j hj hh => hx3 j hj hh) (fun j hj hh => ?_)).mono (by omega), F340, fun j hj => ?_, .inr (.inr ?_)⟩
        · have h9 : j = r8 := hh
          rcases hj with hj | hj
          · have := h.yb j (by rw [← hR.n.2]; exact hj); omega
          · have := hj.1; omega
        · rcases hj with hj | hj
          · exact .inl (by rw [← hR.n.2]; exact hj)
          · exact .inr (by have := hj.1; omega)
        · rw [hout]
          refine ⟨⟨hr, hbal, hep⟩, h1, rfl, rfl, rfl, ⟨v1, v2, v3, v4⟩, ht', rfl, ?_⟩
          exact ((ChF.of hO).ext e340 (fun j hj hh => by have := hBt j hj; have h9 : j = r8 := hh; omega)).mono (fun j hj => ⟨by have := hBt j hj; omega, by have := olt j hj; omega⟩)
end
end Go.D

set_option linter.unusedVariables false
set_option linter.unusedSimpArgs false
namespace Go.D
open Go Go.Proofs

def eN : Option Nat → Int
  | none => 0
  | some k => ((k + 1 : Nat) : Int)
theorem numO_spec8 (A : Nat → Addr) (e' : Option Nat) (h : ∀ k, e' = some k → k < 19) (w : World) (hE : Errs A w) : Calls Tryd.prog fn_tidewaternum_Num ⟨[errO A e']⟩ w fun e w' => e = .returned (.int .i64 (eN e')) ∧ Keep w w' := by
  cases e' with
  | none =>
    refine (Num_nil w).mono ?_
    rintro e w' ⟨rfl, rfl⟩
    exact ⟨rfl, Ext.refl _ _⟩
  | some k => exact Num_spec A k (h k rfl) w hE
/-! ### the parameters -/
theorem wrapU_nn8 (n : Int) : 0 ≤ IntKind.wrap .u64 n := by
  simp [IntKind.wrap, IntKind.signed, IntKind.bits]; omega
theorem mod_wrap8 (n : Int) (c : Nat) (hc : 0 < c) (hc2 : c ≤ 2 ^ 20) : ∃ m : Nat, m < c ∧ IntKind.wrap .i64 ((IntKind.wrap .u64 n) % (c : Int)) = (m : Int) ∧ 0 ≤ IntKind.wrap .u64 n := by
  have hu : 0 ≤ IntKind.wrap .u64 n := wrapU_nn8 n
  generalize IntKind.wrap .u64 n = u at hu
  have h1 := Int.emod_nonneg u (show (c : Int) ≠ 0 by omega)
  have h2 := Int.emod_lt_of_pos u (show (0 : Int) < (c : Int) by omega)
  obtain ⟨m, hm⟩ : ∃ m : Nat, u % (c : Int) = m := ⟨(u % (c : Int)).toNat, by omega⟩
  refine ⟨m, by omega, ?_, hu⟩
  rw [hm]
  exact wrap_inR (inR64 (by omega))
end Go.D

set_option linter.unusedVariables false
set_option linter.unusedSimpArgs false
namespace Go.D
open Go Go.Proofs

/-! ### a first ballot -/
def up5 (b0 b1 b2 b3 b4 : Bool) : Nat → Bool
  | 0 => b0
  | 1 => b1
  | 2 => b2
  | 3 => b3
  | 4 => b4
  | _ => false
def fresh5 : Nat → Int → VS := fun _ _ => VS.new
theorem half1 (b0 b1 b2 b3 b4 : Bool) (t : List UInt8) : ∀ n, 1 ≤ n → n ≤ 5 → (propP n (up5 b0 b1 b2 b3 b4) fresh5 1 0 t [0, 1, 2, 3, 4]).2.done = (if n < 2 * upN (up5 b0 b1 b2 b3 b4) n then upN (up5 b0 b1 b2 b3 b4) n else 0) ∧ (propP n (up5 b0 b1 b2 b3 b4) fresh5 1 0 t [0, 1, 2, 3, 4]).2.t = t ∧ (propP n (up5 b0 b1 b2 b3 b4) fresh5 1 0 t [0, 1, 2, 3, 4]).2.n = n := by
  intro n h1 h5
  match n, h1, h5 with
  | 1, _, _ => cases b0 <;> exact ⟨by kernel_rfl, by kernel_rfl, by kernel_rfl⟩
  | 2, _, _ => cases b0 <;> cases b1 <;> exact ⟨by kernel_rfl, by kernel_rfl, by kernel_rfl⟩
  | 3, _, _ => cases b0 <;> cases b1 <;> cases b2 <;> exact ⟨by kernel_rfl, by kernel_rfl, by kernel_rfl⟩
  | 4, _, _ => cases b0 <;> cases b1 <;> cases b2 <;> cases b3 <;> exact ⟨by kernel_rfl, by kernel_rfl, by kernel_rfl⟩
  | 5, _, _ => cases b0 <;> cases b1 <;> cases b2 <;> cases b3 <;> cases b4 <;> exact ⟨by kernel_rfl, by kernel_rfl, by kernel_rfl⟩
theorem upN5 (up : Nat → Bool) : ∀ n, 1 ≤ n → n ≤ 5 → upN up n = upN (up5 (up 0) (up 1) (up 2) (up 3) (up 4)) n := by
  intro n h1 h5
  match n, h1, h5 with
  | 1, _, _ => rfl
  | 2, _, _ => rfl
  | 3, _, _ => rfl
  | 4, _, _ => rfl
  | 5, _, _ => rfl
theorem half5 (n : Nat) (up : Nat → Bool) (t : List UInt8) : propP n up fresh5 1 0 t [0, 1, 2, 3, 4] = propP n (up5 (up 0) (up 1) (up 2) (up 3) (up 4)) fresh5 1 0 t [0, 1, 2, 3, 4] := by kernel_rfl
theorem half_law (n : Nat) (hn : 1 ≤ n ∧ n ≤ 5) (up : Nat → Bool) (t : List UInt8) : ((propP n up fresh5 1 0 t [0, 1, 2, 3, 4]).2.most (propP n up fresh5 1 0 t [0, 1, 2, 3, 4]).2.done ↔ n < 2 * upN up n) ∧ (propP n up fresh5 1 0 t [0, 1, 2, 3, 4]).2.t = t := by
  have h := half1 (up 0) (up 1) (up 2) (up 3) (up 4) t n hn.1 hn.2
  rw [← half5, ← upN5 up n hn.1 hn.2] at h
  generalize propP n up fresh5 1 0 t [0, 1, 2, 3, 4] = q at h
  obtain ⟨g1, g2, g3⟩ := h
  refine ⟨?_, g2⟩
  show q.2.n < 2 * (q.2.done : Int) ↔ _
  rw [g1, g3]
  split
  · constructor <;> intro _ <;> omega
  · constructor <;> intro _ <;> omega

/-! ### pieces -/
theorem chs_one {w : World} {r3 r1 : Nat} {T1 T3 : TypeId} (h1 : w.heap[r1]? = some (.cells ⟨[Value.int .i64 0]⟩ T1)) (h3 : w.heap[r3]? = some (.cells ⟨[Slc.v (⟨some ⟨r1, 0, none⟩, 1, 1⟩ : Slc)]⟩ T3)) : Chs w ⟨some ⟨r3, 0, none⟩, 1, 1⟩ [[0]] := by
  refine ⟨rfl, fun i hi => ?_⟩
  have : i = 0 := by simp at hi; omega
  subst this
  refine ⟨_, ⟨some ⟨r1, 0, none⟩, 1, 1⟩, rfl, ?_, (Own.new (sz := 1) (n := 1) (cs := [Value.int .i64 0]) h1 (.inl (by simp)) rfl).ints (l := [0]), Nat.le_refl _⟩
  rw [add_lit, cell_of h3]; rfl
theorem right_one (ep : Int) (h : 0 ≤ ep ∧ ep ≤ 1073741824) : RightP ep [[0]] := ⟨h, by simp, by simp [chainOk, unitsOk], by simp⟩
theorem bkAlive_spec (A : Nat → Addr) (w : World) (hE : Errs A w) : Calls Tryd.prog fn_tidewaterlaw12_alive ⟨[]⟩ w fun e w' => e = .returned (.bool true) ∧ Keep w w' := by
  refine tidewaterlaw12_alive_ok ?_
  unfold tidewaterlaw12_alive
  have hB : ErrsB A w.heap.size w := hE.b
  refine newS_mk (fun r1 w2 hr1 hb1 k1 hs1 => newS_mk (fun r3 w4 hr3 hb3 k3 hs3 => ?_))
  have kk4 := k1.trans k3
  have z2 := k1.size
  have z4 := k3.size
  refine (bkNew_spec A (n0 := 0) 3 (by omega) 0 ⟨some ⟨r3, 0, none⟩, 1, 1⟩ [[0]] w4 (chs_one (k3.heap hb1) hb3) (right_one 0 (by omega))).mono ?_
  rintro e w6 ⟨r, x, rfl, hBk, hxn, hBn, hYn, k6⟩
  refine ⟨_, _, rfl, fun w2 => w2 = w6, ⟨trivial, BIf_mk (fun h => by cases h) (fun _ => BIf_mk (fun h => by cases h) (fun _ => rfl))⟩, ?_⟩
  rintro w10 rfl
  intros
  have kk6 := kk4.trans k6
  have z6 := k6.size
  refine (bkSet_spec hBk 0 false).mono ?_
  rintro e w19 ⟨rfl, x1, hx1, hy1, hB1, f1⟩
  rw [if_pos (by rw [hxn]; omega)] at hB1
  refine ⟨rfl, (bkSet_spec hB1 1 false).mono ?_⟩
  rintro e w21 ⟨rfl, x2, hx2, hy2, hB2, f2⟩
  rw [if_pos (by rw [hx1, hxn]; omega)] at hB2
  have fA := f1.trans f2
  have b2 : ∀ k, BkB r x2 k → w4.heap.size ≤ k := fun k hk => (fA.2 k hk).elim (hBn k) (fun g => by omega)
  have kk21 : Keep w w21 := kk6.ext fA.1 (fun k hk => by have := hBn k hk; omega)
  refine ⟨rfl, newS_mk (fun r22 w23 hr22 hb22 k22 hs22 => newS_mk (fun r24 w25 hr24 hb24 k24 hs24 => newS_mk (fun r26 w27 hr26 hb26 k26 hs26 => ?_)))⟩
  have k27 := (k22.trans k24).trans k26
  have kk27 := kk21.trans k27
  have z21 := fA.1.size
  have hu : (updF (updF (fun _ => true) (Int.toNat 0) false) (Int.toNat 1) false) = fun i => if i = 1 then false else if i = 0 then false else true := by funext i; rfl
  have hlt := hB2.lt
  have hp0 : ¬ (propP x2.n (updF (updF (fun _ => true) (Int.toNat 0) false) (Int.toNat 1) false) fresh5 1 1 (planB 1 [[0]]) [0, 1, 2]).2.most (propP x2.n (updF (updF (fun _ => true) (Int.toNat 0) false) (Int.toNat 1) false) fresh5 1 1 (planB 1 [[0]]) [0, 1, 2]).2.done := by
    rw [hx2, hx1, hxn]; decide
  have own3 : intsAt w27 ⟨some ⟨r26, 0, none⟩, 3, 3⟩ [0, 1, 2] := (Own.new (sz := 1) (n := 3) (cs := [Value.int .i64 0, Value.int .i64 1, Value.int .i64 2]) hb26 (.inl (by simp)) rfl).ints
  refine (bkPropose_spec A (n0 := w.heap.size) (hB2.keep k27) (by omega) (by rw [hx2, hx1, hxn]; omega) (by simp) (by simp) (hB.keep kk27) kk27.size (fun k hk => by have := b2 k hk; omega) (by simp) 1 1 ⟨some ⟨r24, 0, none⟩, 1, 1⟩ [[0]] (chs_one ((k24.trans k26).heap hb22) (k26.heap hb24)) (by simp) ⟨some ⟨r26, 0, none⟩, 3, 3⟩ [0, 1, 2] (by simp) rfl (fun _ => own3) (fun _ j hj hh => ?_) [[0]] (fun _ _ hm => absurd hm hp0)).mono ?_
  · have h9 : j = r26 := by obtain ⟨a, ha, rfl⟩ := hj; cases ha; rfl
    have := hlt j hh
    have := (k22.trans k24).size
    omega
  rintro e w29 ⟨q, t, e', rfl, x', f', pl', hxn', hB', f9, hY', hcase⟩
  have kk29 : Keep w w29 := kk27.ext f9.1 (fun k hk => by have := b2 k hk; omega)
  have h11 : e' = some 11 := by
    rcases hcase with ⟨g, _⟩ | ⟨_, _, g, _⟩ | ⟨_, g, _⟩
    · exact absurd ⟨right_one 1 (by omega), by omega, by simp⟩ g
    · exact g
    · exact absurd g hp0
  subst h11
  refine ⟨_, _, _, rfl, (numO_spec8 A (some 11) (fun j hj => by cases hj; omega) _ (hE.keep kk29)).mono ?_⟩
  rintro e w34 ⟨rfl, k34⟩
  refine ⟨_, rfl, BIf_dec (fun _ => (bkUp_spec (hB'.keep k34) (by rw [hxn', hx2, hx1, hxn]; omega)).mono ?_) (fun hh => absurd rfl hh)⟩
  rintro e w37 ⟨rfl, rfl⟩
  refine ⟨_, rfl, ?_, kk29.trans k34⟩
  rw [hxn', hx2, hx1, hxn]; rfl
end Go.D

set_option linter.unusedVariables false
set_option linter.unusedSimpArgs false
set_option maxRecDepth 8000
namespace Go.D
open Go Go.Proofs

/-! ### what voters hold was proposed -/
def VInv (n : Nat) (f : Nat → Int → VS) (G : Int → List UInt8 → Prop) : Prop := ∀ i, i < n → ∀ m, 0 ≤ (f i m).b → G m (f i m).t
theorem VInv.mono {n : Nat} {f : Nat → Int → VS} {G G' : Int → List UInt8 → Prop} (h : VInv n f G) (hg : ∀ m t, G m t → G' m t) : VInv n f G' := fun i hi m hb => hg _ _ (h i hi m hb)
theorem VInv.upd {n : Nat} {f : Nat → Int → VS} {G : Int → List UInt8 → Prop} (h : VInv n f G) (j : Nat) (g : Int → VS) (hg : j < n → ∀ m, 0 ≤ (g m).b → G m (g m).t) : VInv n (updF f j g) G := by
  intro i hi m hb
  by_cases e : i = j
  · subst e
    rw [updF_same] at hb ⊢
    exact hg hi m hb
  · rw [updF_ne _ _ e] at hb ⊢
    exact h i hi m hb
theorem prep_inv {n : Nat} {up : Nat → Bool} {ep ballot : Int} {G : Int → List UInt8 → Prop} : ∀ (l : List Int) (st : BkS), VInv n st.1 G → G ep st.2.t → -1 ≤ st.2.g → VInv n (l.foldl (prepS n up ep ballot) st).1 G ∧ G ep (l.foldl (prepS n up ep ballot) st).2.t
  | [], st, h1, h2, _ => ⟨h1, h2⟩
  | v :: l, st, h1, h2, h3 => by
    rw [List.foldl_cons]
    have key : VInv n (prepS n up ep ballot st v).1 G ∧ G ep (prepS n up ep ballot st v).2.t ∧ -1 ≤ (prepS n up ep ballot st v).2.g := by
      unfold prepS
      split
      · rename_i hb
        obtain ⟨j, rfl, hj, _⟩ := toB_true hb
        rw [Int.toNat_natCast]
        refine ⟨h1.upd j _ (fun hj m hb => ?_), ?_⟩
        · unfold prepF at hb ⊢
          split at hb
          · rename_i hp
            rw [if_pos hp]
            unfold upd at hb ⊢
            by_cases e : m = ep
            · rw [if_pos e] at hb ⊢
              rw [e]; exact h1 j hj ep hb
            · rw [if_neg e] at hb ⊢
              exact h1 j hj m hb
          · rename_i hp
            rw [if_neg hp]
            exact h1 j hj m hb
        · simp only
          unfold PS.promise
          split
          · split
            · split
              · rename_i hg
                exact ⟨h1 j hj ep (by omega), by show -1 ≤ (st.1 j ep).b; omega⟩
              · exact ⟨h2, h3⟩
            · exact ⟨h2, h3⟩
          · exact ⟨h2, h3⟩
      · exact ⟨h1, h2, h3⟩
    exact prep_inv l _ key.1 key.2.1 key.2.2
theorem acc_inv {n : Nat} {up : Nat → Bool} {ep ballot : Int} {want : List UInt8} {G : Int → List UInt8 → Prop} (hw : G ep want) : ∀ (l : List Int) (st : BkS), VInv n st.1 G → VInv n (l.foldl (accS n up ep ballot want) st).1 G
  | [], st, h1 => h1
  | v :: l, st, h1 => by
    rw [List.foldl_cons]
    refine acc_inv hw l _ ?_
    unfold accS
    split
    · rename_i hb
      obtain ⟨j, rfl, hj, _⟩ := toB_true hb
      rw [Int.toNat_natCast]
      refine h1.upd j _ (fun hj m hb => ?_)
      unfold accF at hb ⊢
      split at hb
      · rename_i hp
        rw [if_pos hp]
        unfold upd at hb ⊢
        by_cases e : m = ep
        · rw [if_pos e] at hb ⊢
          rw [e]; exact hw
        · rw [if_neg e] at hb ⊢
          exact h1 j hj m hb
      · rename_i hp
        rw [if_neg hp]
        exact h1 j hj m hb
    · exact h1
theorem propP_inv {n : Nat} {up : Nat → Bool} {f : Nat → Int → VS} {ep ballot : Int} {t : List UInt8} {l : List Int} {G : Int → List UInt8 → Prop} (h : VInv n f G) (ht : G ep t) : VInv n (propP n up f ep ballot t l).1 G ∧ G ep (propP n up f ep ballot t l).2.t := by
  obtain ⟨h1, h2⟩ := prep_inv (up := up) (ballot := ballot) l (f, ⟨n, ballot, t, -1, [], [], 0, 0⟩) h ht (by show (-1 : Int) ≤ -1; omega)
  unfold propP accP
  split
  · refine ⟨acc_inv h2 l _ h1, ?_⟩
    rw [(acc_n n up ep ballot _ l _).2.2.2]
    exact h2
  · exact ⟨h1, h2⟩
def GP (ps : List PlS) (m : Int) (t : List UInt8) : Prop := ∃ cs, (m, cs) ∈ ps ∧ RightP m cs ∧ t = planB m cs

/-! ### plans in a slice -/
structure PsAt (w : World) (s : Slc) (ql : List (Int × Slc)) (Y : Nat → Prop) (pl : List PlS) : Prop where
  p : Rows PlR w s ql (ql.map plC)
  len : ql.length = pl.length
  q : ∀ i (h : i < ql.length) (h' : i < pl.length), ql[i].1 = pl[i].1 ∧ ChF w ql[i].2 pl[i].2 Y
  yb : ∀ k, Y k → k < w.heap.size
  sep : ∀ k, Y k → ¬ ownB s k
def PsB (s : Slc) (Y : Nat → Prop) (k : Nat) : Prop := ownB s k ∨ Y k
section
variable {w w' : World} {s : Slc} {ql : List (Int × Slc)} {Y : Nat → Prop} {pl : List PlS}
theorem PsAt.ext {M : Nat → Prop} (h : PsAt w s ql Y pl) (he : Ext M w w') (hm : ∀ k, PsB s Y k → ¬ M k) : PsAt w' s ql Y pl := by
  refine ⟨h.p.ext he (fun k hk => hm k (.inl hk)) (fun k hk => ?_), h.len, fun i h1 h2 => ⟨(h.q i h1 h2).1, (h.q i h1 h2).2.ext he (fun k hk => hm k (.inr hk))⟩, fun k hk => Nat.lt_of_lt_of_le (h.yb k hk) he.size, h.sep⟩
  obtain ⟨cs, hcs, hk⟩ := hk
  obtain ⟨y, hy, rfl⟩ := List.mem_map.1 hcs
  obtain ⟨i, hi, rfl⟩ := List.getElem_of_mem hy
  exact hm k (.inr ((h.q i hi (by rw [← h.len]; exact hi)).2.y k (foot_pl hk)))
theorem PsAt.keep (h : PsAt w s ql Y pl) (he : Keep w w') : PsAt w' s ql Y pl := h.ext he (fun _ _ h => h)
theorem PsAt.lt (h : PsAt w s ql Y pl) : ∀ k, PsB s Y k → k < w.heap.size := fun k hk => hk.elim (h.p.lt k) (h.yb k)
theorem PsAt.row (h : PsAt w s ql Y pl) {i : Nat} (hi : i < pl.length) : ∃ (a : Addr) (t : Slc), s.p = some a ∧ rowAt w (a.add (i * 2)) 0 [.int .i64 pl[i].1, t.v] ∧ ChF w t pl[i].2 Y := by
  have hi' : i < ql.length := by rw [h.len]; exact hi
  obtain ⟨a, ha, _, hrow⟩ := h.p.get (i := i) (by simpa using hi')
  rw [List.getElem_map] at hrow
  obtain ⟨h1, h2⟩ := h.q i hi' hi
  refine ⟨a, ql[i].2, ha, ?_, h2⟩
  rw [← h1]; exact hrow
theorem PsAt.push {E T : TypeId} {K : Slc → World → Prop} (h : PsAt w s ql Y pl) {ep : Int} {t : Slc} {cs : List (List Int)} {Y1 : Nat → Prop} {r9 : Nat} (hC : ChF w t cs Y1) (hY : ∀ k, Y1 k → k < w.heap.size ∧ ¬ ownB s k) (hb : w.heap[r9]? = some (.cells ⟨plC (ep, t)⟩ T)) (hl : pl.length < 2 ^ 29)
    (hK : ∀ (s' : Slc) (w2 : World), PsAt w2 s' (ql ++ [(ep, t)]) (fun k => Y k ∨ Y1 k) (pl ++ [(ep, cs)]) → Ext (ownB s) w w2 → (∀ k, ownB s' k → ownB s k ∨ w.heap.size ≤ k) → K s' w2) :
    appendS 2 E [.int .i64 0, (⟨none, 0, 0⟩ : Slc).v] w s (.slc ⟨some ⟨r9, 0, none⟩, 1, 1⟩) K := by
  refine h.p.snoc (cs := plC (ep, t)) (x := (ep, t)) (z := [.int .i64 0, (⟨none, 0, 0⟩ : Slc).v]) rfl ⟨rfl, fun k hk => (hY k (hC.y k hk)).1⟩ (fun k hk hh => (hY k (hC.y k (foot_pl hk))).2 hh) hb (.inl (by simp [plC])) (by rw [h.len]; omega) (fun s' w2 g1 g2 g3 => hK s' w2 ⟨?_, by simp [h.len], fun i h1 h2 => ?_, fun k hk => ?_, fun k hk hh => ?_⟩ g2 g3)
  · have e9 : ql.map plC ++ [plC (ep, t)] = (ql ++ [(ep, t)]).map plC := by simp
    rw [e9] at g1; exact g1
  · rw [List.length_append, List.length_singleton] at h1 h2
    by_cases e : i < ql.length
    · have e' : i < pl.length := by rw [← h.len]; exact e
      rw [List.getElem_append_left e, List.getElem_append_left e']
      obtain ⟨q1, q2⟩ := h.q i e e'
      exact ⟨q1, (q2.ext g2 h.sep).mono (fun k hk => .inl hk)⟩
    · have ei : i = ql.length := by omega
      have ei' : i = pl.length := by rw [← h.len]; exact ei
      have e1 : (ql ++ [(ep, t)])[i]'(by simp; omega) = (ep, t) := by rw [List.getElem_append_right (by omega)]; simp [ei]
      have e2 : (pl ++ [(ep, cs)])[i]'(by simp; omega) = (ep, cs) := by rw [List.getElem_append_right (by omega)]; simp [ei']
      rw [e1, e2]
      exact ⟨rfl, (hC.ext g2 (fun k hk => (hY k hk).2)).mono (fun k hk => .inr hk)⟩
  · have z := g2.size
    rcases hk with hk | hk
    · have := h.yb k hk; omega
    · have := (hY k hk).1; omega
  · rcases g3 k hh with g | g
    · rcases hk with hk | hk
      · exact h.sep k hk g
      · exact (hY k hk).2 g
    · rcases hk with hk | hk
      · have := h.yb k hk; omega
      · have := (hY k hk).1; omega
theorem among_spec (h : PsAt w s ql Y pl) (ep : Int) (t : Slc) (cs : List (List Int)) (hC : Chs w t cs) (hr : RightP ep cs) (hm : (ep, cs) ∈ pl) (hpl : ∀ p ∈ pl, p.2.length ≤ 1000) (hN : pl.length ≤ 1000000) :
    Calls Tryd.prog fn_tidewaterlaw12_among ⟨[.agg ⟨[.int .i64 ep, t.v]⟩, s.v]⟩ w fun e w' => e = .returned (.bool true) ∧ Keep w w' := by
  refine tidewaterlaw12_among_ok _ _ _ ?_
  unfold tidewaterlaw12_among
  have hsl : s.l = pl.length := by rw [h.p.sl, h.len]
  refine newS_mk (fun r4 w5 hr4 hb4 k4 hs4 => ?_)
  have o4 := ObjAt.new' hb4
  refine ⟨fun i w2 => ∃ k : Nat, i = k ∧ k ≤ pl.length ∧ Keep w5 w2 ∧ ∀ j (hj : j < pl.length), j < k → pl[j] ≠ (ep, cs), fun i _ => ((pl.length : Int) - i).toNat, ⟨0, rfl, by omega, Ext.refl _ _, fun j _ hj => by omega⟩, ?_⟩
  rintro i w9 ⟨k, rfl, hk, k9, hno⟩
  intros
  refine BIf_dec (fun h0 => ?_) (fun h0 => ?_)
  · have hkl : k < pl.length := by omega
    have kk := k4.trans k9
    obtain ⟨a, t2, ha, hrow, hC2⟩ := (h.keep kk).row hkl
    refine needSome_mk ha ⟨by omega, h0, _, _, by rw [Int.toNat_natCast]; exact hrow, var_mk (cs := [.int .i64 pl[k].1, t2.v]) rfl rfl (fun r22 w24 hr22 o22 k22 hs22 => ⟨_, _, ((o4.keep k9).keep k22).row, _, _, o22.row, (PlanSame_spec ep pl[k].1 t t2 cs pl[k].2 w24 (hC.keep (kk.trans k22)) (hC2.keep k22).chs (by have := hr.2.1; omega) (by have := hpl _ (List.getElem_mem hkl); omega)).mono ?_⟩)⟩
    rintro e w30 ⟨b, rfl, hb, k30⟩
    refine ⟨_, rfl, BIf_mk (fun _ => ⟨rfl, (kk.trans k22).trans k30⟩) (fun hh => ⟨inR64 (by omega), ⟨k + 1, rfl, hkl, (k9.trans k22).trans k30, fun j hj hjk => ?_⟩, by dsimp only; omega⟩)⟩
    by_cases e : j = k
    · subst e
      intro he
      have e1 : pl[j].1 = ep := by rw [he]
      have e2 : pl[j].2 = cs := by rw [he]
      have := hb.2 ⟨hr, by rw [e1, e2]; exact hr, e1.symm, e2.symm⟩
      rw [this] at hh; cases hh
    · exact hno j hj (by omega)
  · obtain ⟨j, hj, e⟩ := List.getElem_of_mem hm
    exact absurd e (hno j hj (by omega))
end

/-! ### the acts -/
structure ActB where
  k : Int
  b : Int
  v : Int
  ah : Int
  cs : List (List Int)
  asked : List Int
def ActsB (w : World) (s : Slc) (xs : List ActB) : Prop := s.l = xs.length ∧ ∀ i (h : i < xs.length), ∃ (a : Addr) (sc sa : Slc), s.p = some a ∧ rowAt w (a.add (i * 6)) 0 [.int .i64 xs[i].k, .int .i64 xs[i].b, .int .i64 xs[i].v, .int .i64 xs[i].ah, sc.v, sa.v] ∧ Chs w sc xs[i].cs ∧ intsAt w sa xs[i].asked
theorem ActsB.keep {w w' : World} {s : Slc} {xs : List ActB} (h : ActsB w s xs) (hk : Keep w w') : ActsB w' s xs := ⟨h.1, fun i hi => by
  obtain ⟨a, sc, sa, h1, h2, h3, h4⟩ := h.2 i hi
  exact ⟨a, sc, sa, h1, rowAt_keep h2 hk, h3.keep hk, intsAt_keep h4 hk⟩⟩
abbrev rdActB : Rd (Int × Int × Int × Int × (Slc × List (Slc × List Int)) × (Slc × List Int)) := Rd.pair (Rd.int .i64) (Rd.pair (Rd.int .i64) (Rd.pair (Rd.int .i64) (Rd.pair (Rd.int .i64) (Rd.pair (Rd.slice Rd.ints) Rd.ints))))
def actBof (x : Int × Int × Int × Int × (Slc × List (Slc × List Int)) × (Slc × List Int)) : ActB := ⟨x.1, x.2.1, x.2.2.1, x.2.2.2.1, x.2.2.2.2.1.2.map (·.2), x.2.2.2.2.2.2⟩
theorem actsB_of {w : World} {s : Slc} {xs : List (Int × Int × Int × Int × (Slc × List (Slc × List Int)) × (Slc × List Int))} (h : rowsR rdActB w s xs) : ActsB w s (xs.map actBof) := by
  obtain ⟨h1, h2, _, h3⟩ := h
  refine ⟨by rw [h1, List.length_map], fun i hi => ?_⟩
  have hi2 : i < xs.length := by simpa using hi
  obtain ⟨a, cs, ha, ⟨_, _, hcs, ⟨rfl, _⟩, ⟨_, _, rfl, ⟨rfl, _⟩, ⟨_, _, rfl, ⟨rfl, _⟩, ⟨_, _, rfl, ⟨rfl, _⟩, ⟨_, _, rfl, ⟨rfl, hC⟩, ⟨rfl, hI, _⟩⟩⟩⟩⟩⟩, hrow⟩ := h3 i hi2
  subst hcs
  refine ⟨a, xs[i].2.2.2.2.1.1, xs[i].2.2.2.2.2.1, ha, ?_, ?_, ?_⟩
  · rw [List.getElem_map]; exact hrow
  · rw [List.getElem_map]; exact Chs.of hC
  · rw [List.getElem_map]; exact hI
theorem long12_spec (s : Slc) (xs : List ActB) (w : World) (h : ActsB w s xs) :
    Calls Tryd.prog fn_tidewaterlaw12_long ⟨[.agg ⟨[.int .i64 0, (⟨none, 0, 0⟩ : Slc).v]⟩, s.v]⟩ w fun e w' => ∃ b : Bool, e = .returned (.bool b) ∧ (b = false → xs.length ≤ 40 ∧ ∀ x ∈ xs, x.cs.length ≤ 10 ∧ x.asked.length ≤ 20 ∧ ∀ c ∈ x.cs, c.length ≤ 10) ∧ Keep w w' := by
  refine tidewaterlaw12_long_ok _ _ _ ?_
  unfold tidewaterlaw12_long
  have hsl := h.1
  have tr : ∀ {w2}, Keep w w2 → ∃ b : Bool, Ending.returned (Value.bool true) = .returned (.bool b) ∧ (b = false → xs.length ≤ 40 ∧ ∀ x ∈ xs, x.cs.length ≤ 10 ∧ x.asked.length ≤ 20 ∧ ∀ c ∈ x.cs, c.length ≤ 10) ∧ Keep w w2 := fun hk => ⟨true, rfl, (fun hh => by cases hh), hk⟩
  refine newS_mk (fun r4 w5 hr4 hb4 k4 hs4 => ?_)
  have o4 := ObjAt.new' hb4
  refine ⟨fun w2 => w2 = w5 ∧ xs.length ≤ 40, ⟨_, o4.cell 1 (by simp), BIf_dec (fun h0 => tr k4) (fun _ => BIf_dec (fun h0 => tr k4) (fun h0 => ⟨rfl, by omega⟩))⟩, ?_⟩
  rintro w8 ⟨rfl, h40⟩
  intros
  refine ⟨_, o4.cell 1 (by simp), fun i w2 => i = 0 ∧ w2 = w8, fun _ _ => 0, ⟨rfl, rfl⟩, ?_⟩
  rintro i w23 ⟨rfl, rfl⟩
  intros
  refine BIf_dec (fun h0 => absurd h0 (by simp)) (fun _ => ?_)
  refine ⟨fun i w2 => ∃ k : Nat, i = k ∧ k ≤ xs.length ∧ Keep w23 w2 ∧ ∀ j (hj : j < xs.length), j < k → xs[j].cs.length ≤ 10 ∧ xs[j].asked.length ≤ 20 ∧ ∀ c ∈ xs[j].cs, c.length ≤ 10, fun i _ => ((xs.length : Int) - i).toNat, ⟨0, rfl, by omega, Ext.refl _ _, fun j _ hj => by omega⟩, ?_⟩
  rintro i w38 ⟨k, rfl, hk, k38, hall⟩
  intros
  have kk := k4.trans k38
  refine BIf_dec (fun h1 => ?_) (fun h1 => ⟨false, rfl, fun _ => ⟨h40, fun x hx => ?_⟩, kk⟩)
  · have hkl : k < xs.length := by omega
    obtain ⟨a, sc, sa, ha, hrow, hC, hI⟩ := (h.keep kk).2 k hkl
    refine needSome_mk ha ⟨by omega, h1, _, _, _, _, _, _, by rw [Int.toNat_natCast]; exact hrow, var_mk (cs := [.int .i64 xs[k].k, .int .i64 xs[k].b, .int .i64 xs[k].v, .int .i64 xs[k].ah, sc.v, sa.v]) rfl rfl (fun r74 w76 hr74 o74 k74 hs74 => ?_)⟩
    have kk76 := kk.trans k74
    have hC76 := hC.keep k74
    have hcl := hC.1
    have hal := hI.1
    refine ⟨fun w2 => w2 = w76 ∧ xs[k].cs.length ≤ 10 ∧ xs[k].asked.length ≤ 20, ⟨_, o74.cell 4 (by simp), BIf_dec (fun g => tr kk76) (fun g => ⟨_, o74.cell 5 (by simp), BIf_dec (fun g2 => tr kk76) (fun g2 => ⟨rfl, by omega, by omega⟩)⟩)⟩, ?_⟩
    rintro w80 ⟨rfl, hc10, ha20⟩
    intros
    refine ⟨_, o74.cell 4 (by simp), fun i w2 => ∃ m : Nat, i = m ∧ m ≤ xs[k].cs.length ∧ w2 = w80 ∧ ∀ j (hj : j < xs[k].cs.length), j < m → xs[k].cs[j].length ≤ 10, fun i _ => ((xs[k].cs.length : Int) - i).toNat, ⟨0, rfl, by omega, rfl, fun j _ hj => by omega⟩, ?_⟩
    rintro i w96 ⟨m, rfl, hm, rfl, hin⟩
    intros
    refine BIf_dec (fun g => ?_) (fun g => ⟨inR64 (by omega), ⟨k + 1, rfl, hkl, k38.trans k74, fun j hj hjk => ?_⟩, by dsimp only; omega⟩)
    · have hml : m < xs[k].cs.length := by omega
      obtain ⟨a2, s2, ha2, hc2, hi2, _⟩ := hC76.2 m hml
      have hl2 := hi2.1
      refine needSome_mk ha2 ⟨by omega, g, _, by rw [Int.toNat_natCast]; exact hc2, BIf_dec (fun g2 => tr kk76) (fun g2 => ⟨inR64 (by omega), ⟨m + 1, rfl, hml, rfl, fun j hj hjm => ?_⟩, by dsimp only; omega⟩)⟩
      by_cases e : j = m
      · subst e; omega
      · exact hin j hj (by omega)
    · by_cases e : j = k
      · subst e
        refine ⟨hc10, ha20, fun c hc => ?_⟩
        obtain ⟨q, hq, rfl⟩ := List.getElem_of_mem hc
        exact hin q hq (by omega)
      · exact hall j hj (by omega)
  · obtain ⟨j, hj, rfl⟩ := List.getElem_of_mem hx
    exact hall j hj (by omega)

/-! ### an epoch's plan -/
theorem bkAt_spec {w : World} {r : Nat} {x : BkP} {up : Nat → Bool} {f : Nat → Int → VS} {pl : List PlS} {N : Nat} (h : BkAt w r x up f pl N) (hcon : ∀ i (hi : i < pl.length), pl[i].1 = (i : Int)) (hs : ∀ p ∈ pl, p.2.length ≤ 1000 ∧ ∀ c ∈ p.2, c.length ≤ 1000) (e : Nat) (he : e < pl.length) (hN : pl.length ≤ 1000000) :
    Calls Tryd.prog fn_book_Book_At ⟨[ptrR' r, .int .i64 (e : Int)]⟩ w fun en w' => ∃ s : Slc, en = .returned (.tuple ⟨[.agg ⟨[.int .i64 (e : Int), s.v]⟩, .nilIface]⟩) ∧ Chs w' s pl[e].2 ∧ Keep w w' := by
  refine book_Book_At_ok _ _ ?_
  unfold book_Book_At
  refine newS_mk (fun r3 w4 hr3 hb3 k3 hs3 => ?_)
  have o3 := ObjAt.new' hb3
  have h4 := h.keep k3
  have hpl := h.pll
  refine needSome_mk rfl ⟨_, h4.c1, fun i w2 => ∃ k : Nat, i = k ∧ k ≤ e ∧ Keep w4 w2, fun i _ => ((pl.length : Int) - i).toNat, ⟨0, rfl, by omega, Ext.refl _ _⟩, ?_⟩
  rintro i w10 ⟨k, rfl, hk, k10⟩
  intros
  refine BIf_dec (fun h0 => ?_) (fun h0 => by omega)
  have hkl : k < pl.length := by omega
  obtain ⟨a, s, ha, hrow, hC⟩ := (h4.keep k10).planC hkl
  have hck := hcon k hkl
  refine needSome_mk ha ⟨by omega, h0, _, _, by rw [Int.toNat_natCast]; exact hrow, var_mk (cs := [.int .i64 pl[k].1, s.v]) rfl rfl (fun r26 w28 hr26 o26 k26 hs26 => ⟨_, o26.cell 0 (by simp), BIf_dec (fun h1 => ?_) (fun h1 => ⟨inR64 (by omega), ⟨k + 1, rfl, by omega, k10.trans k26⟩, by dsimp only; omega⟩)⟩)⟩
  have hke : k = e := by omega
  subst hke
  obtain ⟨v1, v2⟩ := hs _ (List.getElem_mem hkl)
  refine ⟨_, _, o26.row, (Copy_spec _ s _ w28 (hC.keep k26).chs v1 v2).mono ?_⟩
  rintro en w33 ⟨t, ts, rfl, hO, hB, k33⟩
  have kk := (k10.trans k26).trans k33
  obtain ⟨c1, c2⟩ := (o3.keep kk).setAll (n := 2) (cs := [.int .i64 pl[k].1, t.v]) rfl rfl
  refine ⟨_, _, rfl, c1, fun w36 hw36 => ?_⟩
  obtain ⟨o36, e36, z36⟩ := c2 w36 hw36
  have z3 := k3.size
  have z10 := k10.size
  have z26 := k26.size
  refine ⟨_, _, o36.row, t, ?_, ((ChF.of hO).ext e36 (fun j hj hh => by have := hB j hj; have h9 : j = r3 := hh; omega)).chs, (k3.trans kk).ext e36 (fun j hj => by rw [show j = r3 from hj]; omega)⟩
  rw [hck]
end Go.D

set_option linter.unusedVariables false
set_option linter.unusedSimpArgs false
set_option maxRecDepth 8000
namespace Go.D
open Go Go.Proofs

theorem right_few {ep : Int} {cs : List (List Int)} (h : RightP ep cs) : cs.length ≤ 1000 ∧ ∀ c ∈ cs, c.length ≤ 1000 := ⟨by have := h.2.1; omega, fun c hc => by have := (h.2.2.1 c hc).2.1; omega⟩
/-- Where the plays of a book stand. -/
structure BRI (w : World) (z0 r n t : Nat) (w2 : World) (ps : Slc) (x : BkP) (up : Nat → Bool) (f : Nat → Int → VS) (pl prop : List PlS) (ql : List (Int × Slc)) (Y : Nat → Prop) : Prop where
  B : BkAt w2 r x up f pl (40 * t)
  nn : x.n = n
  con : ∀ i (h : i < pl.length), pl[i].1 = (i : Int)
  ll : 0 < pl.length ∧ pl.length ≤ t + 1
  rt : ∀ p ∈ pl, RightP p.1 p.2
  V : VInv n f (GP prop)
  P : PsAt w2 ps ql Y prop
  pp : prop.length ≤ t ∧ ∀ p ∈ prop, p.2.length ≤ 1000
  k : Keep w w2
  z : w.heap.size ≤ z0 ∧ z0 ≤ w2.heap.size
  b : ∀ j, BkB r x j → z0 ≤ j ∧ ¬ PsB ps Y j
  y : ∀ j, x.Y j → z0 ≤ j ∧ ¬ ownB ps j
  p : ∀ j, PsB ps Y j → z0 ≤ j
section
variable {w w2 w3 : World} {z0 r n t : Nat} {ps : Slc} {x : BkP} {up : Nat → Bool} {f : Nat → Int → VS} {pl prop : List PlS} {ql : List (Int × Slc)} {Y : Nat → Prop}
theorem BRI.keep (h : BRI w z0 r n t w2 ps x up f pl prop ql Y) (hk : Keep w2 w3) : BRI w z0 r n t w3 ps x up f pl prop ql Y :=
  ⟨h.B.keep hk, h.nn, h.con, h.ll, h.rt, h.V, h.P.keep hk, h.pp, h.k.trans hk, ⟨h.z.1, Nat.le_trans h.z.2 hk.size⟩, h.b, h.y, h.p⟩
theorem BRI.few (h : BRI w z0 r n t w2 ps x up f pl prop ql Y) : ∀ p ∈ pl, p.2.length ≤ 1000 ∧ ∀ c ∈ p.2, c.length ≤ 1000 := fun p hp => right_few (h.rt p hp)
theorem BRI.last (h : BRI w z0 r n t w2 ps x up f pl prop ql Y) : (pl[pl.length - 1]'(by have := h.ll; omega)).1 = ((pl.length - 1 : Nat) : Int) := h.con _ _
/-- The book is changed, the list is not. -/
theorem BRI.book (h : BRI w z0 r n t w2 ps x up f pl prop ql Y) {x' : BkP} {up' : Nat → Bool} (hB : BkAt w3 r x' up' f pl (40 * t)) (hn : x'.n = x.n) (hY : x'.Y = x.Y) (hf : Foot (BkB r x) (BkB r x') w2 w3) : BRI w z0 r n (t + 1) w3 ps x' up' f pl prop ql Y := by
  have lp := h.P.lt
  refine ⟨hB.mono (by omega), by rw [hn, h.nn], h.con, ⟨h.ll.1, by have := h.ll; omega⟩, h.rt, h.V, h.P.ext hf.1 (fun j hj hh => (h.b j hh).2 hj), ⟨by have := h.pp.1; omega, h.pp.2⟩, h.k.ext hf.1 (fun j hj => by have := (h.b j hj).1; have := h.z.1; omega), ⟨h.z.1, Nat.le_trans h.z.2 hf.1.size⟩, fun j hj => ?_, fun j hj => h.y j (by rw [← hY]; exact hj), h.p⟩
  rcases hf.2 j hj with g | g
  · exact h.b j g
  · exact ⟨by have := h.z.2; omega, fun hh => by have := lp j hh; omega⟩
end
theorem BookRises_walk (A : Nat → Addr) (v : Int) (sl0 : Slc) (xs : List ActB) (w : World) (hl : ActsB w sl0 xs) (hE : Errs A w) :
    Calls Tryd.prog fn_tidewaterlaw12_BookRises ⟨[.int .i64 v, sl0.v]⟩ w fun e w' => e = .returned (.bool true) ∧ Keep w w' := by
  refine tidewaterlaw12_BookRises_ok _ _ ?_
  unfold tidewaterlaw12_BookRises
  have hB : ErrsB A w.heap.size w := hE.b
  have hll := hl.1
  refine (bkAlive_spec A w hE).mono ?_
  rintro e w4 ⟨rfl, k4⟩
  refine ⟨_, rfl, BIf_mk (fun h => by cases h) (fun _ => (long12_spec sl0 xs w4 (hl.keep k4)).mono ?_)⟩
  rintro e w7 ⟨b, rfl, hlong, k7⟩
  have kk7 := k4.trans k7
  obtain ⟨a, ha, hwa', hua⟩ := mod_wrap8 v 5 (by omega) (by omega)
  have hwa : IntKind.wrap .i64 ((IntKind.wrap .u64 v) % (5 : Int)) = (a : Int) := hwa'
  have hwn : (1 : Int) + IntKind.wrap .i64 ((IntKind.wrap .u64 v) % (5 : Int)) = ((a + 1 : Nat) : Int) := by rw [hwa]; omega
  refine ⟨_, rfl, BIf_mk (fun _ => ⟨rfl, kk7⟩) (fun hbf => ⟨hua, by omega, by rw [hwn]; exact inR64 (by omega), newS_mk (fun r9 w10 hr9 hb9 k9 hs9 => newS_mk (fun r11 w12 hr11 hb11 k11 hs11 => ?_))⟩)⟩
  rw [hwn]
  obtain ⟨h40, hsm⟩ := hlong hbf
  have kk12 := (kk7.trans k9).trans k11
  refine (bkNew_spec A (n0 := 0) (a + 1) (by omega) 0 ⟨some ⟨r11, 0, none⟩, 1, 1⟩ [[0]] w12 (chs_one (k11.heap hb9) hb11) (right_one 0 (by omega))).mono ?_
  rintro e w14 ⟨r, x, rfl, hBk, hxn, hBn, hYn, k14⟩
  have kk14 := kk12.trans k14
  refine ⟨_, _, rfl, fun w2 => w2 = w14, ⟨trivial, BIf_mk (fun h => by cases h) (fun _ => BIf_mk (fun h => by cases h) (fun _ => rfl))⟩, ?_⟩
  rintro w18 rfl
  intros
  refine newS_mk (fun r26 w27 hr26 hb26 k26 hs26 => ?_)
  have z12 := kk12.size
  have z14 := k14.size
  have z27 := k26.size
  have ltB := hBk.lt
  have ltY := hBk.yb
  have ob26 : ∀ {j}, ownB (⟨some ⟨r26, 0, none⟩, 0, 0⟩ : Slc) j → j = r26 := by rintro j ⟨a, ha, rfl⟩; cases ha; rfl
  have I0 : BRI w w12.heap.size r (a + 1) 0 w27 ⟨some ⟨r26, 0, none⟩, 0, 0⟩ x (fun _ => true) fresh5 [(0, [[0]])] [] [] (fun _ => False) := by
    refine ⟨hBk.keep k26, hxn, fun i h => ?_, ⟨by simp, by simp⟩, fun p hp => ?_, fun i hi m hb => ?_, ⟨⟨Own.new (sz := 2) (n := 0) hb26 (.inl (by simp)) rfl, rfl, fun i h => by simp at h, (by rintro j ⟨cs, hcs, _⟩; simp at hcs)⟩, rfl, fun i h => by simp at h, (fun j hj => hj.elim), (fun j hj => hj.elim)⟩, ⟨by simp, by simp⟩, kk14.trans k26, ⟨z12, by omega⟩, fun j hj => ⟨hBn j hj, fun hh => ?_⟩, fun j hj => ⟨hYn j hj, fun hh => ?_⟩, fun j hj => ?_⟩
    · have : i = 0 := by simp at h; omega
      subst this; rfl
    · rw [List.mem_singleton] at hp; subst hp; exact right_one 0 (by omega)
    · have hb' : (0 : Int) ≤ -1 := hb
      omega
    · rcases hh with hh | hh
      · have := ob26 hh; have := ltB j hj; omega
      · exact hh.elim
    · have := ob26 hh; have := ltY j hj; omega
    · rcases hj with hj | hj
      · have := ob26 hj; omega
      · exact hj.elim
  refine ⟨fun ps i w2 => ∃ (t : Nat) (x : BkP) (up : Nat → Bool) (f : Nat → Int → VS) (pl prop : List PlS) (ql : List (Int × Slc)) (Y : Nat → Prop), i = t ∧ t ≤ xs.length ∧ BRI w w12.heap.size r (a + 1) t w2 ps x up f pl prop ql Y, fun _ i _ => ((xs.length : Int) - i).toNat,
    ⟨0, x, _, _, _, _, _, _, rfl, by omega, I0⟩, ?_⟩
  rintro ps i w32 ⟨t, x, up, f, pl, prop, ql, Y, rfl, ht, I⟩
  intros
  refine BIf_dec (fun h1 => ?_) (fun h1 => ⟨rfl, I.k⟩)
  have htl : t < xs.length := by omega
  obtain ⟨a1, sc, sa, ha1, hrow, hC, hA⟩ := hl.2 t htl
  obtain ⟨hc10, ha20, hcc⟩ := hsm _ (List.getElem_mem htl)
  generalize hact : xs[t] = act at hrow hC hA hc10 ha20 hcc
  obtain ⟨y1, y2, y3, y4, cs, asked⟩ := act
  simp only at hrow hC hA hc10 ha20 hcc
  refine needSome_mk ha1 ⟨by omega, h1, _, _, _, _, _, _, by rw [Int.toNat_natCast]; exact rowAt_keep hrow I.k, ?_⟩
  refine var_mk (cs := [.int .i64 y1, .int .i64 y2, .int .i64 y3, .int .i64 y4, sc.v, sa.v]) rfl rfl (fun r136 w138 hr136 o136 k136 hs136 => ?_)
  have I138 := I.keep k136
  refine (bkLatest_spec I138.B I.ll.1 (by have := I.ll; omega) I.few).mono ?_
  rintro e w140 ⟨s142, rfl, hWas, k140⟩
  rw [I.last]
  generalize hL : pl.length - 1 = L
  have hLl : L < pl.length := by have := I.ll; omega
  have hL40 : L ≤ 40 := by have := I.ll; omega
  have hWas' : ChF w140 s142 (pl[L]'hLl).2 (fun k => w138.heap.size ≤ k ∧ k < w140.heap.size) := by
    have : pl[pl.length - 1]'(by omega) = pl[L]'hLl := by congr 1
    rw [← this]; exact hWas
  have hRL := I.rt _ (List.getElem_mem hLl)
  rw [I.con L hLl] at hRL
  refine ⟨_, _, rfl, var_mk (cs := [.int .i64 (L : Int), s142.v]) rfl rfl (fun r143 w145 hr143 o143 k143 hs143 => ?_)⟩
  have k145 := (k136.trans k140).trans k143
  have I145 := I.keep k145
  have o145 := (o136.keep k140).keep k143
  have W145 := hWas'.keep k143
  have z138 := k136.size
  have z140 := k140.size
  have z145 := k143.size
  have zI := I.z
  have l136 : r136 < w138.heap.size := o136.lt
  have lB := I.B.lt
  have lP := I.P.lt
  have lYb := I.B.yb
  -- what stands at the end of an act
  have fwd : ∀ {w5 : World}, (∃ M, Ext M w145 w5 ∧ (∀ j, M j → BkB r x j ∨ ownB ps j ∨ w145.heap.size ≤ j)) → ObjAt w5 r143 [.int .i64 (L : Int), s142.v] ∧ Chs w5 s142 (pl[L]'hLl).2 := by
    rintro w5 ⟨M, he, hM⟩
    refine ⟨o143.ext he (fun hh => ?_), (W145.ext he (fun j hj hh => ?_)).chs⟩
    · rcases hM _ hh with g | g | g
      · have := lB _ g; omega
      · have := lP _ (.inl g); omega
      · have := o143.lt; omega
    · rcases hM _ hh with g | g | g
      · have := lB _ g; omega
      · have := lP _ (.inl g); omega
      · omega
  refine ⟨fun ps' w2 => ∃ (x' : BkP) (up' : Nat → Bool) (f' : Nat → Int → VS) (pl' prop' : List PlS) (ql' : List (Int × Slc)) (Y' : Nat → Prop), BRI w w12.heap.size r (a + 1) (t + 1) w2 ps' x' up' f' pl' prop' ql' Y' ∧ (∃ h : L < pl'.length, pl'[L] = pl[L]'hLl) ∧ ObjAt w2 r143 [.int .i64 (L : Int), s142.v] ∧ Chs w2 s142 (pl[L]'hLl).2,
    ⟨_, o145.cell 0 (by simp), BIf_dec (fun g0 => ?_) (fun g0 => BIf_dec (fun g1 => ?_) (fun g1 => ?_))⟩, ?_⟩
  · -- a plan is proposed
    refine ⟨_, o143.cell 0 (by simp), inR64 (by omega), _, o145.cell 4 (by simp), var_mk (cs := [.int .i64 ((L : Int) + 1), sc.v]) rfl rfl (fun r150 w152 hr150 o150 k150 hs150 => ⟨_, _, o150.row, ?_⟩)⟩
    have k152 := k145.trans k150
    refine (Copy_spec _ sc cs w152 (hC.keep (I.k.trans k152)) (by omega) (fun c hc => by have := hcc c hc; omega)).mono ?_
    rintro e w156 ⟨tc, tcs, rfl, hO, hOB, k156⟩
    refine ⟨_, _, rfl, newS_mk (fun r159 w160 hr159 hb159 k159 hs159 => ?_)⟩
    have kA : Keep w145 w160 := (k150.trans k156).trans k159
    have I160 := I145.keep kA
    have olt := hO.lt
    have z152 := k150.size
    have z156 := k156.size
    have z160 := k159.size
    refine I160.P.push ((ChF.of hO).keep k159) (fun j hj => ⟨by have := olt j hj; omega, fun hh => by have := hOB j hj; have := lP j (.inl hh); omega⟩) hb159 (by have := I.pp.1; omega) (fun s161 w162 hP162 x162 n162 => ?_)
    have z162 := x162.size
    have nr : ∀ {q : Nat}, w32.heap.size ≤ q → ¬ ownB ps q := fun hq hh => by have := lP _ (.inl hh); omega
    have hB162 := I160.B.ext x162 (fun j hj hh => (I.b j hj).2 (.inl hh)) (fun j hj hh => (I.y j hj).2 hh)
    have o136' := (o145.keep kA).ext x162 (nr (by omega))
    have o150' := ((o150.keep k156).keep k159).ext x162 (nr (by omega))
    have kw162 : Keep w w162 := (I160.k).ext x162 (fun j hj => by have := I.p j (.inl hj); omega)
    have F145 : Ext (ownB ps) w145 w162 := Ext.trans kA x162 (fun _ h => h.elim) (fun _ h => .inl h)
    -- what voters hold
    have hm' : ((L : Int) + 1, cs) ∈ prop ++ [((L : Int) + 1, cs)] := by simp
    have hV' : VInv (a + 1) f (GP (prop ++ [((L : Int) + 1, cs)])) := I.V.mono (fun m t' ⟨c, h1, h2, h3⟩ => ⟨c, by simp [h1], h2, h3⟩)
    have hInv : RightP ((L : Int) + 1) cs → VInv (a + 1) (propP x.n up f ((L : Int) + 1) y2 (planB ((L : Int) + 1) cs) asked).1 (GP (prop ++ [((L : Int) + 1, cs)])) ∧ GP (prop ++ [((L : Int) + 1, cs)]) ((L : Int) + 1) (propP x.n up f ((L : Int) + 1) y2 (planB ((L : Int) + 1) cs) asked).2.t := fun hr => by
      rw [I.nn]
      exact propP_inv hV' ⟨cs, hm', hr, rfl⟩
    obtain ⟨csd, hcsd⟩ : ∃ csd, RightP ((L : Int) + 1) cs → RightP ((L : Int) + 1) csd ∧ (propP x.n up f ((L : Int) + 1) y2 (planB ((L : Int) + 1) cs) asked).2.t = planB ((L : Int) + 1) csd ∧ ((L : Int) + 1, csd) ∈ prop ++ [((L : Int) + 1, cs)] := by
      by_cases hr : RightP ((L : Int) + 1) cs
      · obtain ⟨c, h1, h2, h3⟩ := (hInv hr).2
        exact ⟨c, fun _ => ⟨h2, h3, h1⟩⟩
      · exact ⟨[], fun h => absurd h hr⟩
    refine ⟨_, o136'.cell 1 (by simp), _, _, o150'.row, _, o136'.cell 5 (by simp), ?_⟩
    refine (bkPropose_spec A (n0 := w.heap.size) hB162 (by omega) (by rw [I.nn]; omega) I.ll.1 (by have := I.ll; omega) (hB.keep kw162) kw162.size (fun j hj => by have := (I.b j hj).1; omega) (by rw [I.last]; have := I.ll; omega) y2 ((L : Int) + 1) sc cs (hC.keep kw162) (by omega) sa asked (by omega) hA.1 (fun _ => intsAt_keep hA kw162) (fun hne j hj hh => by have := intsAt_lt hA hne j hj; have := (I.b j hh).1; omega) csd (fun hr _ _ => ⟨(hcsd hr).1, (hcsd hr).2.1⟩)).mono ?_
    rintro e w168 ⟨q, tq, e', rfl, x', f', pl', hxn', hB', f9, hY', hcase⟩
    have z168 := f9.1.size
    have hplL : (∃ h : L < pl'.length, pl'[L] = pl[L]'hLl) ∧ (∀ i (h : i < pl'.length), pl'[i].1 = (i : Int)) ∧ (0 < pl'.length ∧ pl'.length ≤ t + 2) ∧ (∀ p ∈ pl', RightP p.1 p.2) ∧ VInv (a + 1) f' (GP (prop ++ [((L : Int) + 1, cs)])) := by
      have old : pl' = pl → (∃ h : L < pl'.length, pl'[L] = pl[L]'hLl) ∧ (∀ i (h : i < pl'.length), pl'[i].1 = (i : Int)) ∧ (0 < pl'.length ∧ pl'.length ≤ t + 2) ∧ (∀ p ∈ pl', RightP p.1 p.2) := fun e => by
        subst e
        exact ⟨⟨hLl, rfl⟩, I.con, ⟨I.ll.1, by have := I.ll; omega⟩, I.rt⟩
      rcases hcase with ⟨_, _, rfl, g⟩ | ⟨hP, _, _, rfl, g⟩ | ⟨hP, _, _, rfl, _, hr', _, g, _⟩
      · obtain ⟨q1, q2, q3, q4⟩ := old g
        exact ⟨q1, q2, q3, q4, hV'⟩
      · obtain ⟨q1, q2, q3, q4⟩ := old g
        exact ⟨q1, q2, q3, q4, (hInv hP.1).1⟩
      · subst g
        refine ⟨⟨by simp; omega, List.getElem_append_left hLl⟩, fun i h => ?_, ⟨by simp, by have := I.ll; simp; omega⟩, fun p hp => ?_, (hInv hP.1).1⟩
        · rw [List.length_append, List.length_singleton] at h
          by_cases e : i < pl.length
          · rw [List.getElem_append_left e]; exact I.con i e
          · have ei : i = pl.length := by omega
            have : (pl ++ [((L : Int) + 1, csd)])[i]'(by simp; omega) = ((L : Int) + 1, csd) := by rw [List.getElem_append_right (by omega)]; simp [ei]
            rw [this]
            show (L : Int) + 1 = (i : Int)
            omega
        · rcases List.mem_append.1 hp with hp | hp
          · exact I.rt p hp
          · rw [List.mem_singleton] at hp; subst hp; exact hr'
    obtain ⟨q1, q2, q3, q4, q5⟩ := hplL
    have s161n : ∀ j, ownB s161 j → ownB ps j ∨ w160.heap.size ≤ j := n162
    have I168 : BRI w w12.heap.size r (a + 1) (t + 1) w168 s161 x' up f' pl' (prop ++ [((L : Int) + 1, cs)]) (ql ++ [((L : Int) + 1, tc)]) (fun k => Y k ∨ ChB tc tcs k) := by
      have psb : ∀ j, PsB s161 (fun k => Y k ∨ ChB tc tcs k) j → PsB ps Y j ∨ w152.heap.size ≤ j := by
        rintro j (hj | hj | hj)
        · exact (s161n j hj).imp .inl (fun g => by omega)
        · exact .inl (.inr hj)
        · exact .inr (hOB j hj)
      have lt162 := hP162.lt
      refine ⟨hB'.mono (by omega), by rw [hxn', I.nn], q2, q3, q4, q5, hP162.ext f9.1 (fun j hj hh => ?_), ⟨by have := I.pp.1; simp; omega, fun p hp => ?_⟩, kw162.ext f9.1 (fun j hj => by have := (I.b j hj).1; omega), ⟨zI.1, by omega⟩, fun j hj => ?_, fun j hj => ?_, fun j hj => ?_⟩
      · rcases psb j hj with g | g
        · exact (I.b j hh).2 g
        · have := lB j hh; omega
      · rcases List.mem_append.1 hp with hp | hp
        · exact I.pp.2 p hp
        · rw [List.mem_singleton] at hp; subst hp; show cs.length ≤ 1000; omega
      · rcases f9.2 j hj with g | g
        · refine ⟨(I.b j g).1, fun hh => ?_⟩
          rcases psb j hh with g2 | g2
          · exact (I.b j g).2 g2
          · have := lB j g; omega
        · exact ⟨by omega, fun hh => by have := lt162 j hh; omega⟩
      · rcases hY' j hj with g | g
        · refine ⟨(I.y j g).1, fun hh => ?_⟩
          rcases s161n j hh with g2 | g2
          · exact (I.y j g).2 g2
          · have := lYb j g; omega
        · exact ⟨by omega, fun hh => by have := lt162 j (.inl hh); omega⟩
      · rcases psb j hj with g | g
        · exact I.p j g
        · omega
    have F168 : ∃ M, Ext M w145 w168 ∧ (∀ j, M j → BkB r x j ∨ ownB ps j ∨ w145.heap.size ≤ j) := ⟨fun j => BkB r x j ∨ ownB ps j, (F145.mono (fun j hj => .inr hj)).trans f9.1 (fun _ h => h) (fun j hj => .inl (.inl hj)), fun j hj => hj.elim .inl (fun g => .inr (.inl g))⟩
    obtain ⟨w168o, w168c⟩ := fwd F168
    refine ⟨_, _, _, rfl, var_mk (cs := [.int .i64 q, tq.v]) rfl rfl (fun r172 w174 hr172 o172 k172 hs172 => ⟨errO_isI A _, BIf_mk (fun hn => ?_) (fun hn => ?_)⟩)⟩
    · have en : e' = none := by rw [errO_nil] at hn; simpa using hn
      obtain ⟨hq, hr', hpl', hCq, hRc⟩ : q = (L : Int) + 1 ∧ RightP ((L : Int) + 1) csd ∧ pl' = pl ++ [((L : Int) + 1, csd)] ∧ ChF w168 tq csd (fun k => w162.heap.size ≤ k ∧ k < w168.heap.size) ∧ RightP ((L : Int) + 1) cs := by
        rcases hcase with ⟨_, g, _⟩ | ⟨_, _, g, _⟩ | ⟨hP, _, _, _, g1, g2, _, g3, g4⟩
        · rcases g with g | g <;> (rw [g] at en; cases en)
        · rw [g] at en; cases en
        · exact ⟨g1, g2, g3, g4, hP.1⟩
      subst hq
      have kd : Keep w174 (World.drew w174) := Ext.drew _ _
      have I174 := (I168.keep k172).keep kd
      have hCd := ((hCq.keep k172).keep kd).chs
      have o172d := o172.keep kd
      have few' := I174.few
      refine ⟨_, _, o172d.row, (bkLatest_spec I174.B I174.ll.1 (by have := I174.ll; omega) few').mono ?_⟩
      rintro e w178 ⟨s180, rfl, hC180, k178⟩
      have elast : pl'[pl'.length - 1]'(by have := I174.ll; omega) = ((L : Int) + 1, csd) := by subst hpl'; simp
      rw [elast] at hC180 ⊢
      have cl := right_few hr'
      refine ⟨_, _, rfl, ⟨_, _, (o172d.keep k178).row, rfl⟩, (PlanSame_spec _ _ tq s180 csd csd w178 (hCd.keep k178) hC180.chs (by omega) (by omega)).mono ?_⟩
      rintro e w184 ⟨bb, rfl, hbb, k184⟩
      have hbt : bb = true := hbb.2 ⟨hr', hr', rfl, rfl⟩
      subst hbt
      have k74 := (kd.trans k178).trans k184
      have k168' := k172.trans k74
      have w184o := w168o.keep k168'
      have o172e := o172.keep k74
      refine ⟨_, rfl, BIf_mk (fun hh => by cases hh) (fun _ => ⟨_, o172e.cell 0 (by simp), _, w184o.cell 0 (by simp), inR64 (by omega), BIf_ndec (fun hh => absurd rfl hh) (fun _ => ⟨_, _, o172e.row, (among_spec (I168.keep k168').P _ tq csd ((hCq.keep k168').chs) hr' (hcsd hRc).2.2 (I168.pp.2) (by have := I168.pp.1; omega)).mono ?_⟩)⟩)⟩
      rintro e w191 ⟨rfl, k191⟩
      refine ⟨_, rfl, BIf_mk (fun hh => by cases hh) (fun _ => ?_)⟩
      have kf := k168'.trans k191
      exact ⟨x', up, f', pl', _, _, _, I168.keep kf, q1, w168o.keep kf, w168c.keep kf⟩
    · have kd : Keep w174 (World.drew w174) := Ext.drew _ _
      have kf := k172.trans kd
      exact ⟨x', up, f', pl', _, _, _, I168.keep kf, q1, w168o.keep kf, w168c.keep kf⟩
  · refine ⟨_, o145.cell 2 (by simp), (bkSet_spec I145.B y3 true).mono ?_⟩
    rintro e w195 ⟨rfl, x', hxn', hxY', hB', f9⟩
    obtain ⟨g3, g4⟩ := fwd ⟨BkB r x, f9.1, fun j hj => .inl hj⟩
    exact ⟨rfl, x', _, f, pl, prop, ql, Y, I145.book hB' hxn' hxY' f9, ⟨hLl, rfl⟩, g3, g4⟩
  · refine ⟨_, o145.cell 2 (by simp), (bkSet_spec I145.B y3 false).mono ?_⟩
    rintro e w198 ⟨rfl, x', hxn', hxY', hB', f9⟩
    obtain ⟨g3, g4⟩ := fwd ⟨BkB r x, f9.1, fun j hj => .inl hj⟩
    exact ⟨rfl, x', _, f, pl, prop, ql, Y, I145.book hB' hxn' hxY' f9, ⟨hLl, rfl⟩, g3, g4⟩
  · rintro ps' w200 ⟨x', up', f', pl', prop', ql', Y', I2, ⟨hL2, eL⟩, o200, c200⟩
    intros
    refine ⟨_, o200.cell 0 (by simp), (bkAt_spec I2.B I2.con I2.few L hL2 (by have := I2.ll; omega)).mono ?_⟩
    rintro e w265 ⟨s267, rfl, hC267, k265⟩
    rw [eL] at hC267
    refine ⟨_, _, _, rfl, var_mk (cs := [.int .i64 (L : Int), s267.v]) rfl rfl (fun r269 w271 hr269 o269 k269 hs269 => ⟨trivial, BIf_mk (fun hh => by cases hh) (fun _ => ?_)⟩)⟩
    have k271 := k265.trans k269
    have cl := right_few hRL
    refine ⟨_, _, o269.row, _, _, (o200.keep k271).row, (PlanSame_spec _ _ s267 s142 _ _ w271 (hC267.keep k269) (c200.keep k271) (by omega) (by omega)).mono ?_⟩
    rintro e w277 ⟨bb, rfl, hbb, k277⟩
    have hbt : bb = true := hbb.2 ⟨hRL, hRL, rfl, rfl⟩
    subst hbt
    have I277 := I2.keep (k271.trans k277)
    refine ⟨_, rfl, BIf_mk (fun hh => by cases hh) (fun _ => (bkKnown_spec I277.B).mono ?_)⟩
    rintro e w280 ⟨rfl, rfl⟩
    refine ⟨_, rfl, (bkLatest_spec I277.B I277.ll.1 (by have := I277.ll; omega) I277.few).mono ?_⟩
    rintro e w283 ⟨s285, rfl, _, k283⟩
    rw [I277.last]
    have hpl' := I277.ll
    exact ⟨_, _, rfl, inR64 (by omega), BIf_ndec (fun hh => absurd (by omega) hh) (fun _ => ⟨inR64 (by omega), ⟨t + 1, x', up', f', pl', prop', ql', Y', rfl, htl, I277.keep k283⟩, by dsimp only; omega⟩)⟩
theorem BookRises_fin (v : Int) (sl0 : Slc) (xs : List (Int × Int × Int × Int × (Slc × List (Slc × List Int)) × (Slc × List Int))) (w : World) (hl : rowsR rdActB w sl0 xs) (A : Nat → Addr) (hE : Errs A w) :
    Calls Tryd.prog fn_tidewaterlaw12_BookRises ⟨[.int .i64 v, sl0.v]⟩ w fun e w' => e = .returned (.bool true) ∧ Keep w w' := BookRises_walk A v sl0 _ w (actsB_of hl) hE
end Go.D

