/-
  WHAT IS PROVED: contracts of functions, and the plain law, for this proof. No further conditions.
-/
import Derived.Test.YtppbbkmjjpggkaaGreatDoorAll3
import Derived.Test.YtppbbkmjjpggkaaGreatDoorRowsM
import Derived.Test.YtppbbkmjjpggkaaGreatDoorAll2
import Derived.Test.YtppbbkmjjpggkaaGreatDoorVCref04i
import Derived.Test.YtppbbkmjjpggkaaGreatDoorVCref08
import Derived.Test.YtppbbkmjjpggkaaGreatDoorVCref09
set_option linter.unusedVariables false
set_option linter.unusedSimpArgs false
namespace Go.D
open Go Go.Proofs
def ndC (f t : Int) (s : Slc) : List Value := [.int .i64 f, .int .i64 t, s.v]
theorem zw {f t : Int} {s : Slc} {k : Nat} (h : jA (ndC f t s) k) : 0 < s.l /\ ao s k := by
 obtain ⟨s', hs, h1, h2⟩ := h
 have : s' = s := by
  obtain ⟨p, l, c⟩ := s
  obtain ⟨p', l', c'⟩ := s'
  simp [ndC, Slc.v] at hs
  obtain ⟨rfl, rfl, rfl⟩ := hs
  rfl
 subst this
 exact ⟨h1, h2⟩
theorem Fb (f t : Int) (s : Slc) : ∀ v ∈ ndC f t s, v.oneCell' = true := by
 intro v hv
 simp [ndC] at hv
 rcases hv with rfl | rfl | rfl <;> rfl
def NdR : xA NdE where
 n := 3
 pos := by omega
 R w x cs := ∃ s : Slc, cs = ndC x.f x.t s /\ ag w s x.msg /\ x.msg.length <= 2 ^ 20
 len := by rintro w x cs ⟨s, rfl, _⟩; rfl
 one := by rintro w x cs ⟨s, rfl, _⟩; exact Fb _ _ _
 ext := by
  rintro M w w' x cs ⟨s, rfl, h, h2⟩ he hm
  exact ⟨s, rfl, aN h he (fun h0 k hk => hm k ⟨s, by simp [ndC], h0, hk⟩), h2⟩
 lt := by
  rintro w x cs ⟨s, rfl, h, _⟩ k hk
  obtain ⟨h0, hk⟩ := zw hk
  exact cA h h0 k hk
structure NdP where
 ts : Slc
 css : List (List Value)
structure lh (w : World) (rn r : Nat) (p : NdP) (L : List NdE) : Prop where
 o : aq w rn [aw r, p.ts.v, .bool false]
 t : Rows NdR w p.ts L p.css
 dn : ¬ ao p.ts rn
 df : ∀ k, bD p.css k -> k ≠ rn
def NdM (rn : Nat) (p : NdP) (k : Nat) : Prop := k = rn \/ ao p.ts k
def NdF (p : NdP) (k : Nat) : Prop := bD p.css k
section
variable {w w' : World} {n0 rn r rd m m' : Nat} {f f' : UnF} {d d' : aU} {s s' : UnS} {p p' : NdP} {L : List NdE} {T T' : List NdE}
theorem lh.ext {M : Nat -> Prop} (h : lh w rn r p L) (he : Ext M w w') (h1 : ∀ k, NdM rn p k -> ¬ M k) (h2 : ∀ k, NdF p k -> ¬ M k) : lh w' rn r p L :=
 ⟨h.o.ext he (h1 _ (.inl rfl)), h.t.ext he (fun k hk => h1 k (.inr hk)) h2, h.dn, h.df⟩
theorem lh.af (h : lh w rn r p L) (he : ak w w') : lh w' rn r p L := h.ext he (fun _ _ h => h) (fun _ _ h => h)
theorem lh.lt (h : lh w rn r p L) : (∀ k, NdM rn p k -> k < w.heap.size) /\ ∀ k, NdF p k -> k < w.heap.size := by
 refine ⟨?_, h.t.flt⟩
 rintro k (rfl | hk)
 ·exact h.o.lt
 ·exact h.t.lt k hk
theorem lh.c1 (h : lh w rn r p L) : w.cell? ((⟨rn, 0, none⟩ : Addr).add 1) = some p.ts.v := by rw [add_lit]; exact h.o.cell 1 (by simp)
theorem lh.c2 (h : lh w rn r p L) : w.cell? ((⟨rn, 0, none⟩ : Addr).add 2) = some (.bool false) := by rw [add_lit]; exact h.o.cell 2 (by simp)
theorem lh.get (h : lh w rn r p L) {k : Nat} (hk : k < L.length) : ∃ (a : Addr) (s : Slc), p.ts.p = some a /\ rowAt w (Addr.add a (k * 3)) 0 (ndC L[k].f L[k].t s) /\ ag w s L[k].msg /\ L[k].msg.length <= 2 ^ 20 := by
 have hk2 : k < p.css.length := by rw [h.t.len]; exact hk
 obtain ⟨a, ha, hsp, hrow⟩ := h.t.get hk2
 obtain ⟨s, hs, hb, hb2⟩ := h.t.row k hk2 hk
 rw [hs] at hrow
 exact ⟨a, s, ha, hrow, hb, hb2⟩
theorem xP (x : NdE) (s : Slc) (fr t : Int) (b b2 : Nat) (w : World) (hc : w.cell? ⟨b, 0, none⟩ = some (.int .i64 fr)) (hc2 : w.cell? ⟨b2, 0, none⟩ = some (.int .i64 t)) :
  Calls Tryz.prog dT ⟨[.agg ⟨ndC x.f x.t s⟩, aw b, aw b2]⟩ w fun e w' => e = .returned (.bool (decide (x.f = fr /\ x.t = t))) /\ ak w w' := by
 refine oK _ _ _ _ _ ?_
 unfold kJ
 refine au (fun r6 w7 hr6 hb6 k6 hs6 => ?_)
 have o6 := aq.cJ hb6
 refine ⟨x.f, o6.cell 0 (by simp), fr, k6.cell hc, ae (fun h1 => ⟨x.t, o6.cell 1 (by simp), t, k6.cell hc2, ?_, k6⟩) (fun h1 => ⟨?_, k6⟩)⟩
 ·by_cases h2 : x.t = t
  ·rw [decide_eq_true h2, decide_eq_true ⟨h1, h2⟩]
  ·rw [decide_eq_false h2, decide_eq_false (fun h => h2 h.2)]
 ·rw [decide_eq_false (fun h => h1 h.1)]
def GF (fr t : Int) (L : List NdE) (i : Int) : Prop := (∃ (k : Nat) (hk : k < L.length), i = k /\ (L[k].f = fr /\ L[k].t = t) /\ ∀ j (hj : j < L.length), j < k -> ¬ (L[j].f = fr /\ L[j].t = t)) \/ (i = -1 /\ ∀ j (hj : j < L.length), ¬ (L[j].f = fr /\ L[j].t = t))
theorem qm (h : lh w rn r p L) (fr t : Int) (b b2 : Nat) (hc : w.cell? ⟨b, 0, none⟩ = some (.int .i64 fr)) (hc2 : w.cell? ⟨b2, 0, none⟩ = some (.int .i64 t)) (hl : L.length <= 2 ^ 40) :
  Calls Tryz.prog ey ⟨[p.ts.v, .func (.func dT) ⟨[]⟩ ⟨[aw b, aw b2]⟩]⟩ w fun e w' => ∃ i, e = .returned (.int .i64 i) /\ GF fr t L i /\ ak w w' := by
 refine eY _ _ _ ?_
 unfold cH
 have hsl := h.t.sl
 refine ⟨fun i w2 => ∃ k : Nat, i = k /\ k <= L.length /\ ak w w2 /\ ∀ j (hj : j < L.length), j < k -> ¬ (L[j].f = fr /\ L[j].t = t), fun i _ => ((L.length : Int) - i).toNat, ⟨0, rfl, by omega, Ext.refl _ _, fun j _ hj => by omega⟩, ?_⟩
 rintro i w2 ⟨k, rfl, hk, k2, hno⟩
 intros
 refine ae (fun h1 => ?_) (fun h1 => ⟨_, rfl, .inr ⟨rfl, fun j hj => hno j hj (by omega)⟩, k2⟩)
 have hkl : k < L.length := by omega
 obtain ⟨a, s, ha, hrow, hb, _⟩ := (h.af k2).get hkl
 refine aa ha ⟨by omega, h1, _, _, _, by rw [show Int.toNat (k : Int) * 3 = k * 3 by omega]; exact hrow, ?_⟩
 refine (xP L[k] s fr t b b2 w2 (k2.cell hc) (k2.cell hc2)).mono ?_
 rintro e w25 ⟨rfl, k25⟩
 refine ⟨_, rfl, ae (fun h2 => ⟨_, rfl, .inl ⟨k, hkl, rfl, h2, fun j hj => hno j hj⟩, k2.trans k25⟩) (fun h2 => ?_)⟩
 refine ⟨aA (by omega), ⟨k + 1, rfl, hkl, k2.trans k25, fun j hj hjk => ?_⟩, by dsimp only; omega⟩
 by_cases hj2 : j = k
 ·subst hj2; exact h2
 ·exact hno j hj (by omega)
theorem ua {s : Slc} {css : List (List Value)} (h : Rows NdR w s L css) (hi : 0 < css.length) (hl : L.length <= 2 ^ 30) :
  Calls Tryz.prog cD ⟨[s.v, .int .i64 (0 : Int), .int .i64 (1 : Int)]⟩ w fun e w' => e = .returned (Slc.v ⟨s.p, s.l - 1, s.c⟩) /\ Rows NdR w' ⟨s.p, s.l - 1, s.c⟩ (L.eraseIdx 0) (css.eraseIdx 0) /\ Ext (ao s) w w' := by
 refine oL _ _ _ ?_
 unfold kK
 have hsl := h.sl
 have hcl := h.len
 have hcap := h.cap
 refine ⟨by omega, by omega, by omega, by omega, ae (fun hh => by omega) (fun _ => ⟨by omega, by omega, by omega, by omega, by omega, by omega, by omega, by omega, ?_⟩)⟩
 have hd := h.af (Ext.drew _ w)
 rw [show Int.toNat (0 : Int) = 0 by omega, show Int.toNat (1 : Int) = 0 + 1 by omega]
 obtain ⟨old, new, c1, c2, c3, c4, c5, c6, c7⟩ := hd.cut (z := ndC 0 0 ⟨none, 0, 0⟩) (E := ni) (K := fun w' => Rows NdR w' ⟨s.p, s.l - 1, s.c⟩ (L.eraseIdx 0) (css.eraseIdx 0) /\ Ext (ao s) w.drew w') hi rfl (Fb 0 0 ⟨none, 0, 0⟩) hl (fun w' g1 g2 g3 => ⟨g1, g2⟩)
 refine ⟨old, new, c1, c2, c3, c4, c5, c6, fun s7 w8 hA => ?_⟩
 obtain ⟨rfl, g⟩ := c7 s7 w8 hA
 refine ⟨by omega, ?_, ?_, ?_, ?_⟩
 ·show ((s.l - 1 : Nat) : Int) <= _; omega
 ·show ((s.l : Nat) : Int) <= ((s.c : Nat) : Int); omega
 ·exact Int.le_refl _
 exact g.mono (fun w1 hg => ⟨rfl, hg.1, (Ext.drew _ _).trans hg.2 (fun _ h => h) (fun _ h => .inl h)⟩)
structure cW (w : World) (n0 rn r rd : Nat) (f : UnF) (d : aU) (s : UnS) (m : Nat) (p : NdP) (T : List NdE) : Prop where
 U : UAt w n0 r rd f d s m
 N : lh w rn r p (hZ T)
 sm : ∀ k, NdM rn p k -> ¬ UB r rd f k /\ ¬ UnY f.x k
 sf : ∀ k, NdF p k -> ¬ UB r rd f k
 ge : ∀ k, NdM rn p k -> n0 <= k
def NB (rn r rd : Nat) (f : UnF) (p : NdP) (k : Nat) : Prop := UB r rd f k \/ NdM rn p k
def NY (f : UnF) (p : NdP) (k : Nat) : Prop := UnY f.x k \/ NdF p k
def NTo (rn r rd : Nat) (f : UnF) (p : NdP) (f' : UnF) (p' : NdP) (w w' : World) : Prop := bw (NB rn r rd f p) (NB rn r rd f' p') w w' /\ ∀ k, NY f' p' k -> NY f p k \/ w.heap.size <= k
theorem NTo.af (hk : ak w w') : NTo rn r rd f p f p w w' := ⟨⟨hk.mono (fun _ h => h.elim), fun k hk => .inl hk⟩, fun k hk => .inl hk⟩
theorem ak.nto {a b c : World} (h1 : ak a b) (h2 : NTo rn r rd f p f' p' b c) : NTo rn r rd f p f' p' a c := by
 have z := h1.size
 exact ⟨⟨Ext.trans h1 h2.1.1 (fun _ h => h.elim) (fun _ h => .inl h), fun k hk => (h2.1.2 k hk).imp (fun g => g) (fun g => by omega)⟩, fun k hk => (h2.2 k hk).imp (fun g => g) (fun g => by omega)⟩
theorem pM {css : List (List Value)} {k : Nat} (h : bD (css.eraseIdx 0) k) : bD css k := by
 obtain ⟨cs, hc, hk⟩ := h
 exact ⟨cs, List.mem_of_mem_eraseIdx hc, hk⟩
theorem cW.ext {M : Nat -> Prop} (h : cW w n0 rn r rd f d s m p T) (he : Ext M w w') (h1 : ∀ k, NB rn r rd f p k -> ¬ M k) (h2 : ∀ k, NY f p k -> ¬ M k) : cW w' n0 rn r rd f d s m p T :=
 ⟨h.U.ext he (fun k hk => h1 k (.inl hk)) (fun k hk => h2 k (.inl hk)), h.N.ext he (fun k hk => h1 k (.inr hk)) (fun k hk => h2 k (.inr hk)), h.sm, h.sf, h.ge⟩
theorem cW.af (h : cW w n0 rn r rd f d s m p T) (he : ak w w') : cW w' n0 rn r rd f d s m p T := h.ext he (fun _ _ h => h) (fun _ _ h => h)
theorem cW.lt (h : cW w n0 rn r rd f d s m p T) : (∀ k, NB rn r rd f p k -> k < w.heap.size) /\ ∀ k, NY f p k -> k < w.heap.size :=
 ⟨fun k hk => hk.elim (h.U.lt.1 k) (h.N.lt.1 k), fun k hk => hk.elim (h.U.lt.2 k) (h.N.lt.2 k)⟩
theorem cW.gB (h : cW w n0 rn r rd f d s m p T) : ∀ k, NB rn r rd f p k -> n0 <= k := fun k hk => hk.elim (h.U.ge k) (h.ge k)
theorem cW.up (h : cW w n0 rn r rd f d s m p T) (hm : m <= m') : cW w n0 rn r rd f d s m' p T := ⟨h.U.up hm, h.N, h.sm, h.sf, h.ge⟩
theorem cW.next {w2 : World} (h : cW w n0 rn r rd f d s m p T) (hn0 : n0 <= w.heap.size) (hU : UAt w' n0 r rd f' d' s' m') (uf : fO r rd f f' w w') (he : Ext (NdM rn p) w' w2) (hN : lh w2 rn r p' (hZ T'))
  (hs : ∀ k, ao p'.ts k -> ao p.ts k \/ w'.heap.size <= k) (hf : ∀ k, bD p'.css k -> bD p.css k \/ w'.heap.size <= k) : cW w2 n0 rn r rd f' d' s' m' p' T' /\ NTo rn r rd f p f' p' w w2 := by
 have lt := h.lt
 have ltU := hU.lt
 have z := uf.1.1.size
 have hM : ∀ k, NdM rn p k -> ¬ UB r rd f' k /\ ¬ UnY f'.x k := fun k hk => ⟨fun hh => (uf.1.2 k hh).elim (h.sm k hk).1 (fun g => by have := lt.1 k (.inr hk); omega), fun hh => (uf.2 k hh).elim (h.sm k hk).2 (fun g => by have := lt.1 k (.inr hk); omega)⟩
 have hF : ∀ k, NdF p k -> ¬ UB r rd f' k := fun k hk hh => (uf.1.2 k hh).elim (h.sf k hk) (fun g => by have := lt.2 k (.inr hk); omega)
 have hM' : ∀ k, NdM rn p' k -> NdM rn p k \/ w'.heap.size <= k := by
  rintro k (hk | hk)
  ·exact .inl (.inl hk)
  ·exact (hs k hk).imp .inr (fun g => g)
 refine ⟨⟨hU.ext he (fun k hk hh => (hM k hh).1 hk) (fun k hk hh => (hM k hh).2 hk), hN, fun k hk => ?_, fun k hk hh => ?_, fun k hk => ?_⟩, ⟨?_, fun k hk => ?_⟩, fun k hk => ?_⟩
 ·rcases hM' k hk with g | g
  ·exact hM k g
  ·exact ⟨fun hh => by have := ltU.1 k hh; omega, fun hh => by have := ltU.2 k hh; omega⟩
 ·rcases hf k hk with g | g
  ·exact hF k g hh
  ·have := ltU.1 k hh; omega
 ·rcases hM' k hk with g | g
  ·exact h.ge k g
  ·omega
 ·exact (uf.1.1.mono (fun k hk => Or.inl hk)).trans he (fun _ h => h) (fun k hk => .inl (.inr hk))
 ·rcases hk with hk | hk
  ·exact (uf.1.2 k hk).imp .inl (fun g => g)
  ·rcases hM' k hk with g | g
   ·exact .inl (.inr g)
   ·exact .inr (by omega)
 ·rcases hk with hk | hk
  ·exact (uf.2 k hk).imp .inl (fun g => g)
  ·rcases hf k hk with g | g
   ·exact .inl (.inr g)
   ·exact .inr (by omega)
end
end Go.D
namespace Go.D
open Go Go.Proofs
theorem vh.CS {A : Nat -> Addr} {w w' : World} {q p : List Value} {is : Bool} {ev : Value} {R : Except Nat Msg} (h : vh A w w' q p is ev R) :
    ∃ (t k e a : Int) (sq : Slc) (t2 e2 n2 : Int) (sp : Slc), q = lg t k e a sq /\ p = cP t2 e2 n2 sp /\ isI ev /\
      ((isNilI ev = true /\ is = true /\ ∃ d, R = .ok (.ask t k e a d) /\ ag w' sq d /\ sq.l <= sq.c /\ aF w sq) \/
       (isNilI ev = true /\ is = false /\ ∃ d, R = .ok (.tell t2 e2 n2 d) /\ ag w' sp d /\ sp.l <= sp.c /\ aF w sp) \/
       (isNilI ev = false /\ ∃ j, R = .error j)) := by
  cases R with
  | error j =>
    obtain ⟨rfl, rfl, rfl, rfl⟩ := h
    exact ⟨0, 0, 0, 0, ⟨none, 0, 0⟩, 0, 0, 0, ⟨none, 0, 0⟩, rfl, rfl, trivial, .inr (.inr ⟨rfl, j, rfl⟩)⟩
  | ok x =>
    cases x with
    | ask t k e a d =>
      obtain ⟨s, rfl, h1, h2, h3, rfl, rfl, rfl⟩ := h
      exact ⟨t, k, e, a, s, 0, 0, 0, ⟨none, 0, 0⟩, rfl, rfl, trivial, .inl ⟨rfl, rfl, d, rfl, h1, h2, h3⟩⟩
    | tell t e n d =>
      obtain ⟨s, rfl, h1, h2, h3, rfl, rfl, rfl⟩ := h
      exact ⟨0, 0, 0, 0, ⟨none, 0, 0⟩, t, e, n, s, rfl, rfl, trivial, .inr (.inl ⟨rfl, rfl, d, rfl, h1, h2, h3⟩)⟩
theorem pN {b : List UInt8} {t k e a : Int} {d : List UInt8} (h : readR b = .ok (.ask t k e a d)) : dR t k e a d.length := by
 unfold readR at h
 split at h
 ·cases h
 ·split at h
  ·cases h
  ·dsimp only at h
   split at h
   ·split at h
    ·cases h
    ·cases h
   ·split at h
    ·cases h
    ·split at h
     ·rename_i hh
      injection h with h; injection h with h1 h2 h3 h4 h5
      rw [<- h1, <- h2, <- h3, <- h4, <- h5]; exact hh.2
     ·cases h
theorem bm.up {A : Nat -> Addr} {n0 n1 : Nat} {w : World} (h : bm A n0 w) (hn : n0 <= n1) : bm A n1 w := ⟨h.1, fun g hg => by have := h.2 g hg; omega⟩
def uM : Option NdE -> List UInt8
 | none => []
 | some x => x.msg
theorem CT {x : NdE} (h : jn x.t (eN x.e) x.n x.d.length) : x.msg.length <= 2 ^ 20 := by
 unfold NdE.msg
 rw [bW]
 have := tg h
 omega
def CU (rn r4 r19 rr : Nat) (w83 : World) (K : Value -> World -> Prop) : Prop :=
 ∃ n90 : Int, ∃ n91 : Int, ∃ n92 : Int, ∃ s93 : Slc, rowAt w83 (⟨rr, 0, none⟩ : Addr) 0 [(Value.int .i64 n90), (Value.int .i64 n91), (Value.int .i64 n92), (Slc.v s93)] /\
 Calls Tryz.prog iy ⟨[(Value.agg ⟨[(Value.int .i64 n90), (Value.int .i64 n91), (Value.int .i64 n92), (Slc.v s93)]⟩)]⟩ w83 fun e94 w95 =>
 ∃ s96 : Slc, ∃ e97 : Value, e94 = .returned (Value.tuple ⟨[(Slc.v s96), e97]⟩) /\
 isI e97 /\
 BIf (!isNilI e97) (
  K (Value.tuple ⟨[(Slc.v (⟨none, 0, 0⟩ : Slc)), (Value.bool false)]⟩) w95) (
  needSome (some (⟨rn, 0, none⟩ : Addr)) fun a98 =>
  ∃ s99 : Slc, World.cell? (World.drew w95) (a98.add 1) = some (Slc.v s99) /\
  ∃ n100 : Int, World.cell? (World.drew w95) (⟨r4, 0, none⟩ : Addr) = some (Value.int .i64 n100) /\
  ∃ n101 : Int, World.cell? (World.drew w95) (⟨r19, 0, none⟩ : Addr) = some (Value.int .i64 n101) /\
  aC (World.drew w95) (.cells ⟨[(Value.int .i64 n100), (Value.int .i64 n101), (Slc.v s96)]⟩ ni) fun r102 w103 =>
  (∃ s104 : Slc, World.cell? w103 (a98.add 1) = some (Slc.v s104) /\
  (Slc.v s104) = (Slc.v s99)) /\
  aj 3 ni [(Value.int .i64 (0 : Int)), (Value.int .i64 (0 : Int)), (Slc.v (⟨none, 0, 0⟩ : Slc))] w103 s99 (.slc (⟨(some (⟨r102, 0, none⟩ : Addr)), 1, 1⟩ : Slc)) fun s105 w106 =>
  needSome (some (⟨rn, 0, none⟩ : Addr)) fun a107 =>
  ar w106 (a107.add 1) 1 /\ ∀ w108 : World, w108 = World.setCell w106 (a107.add 1) (Slc.v s105) ->
  needSome (some (⟨rn, 0, none⟩ : Addr)) fun a109 =>
  ∃ s110 : Slc, World.cell? w108 (a109.add 1) = some (Slc.v s110) /\
  BIf (decide ((32 : Int) < ((s110.l : Nat) : Int))) (
   needSome (some (⟨rn, 0, none⟩ : Addr)) fun a111 =>
   ∃ s112 : Slc, World.cell? w108 (a111.add 1) = some (Slc.v s112) /\
   Calls Tryz.prog cD ⟨[(Slc.v s112), (Value.int .i64 (0 : Int)), (Value.int .i64 (1 : Int))]⟩ w108 fun e113 w114 =>
   ∃ s115 : Slc, e113 = .returned (Slc.v s115) /\
   needSome (some (⟨rn, 0, none⟩ : Addr)) fun a116 =>
   ar w114 (a116.add 1) 1 /\ ∀ w117 : World, w117 = World.setCell w114 (a116.add 1) (Slc.v s115) ->
   Calls Tryz.prog az ⟨[(Slc.v s96)]⟩ w117 fun e118 w119 =>
   ∃ s120 : Slc, e118 = .returned (Slc.v s120) /\
   K (Value.tuple ⟨[(Slc.v s120), (Value.bool true)]⟩) w119) (
   Calls Tryz.prog az ⟨[(Slc.v s96)]⟩ w108 fun e121 w122 =>
   ∃ s123 : Slc, e121 = .returned (Slc.v s123) /\
   K (Value.tuple ⟨[(Slc.v s123), (Value.bool true)]⟩) w122))
section
variable {w46 w67 : World} {n0 rn r rd m m' : Nat} {f f' : UnF} {d d' : aU} {s s2 : UnS} {p : NdP} {T : List NdE}
theorem xc (A : Nat -> Addr) (h46 : cW w46 n0 rn r rd f d s m p T) (hn0 : n0 <= w46.heap.size) (hE61 : bm A n0 w67) (hU' : UAt w67 n0 r rd f' d' s2 m') (uf : fO r rd f f' w46 w67) (fr t : Int) (ce : Option Nat) (cn : Int) (cd : List UInt8) (hrp : jn t (eN ce) cn cd.length) (hlen : (hZ T).length <= 32)
  (rr r4 r19 : Nat) (w83 : World) (u2 : Slc) (k83 : ak w67 w83) (o83 : aq w83 rr (cP t (eN ce) cn u2)) (hb83 : ag w83 u2 cd) (o4u : aq w67 r4 [.int .i64 fr]) {kd ep a : Int} {sq : Slc} (o19u : aq w67 r19 (lg t kd ep a sq)) {K : Value -> World -> Prop}
  (hK : ∀ (u : Slc) (w' : World) (p' : NdP), ag w' u (NdE.msg ⟨fr, t, ce, cn, cd⟩) -> aF w67 u -> u.l <= u.c -> cW w' n0 rn r rd f' d' s2 m' p' (T ++ [⟨fr, t, ce, cn, cd⟩]) -> NTo rn r rd f p f' p' w46 w' -> (∀ j, ao u j -> ¬ NB rn r rd f' p' j) -> K (.tuple ⟨[u.v, .bool true]⟩) w') :
  CU rn r4 r19 rr w83 K := by
 unfold CU
 have N67 : lh w67 rn r p (hZ T) := h46.N.ext uf.1.1 (fun k hk hh => (h46.sm k hk).1 hh) (fun k hk hh => h46.sf k hk hh)
 have z61 := uf.1.1.size
 have hE83 := hE61.af k83
 have z83 := k83.size
 refine ⟨_, _, _, _, o83.row, (DH A t (eN ce) cn u2 cd w83 hb83 (hE83.up (by omega))).mono ?_⟩
 rintro e w95 ⟨fu, ev2, rfl, k95, hc95⟩
 rcases hc95 with ⟨_, rfl, ho, hf⟩ | ⟨hno2, _⟩
 rotate_left
 ·exact absurd hrp hno2
 have kd95 := k95.trans (Ext.drew fb w95)
 have kk95 := k83.trans kd95
 have N95 := N67.af kk95
 have ho95 := ho.af (Ext.drew fb w95)
 have z95 := kk95.size
 refine ⟨fu, _, rfl, trivial, av (fun hh => by cases hh) (fun _ => aa rfl ⟨_, N95.c1, _, (o4u.af kk95).cell 0 (by simp), _, (o19u.af kk95).cell 0 (by simp), au (fun r102 w103 hr102 hb102 k102 hs102 => ⟨⟨_, (N95.af k102).c1, rfl⟩, ?_⟩)⟩)⟩
 have N103 := N95.af k102
 have ho103 := ho95.af k102
 have l103 := N103.lt
 have z103 := k102.size
 have lfu := gq ho103
 have lrn : rn < w67.heap.size := N67.o.lt
 have lts : ∀ k, ao p.ts k -> k < w67.heap.size := fun k hk => N67.lt.1 k (.inr hk)
 have hml : (NdE.msg ⟨fr, t, ce, cn, cd⟩).length <= 2 ^ 20 := CT (x := ⟨fr, t, ce, cn, cd⟩) hrp
 have hx : NdR.R w103 ⟨fr, t, ce, cn, cd⟩ (ndC fr t fu) := ⟨fu, rfl, ho103.bytes, hml⟩
 refine N103.t.snoc (x := ⟨fr, t, ce, cn, cd⟩) (cs := ndC fr t fu) rfl hx (fun k hk hh => ?_) hb102 (.inl (by simp)) (by omega) (fun s105 w106 R106 x106 n106 => aa rfl ?_)
 ·have := hf k (zw hk).2; have := lts k hh; omega
 have o106 := N103.o.ext x106 N103.dn
 rw [add_lit]
 obtain ⟨c1, c2⟩ := o106.aM 1 (by simp) s105.v
 refine ⟨c1, fun w108 hw108 => aa rfl ?_⟩
 obtain ⟨o108, e108, z108⟩ := c2 w108 hw108
 have ownN : ∀ k, ao s105 k -> ao p.ts k \/ w67.heap.size <= k := fun k hk => (n106 k hk).imp (fun g => g) (fun g => by omega)
 have footN : ∀ k, bD (p.css ++ [ndC fr t fu]) k -> bD p.css k \/ w67.heap.size <= k := by
  rintro k ⟨cs, hcs, hk⟩
  rcases List.mem_append.1 hcs with g | g
  ·exact .inl ⟨cs, g, hk⟩
  ·rw [List.mem_singleton] at g; subst g
   exact .inr (by have := hf k (zw hk).2; omega)
 have dn5 : ¬ ao s105 rn := fun hh => (n106 _ hh).elim N67.dn (fun g => by omega)
 have df5 : ∀ k, bD (p.css ++ [ndC fr t fu]) k -> k ≠ rn := fun k hk => (footN k hk).elim (N67.df k) (fun g => by omega)
 have R108 := R106.ext e108 (fun k hk hh => dn5 (hh ▸ hk)) (fun k hk hh => df5 k hk hh)
 have hsl := R108.sl
 have hcl := R108.len
 rw [List.length_append, List.length_singleton] at hsl
 have fu106 : ag w106 fu (NdE.msg ⟨fr, t, ce, cn, cd⟩) := aD ho103.bytes x106 (fun k hk hh => by have := hf k hk; have := lts k hh; omega)
 have fu108 := aD fu106 e108 (fun k hk hh => by have := hf k hk; omega)
 have X108 : Ext (NdM rn p) w67 w108 := (((kk95.trans k102).mono (fun _ h => h.elim)).trans x106 (fun _ h => h) (fun k hk => .inl (.inr hk))).trans e108 (fun _ h => h) (fun k hk => .inl (.inl hk))
 refine ⟨_, by rw [add_lit]; exact o108.cell 1 (by simp), ae (fun h32 => aa rfl ⟨_, by rw [add_lit]; exact o108.cell 1 (by simp), (ua R108 (by rw [List.length_append, List.length_singleton]; omega) (by rw [List.length_append, List.length_singleton]; omega)).mono ?_⟩) (fun h32 => ?_)⟩
 ·rintro e w114 ⟨rfl, R114, x114⟩
  refine ⟨_, rfl, aa rfl ?_⟩
  rw [add_lit]
  obtain ⟨c1, c2⟩ := (o108.ext x114 dn5).aM 1 (by simp) (⟨s105.p, s105.l - 1, s105.c⟩ : Slc).v
  refine ⟨c1, fun w117 hw117 => ?_⟩
  obtain ⟨o117, e117, z117⟩ := c2 w117 hw117
  have fu117 := aD (aD fu108 x114 (fun k hk hh => (n106 k hh).elim (fun g => by have := hf k hk; have := lts k g; omega) (fun g => by have := lfu k hk; omega))) e117 (fun k hk hh => by have := hf k hk; omega)
  have X117 : Ext (NdM rn p) w67 w117 := (X108.trans x114 (fun _ h => h) (fun k hk => (ownN k hk).imp .inr (fun g => g))).trans e117 (fun _ h => h) (fun k hk => .inl (.inl hk))
  have R117 := R114.ext e117 (fun k hk hh => dn5 (hh ▸ hk)) (fun k hk hh => df5 k (pM hk) hh)
  have ful : fu.l = (NdE.msg ⟨fr, t, ce, cn, cd⟩).length := fu117.1
  refine (cj fu _ w117 fu117 (by omega)).mono ?_
  rintro e w119 ⟨s120, rfl, ho120, hf120, k119⟩
  have hN : lh w119 rn r ⟨⟨s105.p, s105.l - 1, s105.c⟩, (p.css ++ [ndC fr t fu]).eraseIdx 0⟩ (hZ (T ++ [⟨fr, t, ce, cn, cd⟩])) := by
   rw [yA, if_pos (by rw [List.length_append, List.length_singleton]; omega)]
   exact ⟨o117.af k119, R117.af k119, dn5, fun k hk => df5 k (pM hk)⟩
  obtain ⟨g1, g2⟩ := h46.next (by omega) hU' uf (X117.trans k119 (fun _ h => h) (fun _ h => h.elim)) hN ownN (fun k hk => footN k (pM hk))
  exact ⟨s120, rfl, hK s120 _ _ ho120.bytes (hf120.mono (by have := X117.size; omega)) (ho120.le (by omega)) g1 g2 (fun j hj hh => by
    have q1 := hf120 j hj
    have q2 := X117.size
    rcases hh with hh | rfl | hh
    ·have := hU'.lt.1 j hh; omega
    ·omega
    ·have : j < w117.heap.size := R117.lt j hh
     omega)⟩
 ·have ful : fu.l = (NdE.msg ⟨fr, t, ce, cn, cd⟩).length := fu108.1
  refine (cj fu _ w108 fu108 (by omega)).mono ?_
  rintro e w119 ⟨s120, rfl, ho120, hf120, k119⟩
  have hN : lh w119 rn r ⟨s105, p.css ++ [ndC fr t fu]⟩ (hZ (T ++ [⟨fr, t, ce, cn, cd⟩])) := by
   rw [yA, if_neg (by rw [List.length_append, List.length_singleton]; omega)]
   exact ⟨o108.af k119, R108.af k119, dn5, df5⟩
  obtain ⟨g1, g2⟩ := h46.next (by omega) hU' uf (X108.trans k119 (fun _ h => h) (fun _ h => h.elim)) hN ownN footN
  exact ⟨s120, rfl, hK s120 _ _ ho120.bytes (hf120.mono (by have := X108.size; omega)) (ho120.le (by omega)) g1 g2 (fun j hj hh => by
    have q1 := hf120 j hj
    have q2 := X108.size
    rcases hh with hh | rfl | hh
    ·have := hU'.lt.1 j hh; omega
    ·omega
    ·have : j < w108.heap.size := R108.lt j hh
     omega)⟩
end
section
variable {w w' : World} {n0 rn r rd m m' : Nat} {f f' : UnF} {d d' : aU} {s s' : UnS} {p p' : NdP} {T T' : List NdE}
theorem pO (A : Nat -> Addr) (h : cW w n0 rn r rd f d s m p T) (hE : bm A n0 w) (hn0 : n0 <= w.heap.size) (hm : m <= 2 ^ 58) (hst : d.stops = false) (fr : Int) (sl : Slc) (b : List UInt8) (hb : ag w sl b) (hl : sl.l <= 2 ^ 20) (hc : sl.l <= sl.c) :
  Calls Tryz.prog dh ⟨[aw rn, .int .i64 fr, sl.v]⟩ w fun e w' => ∃ (u : Slc), e = .returned (.tuple ⟨[u.v, .bool (ndStep (d.n / 64) s T fr b).1.isSome]⟩) /\ ag w' u (uM (ndStep (d.n / 64) s T fr b).1) /\ aF w u /\ u.l <= u.c /\
   ∃ f' d' p', cW w' n0 rn r rd f' d' (ndStep (d.n / 64) s T fr b).2.1 (m + 1) p' (ndStep (d.n / 64) s T fr b).2.2 /\ d'.n = d.n /\ d'.stops = false /\ NTo rn r rd f p f' p' w w' /\ ∀ j, ao u j -> ¬ NB rn r rd f' p' j := by
 refine ql _ _ _ ?_
 unfold mF
 refine au (fun r4 w5 hr4 hb4 k4 hs4 => ?_)
 have z5 := k4.size
 refine (uL A sl b w5 (ai hb k4) hl hc ((hE.af k4).up (by omega))).mono ?_
 rintro e w7 ⟨q, pp, is, ev, rfl, hres, k7⟩
 obtain ⟨t, kd, ep, a, sq, t2, e2, n2, sp, rfl, rfl, hev, hcase⟩ := hres.CS
 refine ⟨_, _, _, _, _, _, _, _, _, _, _, rfl, ?_⟩
 refine au (fun r19 w20 hr19 hb19 k19 hs19 => au (fun r21 w22 hr21 hb21 k21 hs21 => ?_))
 obtain ⟨a1, a2⟩ := ((aq.cJ hb19).af k21).cQ (n := 5) (cs := lg t kd ep a sq) rfl rfl
 refine ⟨a1, fun w23 hw23 => ?_⟩
 obtain ⟨o19, e19, z23⟩ := a2 w23 hw23
 obtain ⟨b1, b2⟩ := ((aq.cJ hb21).ext e19 (by omega)).cQ (n := 4) (cs := cP t2 e2 n2 sp) rfl rfl
 refine ⟨b1, fun w24 hw24 => ?_⟩
 obtain ⟨o21, e21, z24⟩ := b2 w24 hw24
 have z7 := k7.size
 have z20 := k19.size
 have z22 := k21.size
 have k22 : ak w7 w22 := k19.trans k21
 have k24' : ak w7 w24 := (k22.ext e19 (fun j hj => by omega)).ext e21 (fun j hj => by omega)
 have k24 : ak w w24 := (k4.trans k7).trans k24'
 have o4 : aq w24 r4 [.int .i64 fr] := ((aq.cJ hb4).af k7).af k24'
 have o19' := o19.ext e21 (by omega)
 have h24 := h.af k24
 have nilB : ∀ w2, ag w2 (⟨none, 0, 0⟩ : Slc) [] := fun w2 => ⟨rfl, .inl rfl⟩
 have no : (ndStep (d.n / 64) s T fr b) = (none, s, T) -> ∃ (u : Slc), Ending.returned (Value.tuple ⟨[(⟨none, 0, 0⟩ : Slc).v, .bool false]⟩) = .returned (.tuple ⟨[u.v, .bool (ndStep (d.n / 64) s T fr b).1.isSome]⟩) /\ ag w24 u (uM (ndStep (d.n / 64) s T fr b).1) /\ aF w u /\ u.l <= u.c /\
   ∃ f' d' p', cW w24 n0 rn r rd f' d' (ndStep (d.n / 64) s T fr b).2.1 (m + 1) p' (ndStep (d.n / 64) s T fr b).2.2 /\ d'.n = d.n /\ d'.stops = false /\ NTo rn r rd f p f' p' w w24 /\ ∀ j, ao u j -> ¬ NB rn r rd f' p' j := fun he => by
  rw [he]
  exact ⟨⟨none, 0, 0⟩, rfl, nilB _, aF.nil _ _ _, Nat.le_refl _, f, d, p, h24.up (by omega), rfl, hst, NTo.af k24, fun j hj => absurd hj (by rintro ⟨x, hx, _⟩; cases hx)⟩
 rcases hcase with ⟨hnil, rfl, db, hR, hbq, hcq, hfq⟩ | ⟨hnil, rfl, db, hR, _⟩ | ⟨hnil, j, hR⟩
 rotate_left
 ·refine ⟨fun _ => False, ⟨hev, av (fun hh => by rw [hnil] at hh; cases hh) (fun _ => av (fun _ => no (by unfold ndStep; rw [hR])) (fun hh => by cases hh))⟩, fun _ hh => hh.elim⟩
 ·refine ⟨fun _ => False, ⟨hev, av (fun _ => no (by unfold ndStep; rw [hR])) (fun hh => by rw [hnil] at hh; cases hh)⟩, fun _ hh => hh.elim⟩
 have hright := pN hR
 have hlen : (hZ T).length <= 32 := by rw [mU]; omega
 refine ⟨fun w2 => w2 = w24, ⟨hev, av (fun hh => by rw [hnil] at hh; cases hh) (fun _ => av (fun hh => by cases hh) (fun _ => aa rfl ⟨_, h24.N.c2, av (fun hh => by cases hh) (fun _ => rfl)⟩))⟩, ?_⟩
 rintro w28 rfl
 intros
 refine aa rfl ⟨_, h24.N.c1, (qm h24.N fr t r4 r19 (o4.cell 0 (by simp)) (o19'.cell 0 (by simp)) (by omega)).mono ?_⟩
 rintro e w46 ⟨i, rfl, hfound, k46⟩
 have h46 := h24.af k46
 have kk46 := k24.trans k46
 rcases hfound with ⟨k, hk, rfl, hp, hno⟩ | ⟨rfl, hno⟩
 ·have hstep : ndStep (d.n / 64) s T fr b = (some (hZ T)[k], s, T) := by
   unfold ndStep; rw [hR]; dsimp only; rw [xa hk hp (fun j hj hjk => hno j hj hjk)]
  rw [hstep]
  obtain ⟨a, su, ha, hrow, hbu, hbl⟩ := h46.N.get hk
  have hsl := h46.N.t.sl
  have hbul := hbu.1
  refine ⟨_, rfl, ae (fun _ => aa rfl ⟨_, h46.N.c1, aa ha ⟨by omega, by omega, su, ?_, (cj su _ w46 hbu (by omega)).mono ?_⟩⟩) (fun hh => absurd (by omega) hh)⟩
  ·rw [show Int.toNat (k : Int) * 3 = k * 3 by omega]
   exact gl hrow 2 (by simp [ndC])
  rintro e w53 ⟨u, rfl, ho, hf, k53⟩
  exact ⟨u, rfl, u, rfl, ho.bytes, hf.mono (by have := kk46.size; omega), ho.le (by omega), f, d, p, (h46.af k53).up (by omega), rfl, hst, NTo.af (kk46.trans k53), fun j hj hh => by have := hf j hj; have := h46.lt.1 j hh; omega⟩
 -- a new request
 have hfnone : th fr t T = none := xb (fun j hj => hno j hj)
 have hstep : ndStep (d.n / 64) s T fr b = (some ⟨fr, t, (bB (d.n / 64) s kd ep a db).1.1, (bB (d.n / 64) s kd ep a db).1.2.1, (bB (d.n / 64) s kd ep a db).1.2.2⟩, (bB (d.n / 64) s kd ep a db).2, T ++ [⟨fr, t, (bB (d.n / 64) s kd ep a db).1.1, (bB (d.n / 64) s kd ep a db).1.2.1, (bB (d.n / 64) s kd ep a db).1.2.2⟩]) := by
  unfold ndStep; rw [hR]; dsimp only; rw [hfnone]
 rw [hstep]
 have o19k := o19'.af k46
 have o4k := o4.af k46
 have hbq46 : ag w46 sq db := ai hbq (k24'.trans k46)
 have ltB := h46.lt
 have ltB0 := h.lt
 have hE46 := hE.af kk46
 have z46 := kk46.size
 have z24 := k24.size
 have z246 := k46.size
 have l4 : r4 = w.heap.size := hr4
 refine ⟨_, rfl, ae (fun hh => absurd hh (by omega)) (fun _ => ⟨_, _, _, _, _, o19k.row, ?_⟩)⟩
 refine (Bj A h46.U hE46 (by omega) hm hst h46.N.o t kd ep a sq db hbq46 (by have := hright.2.2.2.2.1; omega) (fun j hj hh => by have := hfq j hj; have := ltB0.1 j (.inl hh); omega) hright.2.1).mono ?_
 rintro e w61 ⟨n, u, rfl, hsome, hnone, f', d', hU', hn', hs', uf⟩
 have hok : G8 (bB (d.n / 64) s kd ep a db).1 := Bi h46.U.T.1 hU'.T.1
 generalize hcv : (bB (d.n / 64) s kd ep a db) = cs' at hsome hnone hU' hok ⊢
 obtain ⟨⟨ce, cn, cd⟩, s2⟩ := cs'
 dsimp only at hsome hnone hU' ⊢
 obtain ⟨hok1, hok2, hok3, hok4⟩ := hok
 dsimp only at hok1 hok2 hok3 hok4
 have hlt19 : ∀ j, ce = some j -> j < 19 := fun j hj => (hok1 j hj).1
 have hrp : jn t (eN ce) cn cd.length := ⟨hright.1, Gd hlt19, ⟨hok2, hok3⟩, hok4⟩
 have n4 : ¬ UB r rd f r4 := fun hh => by have := ltB0.1 _ (.inl hh); omega
 have n19 : ¬ UB r rd f r19 := fun hh => by have := ltB0.1 _ (.inl hh); omega
 have o4u := o4k.ext uf.1.1 n4
 have o19u := o19k.ext uf.1.1 n19
 have hE61 : bm A n0 w61 := hE46.ext uf.1.1 h46.U.ge
 have z61 := uf.1.1.size
 have ltU' := hU'.lt
 refine ⟨n, u, _, rfl, _, cl.at hE61.1 11 (by omega), (Fa A ce hlt19 11 (by omega) w61 hE61.1).mono ?_⟩
 rintro e w67 ⟨rfl, rfl⟩
 refine ⟨_, rfl, ae (fun hh => absurd rfl (hok1 11 hh).2) (fun _ => ?_)⟩
 have kd67 : ak w67 (World.drew w67) := Ext.drew _ _
 refine ⟨_, (o19u.af kd67).cell 0 (by simp), ?_⟩
 -- what is known when the reply is to be told
 have fillJ : ∀ (w79 : World) (rr : Nat), ak w67 w79 -> w67.heap.size <= rr -> aq w79 rr (cP t (eN ce) 0 ⟨none, 0, 0⟩) -> isI (cI A ce) /\ BIf (isNilI (cI A ce)) (ar w79 (⟨rr, 2, none⟩ : Addr) 1 /\ ∀ w81 : World, w81 = World.setCell w79 (⟨rr, 2, none⟩ : Addr) (.int .i64 n) -> ar w81 (⟨rr, 3, none⟩ : Addr) 1 /\ ∀ w82 : World, w82 = World.setCell w81 (⟨rr, 3, none⟩ : Addr) u.v -> ∃ u2, ak w67 w82 /\ aq w82 rr (cP t (eN ce) cn u2) /\ ag w82 u2 cd)
   (∃ u2, ak w67 w79 /\ aq w79 rr (cP t (eN ce) cn u2) /\ ag w79 u2 cd) := by
  intro w79 rr k79 hrr o79
  refine ⟨aR A ce, ?_⟩
  cases hce : ce with
  | none =>
   obtain ⟨rfl, hbu⟩ := hsome hce
   refine av (fun _ => ?_) (fun hh => by cases hh)
   obtain ⟨c1, c2⟩ := o79.aM 2 (by simp) (.int .i64 n)
   refine ⟨c1, fun w81 hw => ?_⟩
   obtain ⟨o81, e81, _⟩ := c2 w81 hw
   obtain ⟨d1, d2⟩ := o81.aM 3 (by simp) u.v
   refine ⟨d1, fun w82 hw2 => ?_⟩
   obtain ⟨o82, e82, _⟩ := d2 w82 hw2
   have k82 : ak w67 w82 := (k79.ext e81 (fun j hj => by omega)).ext e82 (fun j hj => by omega)
   subst hce
   exact ⟨u, k82, o82, ai hbu k82⟩
  | some j =>
   refine av (fun hh => by cases hh) (fun _ => ?_)
   have h00 := hnone (by rw [hce]; intro hh; cases hh)
   injection h00 with g1 g2
   subst g1 g2
   subst hce
   exact ⟨⟨none, 0, 0⟩, k79, o79, nilB _⟩
 -- the reply is told and kept
 refine ⟨?_, ?_⟩
 ·refine (yB A ce hlt19 _ (hE61.af kd67).1).mono ?_
  rintro e w73 ⟨rfl, k73⟩
  have kd73 := kd67.trans k73
  refine ⟨_, rfl, ⟨_, (o19u.af kd73).cell 0 (by simp), rfl⟩, au (fun r76 w77 hr76 hb76 k76 hs76 => ⟨⟨_, (o19u.af (kd73.trans k76)).cell 0 (by simp), rfl⟩, ?_⟩)⟩
  obtain ⟨c1, c2⟩ := (aq.cJ hb76).cQ (n := 4) (cs := cP t (eN ce) 0 ⟨none, 0, 0⟩) rfl rfl
  refine ⟨c1, fun w79 hw79 => ?_⟩
  obtain ⟨o79, e79, _⟩ := c2 w79 hw79
  have z73 := kd73.size
  have k79 : ak w67 w79 := (kd73.trans k76).ext e79 (fun j hj => by omega)
  refine ⟨fun w2 => ∃ u2, ak w67 w2 /\ aq w2 r76 (cP t (eN ce) cn u2) /\ ag w2 u2 cd, fillJ w79 r76 k79 (by omega) o79, ?_⟩
  rintro w83 ⟨u2, k83, o83, hb83⟩
  intros
  show CU rn r4 r19 r76 w83 (fun v w' => ∃ u : Slc, Ending.returned v = .returned (.tuple ⟨[u.v, .bool (some (⟨fr, t, ce, cn, cd⟩ : NdE)).isSome]⟩) /\ ag w' u (uM (some ⟨fr, t, ce, cn, cd⟩)) /\ aF w u /\ u.l <= u.c /\
   ∃ f' d' p', cW w' n0 rn r rd f' d' s2 (m + 1) p' (T ++ [⟨fr, t, ce, cn, cd⟩]) /\ d'.n = d.n /\ d'.stops = false /\ NTo rn r rd f p f' p' w w' /\ ∀ j, ao u j -> ¬ NB rn r rd f' p' j)
  exact xc A h46 (by omega) hE61 hU' uf fr t ce cn cd hrp hlen r76 r4 r19 w83 u2 k83 o83 hb83 o4u o19u (fun u w' p' g1 g2 g3 g4 g5 g6 => ⟨u, rfl, g1, g2.mono (by omega), g3, f', d', p', g4, hn', hs', ak.nto kk46 g5, g6⟩)
 ·refine au (fun r124 w125 hr124 hb124 k124 hs124 => ⟨⟨_, (o19u.af (kd67.trans k124)).cell 0 (by simp), rfl⟩, (yB A ce hlt19 _ (hE61.af (kd67.trans k124)).1).mono ?_⟩)
  rintro e w128 ⟨rfl, k128⟩
  have kd128 := (kd67.trans k124).trans k128
  obtain ⟨c1, c2⟩ := ((aq.cJ hb124).af k128).cQ (n := 4) (cs := cP t (eN ce) 0 ⟨none, 0, 0⟩) rfl rfl
  refine ⟨_, rfl, ⟨_, (o19u.af kd128).cell 0 (by simp), rfl⟩, c1, fun w131 hw131 => ?_⟩
  obtain ⟨o131, e131, _⟩ := c2 w131 hw131
  have zd67 := kd67.size
  have k131 : ak w67 w131 := kd128.ext e131 (fun j hj => by omega)
  refine ⟨fun w2 => ∃ u2, ak w67 w2 /\ aq w2 r124 (cP t (eN ce) cn u2) /\ ag w2 u2 cd, fillJ w131 r124 k131 (by omega) o131, ?_⟩
  rintro w83 ⟨u2, k83, o83, hb83⟩
  intros
  show CU rn r4 r19 r124 w83 (fun v w' => ∃ u : Slc, Ending.returned v = .returned (.tuple ⟨[u.v, .bool (some (⟨fr, t, ce, cn, cd⟩ : NdE)).isSome]⟩) /\ ag w' u (uM (some ⟨fr, t, ce, cn, cd⟩)) /\ aF w u /\ u.l <= u.c /\
   ∃ f' d' p', cW w' n0 rn r rd f' d' s2 (m + 1) p' (T ++ [⟨fr, t, ce, cn, cd⟩]) /\ d'.n = d.n /\ d'.stops = false /\ NTo rn r rd f p f' p' w w' /\ ∀ j, ao u j -> ¬ NB rn r rd f' p' j)
  exact xc A h46 (by omega) hE61 hU' uf fr t ce cn cd hrp hlen r124 r4 r19 w83 u2 k83 o83 hb83 o4u o19u (fun u w' p' g1 g2 g3 g4 g5 g6 => ⟨u, rfl, g1, g2.mono (by omega), g3, f', d', p', g4, hn', hs', ak.nto kk46 g5, g6⟩)
end
end Go.D
namespace Go.D
open Go Go.Proofs
def d8 (bs : List UInt8) (j : Nat) : Nat := (bs.getD j 0).toNat
def valB (bs : List UInt8) : Nat -> Nat
 | 0 => 0
 | k + 1 => valB bs k + (d8 bs k % 128) * 2 ^ (7 * k)
theorem G9 (bs : List UInt8) (j : Nat) : d8 bs j < 256 := (bs.getD j 0).toNat_lt
theorem zx {bs : List UInt8} {k : Nat} (h : k < bs.length) : d8 bs k = bs[k].toNat := by unfold d8; simp [List.getD, h]
theorem zy {w : World} {s : Slc} {bs : List UInt8} (hb : ag w s bs) {i : Nat} (hi : i < bs.length) : ∃ a, s.p = some a /\ w.cell? (a.add i) = some (.int .u8 (d8 bs i : Int)) := by
 obtain ⟨a, ha, hc⟩ := cM hb hi
 exact ⟨a, ha, by rw [hc, zx hi]; rfl⟩
theorem Ge (k : Nat) : 2 ^ (7 * (k + 1)) = 128 * 2 ^ (7 * k) := by rw [show 7 * (k + 1) = 7 + 7 * k by omega, Nat.pow_add]
theorem zD (bs : List UInt8) : ∀ k, valB bs k < 2 ^ (7 * k)
 | 0 => by simp [valB]
 | k + 1 => by
  have h := zD bs k
  have hd : (d8 bs k % 128) * 2 ^ (7 * k) <= 127 * 2 ^ (7 * k) := Nat.mul_le_mul_right _ (by omega)
  rw [valB, Ge]
  omega
theorem qc (bs : List UInt8) : ∀ k, k <= 8 -> k <= bs.length -> (∀ j, j < k -> 128 <= d8 bs j) -> rawR 0 0 bs = rawR k (valB bs k) (bs.drop k)
 | 0, _, _, _ => by simp [valB]
 | k + 1, h8, hl, h => by
  rw [qc bs k (by omega) (by omega) (fun j hj => h j (by omega))]
  have hkl : k < bs.length := by omega
  have hk := h k (by omega)
  rw [kP hkl, rawR, <- zx hkl, if_pos ⟨hk, by omega⟩]
  rfl
theorem CV (bs : List UInt8) (k : Nat) (h8 : k <= 8) (hc : d8 bs k < 128) : 4611686018427387903 < valB bs (k + 1) ↔ (k = 8 /\ 64 <= d8 bs k) := by
 by_cases e : k = 8
 ·subst e
  have h := zD bs 8
  have e1 : valB bs (8 + 1) = valB bs 8 + (d8 bs 8 % 128) * 2 ^ (7 * 8) := rfl
  rw [e1]
  have e2 : (2 : Nat) ^ (7 * 8) = 72057594037927936 := rfl
  rw [e2] at h ⊢
  omega
 ·have h := zD bs (k + 1)
  have h2 : 2 ^ (7 * (k + 1)) <= 2 ^ 56 := Nat.pow_le_pow_right (by omega) (by omega)
  generalize 2 ^ (7 * (k + 1)) = p at h h2
  omega
def Bk (bs : List UInt8) (k : Nat) : Prop := 128 <= d8 bs k \/ (d8 bs k = 0 /\ 0 < k) \/ (k = 8 /\ 64 <= d8 bs k)
theorem Fc (bs : List UInt8) (k : Nat) (h8 : k <= 8) (hl : k < bs.length) (h : ∀ j, j < k -> 128 <= d8 bs j) (hs : ¬ (128 <= d8 bs k /\ k < 8)) (hb : Bk bs k) : rawR 0 0 bs = .error 3 := by
 rw [qc bs k h8 (by omega) h, kP hl, rawR, <- zx hl, if_neg hs, if_pos]
 rcases hb with g | g | g
 ·exact .inl g
 ·exact .inr (.inl g)
 ·by_cases e : 128 <= d8 bs k
  ·exact .inl e
  ·exact .inr (.inr ((CV bs k h8 (by omega)).2 g))
theorem DL (bs : List UInt8) (k : Nat) (h8 : k <= 8) (hl : k < bs.length) (h : ∀ j, j < k -> 128 <= d8 bs j) (hb : ¬ Bk bs k) : rawR 0 0 bs = .ok (valB bs (k + 1), bs.drop (k + 1)) /\ valB bs (k + 1) <= 4611686018427387903 := by
 have h128 : d8 bs k < 128 := Nat.lt_of_not_le (fun g => hb (.inl g))
 have hv := CV bs k h8 h128
 refine ⟨?_, Nat.le_of_not_lt (fun g => hb (.inr (.inr (hv.1 g))))⟩
 rw [qc bs k h8 (by omega) h, kP hl, rawR, <- zx hl, if_neg (by omega), if_neg]
 ·rfl
 ·rintro (g | g | g)
  ·omega
  ·exact hb (.inr (.inl g))
  ·exact hb (.inr (.inr (hv.1 g)))
def lS (w : World) (r : Nat) (F : Nat -> Prop) (st : InS) : Prop := ∃ s : Slc, aq w r [s.v, .int .i64 (eN st.2)] /\ ag w s st.1 /\ s.l <= s.c /\ (∀ k, ao s k -> F k) /\ ¬ F r
theorem lS.ext {M F : Nat -> Prop} {w w' : World} {r : Nat} {st : InS} (h : lS w r F st) (he : Ext M w w') (h1 : ¬ M r) (h2 : ∀ k, F k -> ¬ M k) : lS w' r F st := by
 obtain ⟨s, g1, g2, g3, g4, g5⟩ := h
 exact ⟨s, g1.ext he h1, aD g2 he (fun k hk => h2 k (g4 k hk)), g3, g4, g5⟩
theorem lS.af {F : Nat -> Prop} {w w' : World} {r : Nat} {st : InS} (h : lS w r F st) (he : ak w w') : lS w' r F st := h.ext he (fun h => h) (fun _ _ h => h)
theorem uO (r : Nat) (F : Nat -> Prop) (st : InS) (most : Int) (w : World) (h : lS w r F st) (hl : st.1.length <= 2 ^ 30) :
  Calls Tryz.prog aH ⟨[.pointer (some ⟨r, 0, none⟩), .int .i64 most]⟩ w fun e w' => e = .returned (.int .i64 (rNum most st).1) /\ lS w' r F (rNum most st).2 /\ Ext (eqB r) w w' := by
 obtain ⟨bs, er⟩ := st
 refine me _ _ ?_
 unfold iZ
 have h0 := h
 obtain ⟨s, ho, hb, hc, hF, hr⟩ := h
 dsimp only at hl hb ho
 have hsl := hb.1
 refine aa rfl ⟨_, by rw [add_lit]; exact ho.cell 1 (by simp), ?_⟩
 cases er with
 | some k =>
  refine aV (fun _ => ⟨rfl, h0, Ext.refl _ _⟩) (fun hh => ?_)
  have : ((k + 1 : Nat) : Int) = 0 := hh
  omega
 | none =>
  refine aV (fun hh => absurd rfl hh) (fun _ => ?_)
  refine ⟨fun i w2 => w2 = w /\ ∃ k : Nat, i = k /\ k <= 8 /\ k <= bs.length /\ (∀ j, j < k -> 128 <= d8 bs j) /\ (k = bs.length \/ ¬ (128 <= d8 bs k /\ k < 8)), ⟨fun i w2 => w2 = w /\ ∃ k : Nat, i = k /\ k <= 8 /\ k <= bs.length /\ (∀ j, j < k -> 128 <= d8 bs j), fun i _ => ((bs.length : Int) - i).toNat, ⟨rfl, 0, rfl, by omega, by omega, fun j hj => by omega⟩, ?_⟩, ?_⟩
  ·rintro i w9 ⟨rfl, k, rfl, hk8, hkl, hge⟩
   intros
   refine aa rfl ⟨s, ho.cell 0 (by simp), ae (fun h1 => ae (fun h2 => aa rfl ⟨s, ho.cell 0 (by simp), ?_⟩) (fun h2 => ⟨rfl, k, rfl, hk8, hkl, hge, .inr (by omega)⟩)) (fun h1 => ⟨rfl, k, rfl, hk8, hkl, hge, .inl (by omega)⟩)⟩
   obtain ⟨a, ha, hcell⟩ := zy hb (i := k) (by omega)
   refine aa ha ⟨by omega, h1, _, by rw [show (Int.toNat (k : Int)) * 1 = k by omega]; exact hcell, ae (fun h3 => ⟨aA (by omega), ⟨rfl, k + 1, rfl, by omega, by omega, fun j hj => ?_⟩, by dsimp only; omega⟩) (fun h3 => ⟨rfl, k, rfl, hk8, hkl, hge, .inr (by omega)⟩)⟩
   by_cases e : j = k
   ·subst e; omega
   ·exact hge j (by omega)
  ·rintro i w40 ⟨rfl, k, rfl, hk8, hkl, hge, hstop⟩
   intros
   have fail : ∀ j : Nat, ar w40 ((⟨r, 0, none⟩ : Addr).add 1) 1 /\ ∀ w67 : World, w67 = World.setCell w40 ((⟨r, 0, none⟩ : Addr).add 1) (.int .i64 ((j + 1 : Nat) : Int)) -> lS w67 r F (bs, some j) /\ Ext (eqB r) w40 w67 := by
    intro j
    rw [add_lit]
    obtain ⟨g1, g2⟩ := ho.aM 1 (by simp) (.int .i64 ((j + 1 : Nat) : Int))
    refine ⟨g1, fun w67 hw => ?_⟩
    obtain ⟨o, e, _⟩ := g2 w67 hw
    exact ⟨⟨s, o, aD hb e (fun q hq hh => hr (by have := hF q hq; rw [show q = r from hh] at this; exact this)), hc, hF, hr⟩, e⟩
   refine aa rfl ⟨s, ho.cell 0 (by simp), ae (fun h1 => aa rfl ?_) (fun h1 => ?_)⟩
   ·have hkk : k = bs.length := by omega
    have hraw : rawR 0 0 bs = .error 1 := by
     rw [qc bs k hk8 hkl hge, hkk, List.drop_length, rawR]
    rw [sZ most hraw]
    exact ⟨(fail 1).1, fun w67 hw => ⟨rfl, (fail 1).2 w67 hw⟩⟩
   have hkl' : k < bs.length := by omega
   have hst : ¬ (128 <= d8 bs k /\ k < 8) := hstop.resolve_left (by omega)
   have bad : Bk bs k -> rNum most (bs, none) = (0, (bs, some 3)) := fun hb' => sZ most (Fc bs k hk8 hkl' hge hst hb')
   obtain ⟨a, ha, hcell0⟩ := zy hb hkl'
   have hcell : w40.cell? (a.add ((Int.toNat (k : Int)) * 1)) = some (.int .u8 (d8 bs k : Int)) := by rw [show (Int.toNat (k : Int)) * 1 = k by omega]; exact hcell0
   have hkk : ((k : Nat) : Int) < ((s.l : Nat) : Int) := by omega
   refine ⟨fun w2 => w2 = w40 /\ ¬ Bk bs k, aa rfl ⟨s, ho.cell 0 (by simp), aa ha ⟨by omega, hkk, _, hcell, ae (fun g => aa rfl ?_) (fun g => aa rfl ⟨s, ho.cell 0 (by simp), aa ha ⟨by omega, hkk, _, hcell, ae (fun g2 => ae (fun g3 => aa rfl ?_) (fun g3 => ae (fun g4 => aa rfl ⟨s, ho.cell 0 (by simp), aa ha ⟨by omega, hkk, _, hcell, ae (fun g5 => aa rfl ?_) (fun g5 => ⟨rfl, ?_⟩)⟩⟩) (fun g4 => ⟨rfl, ?_⟩))) (fun g2 => ae (fun g4 => aa rfl ⟨s, ho.cell 0 (by simp), aa ha ⟨by omega, hkk, _, hcell, ae (fun g5 => aa rfl ?_) (fun g5 => ⟨rfl, ?_⟩)⟩⟩) (fun g4 => ⟨rfl, ?_⟩))⟩⟩)⟩⟩, ?_⟩
   ·rw [bad (.inl (by omega))]
    exact ⟨(fail 3).1, fun w67 hw => ⟨rfl, (fail 3).2 w67 hw⟩⟩
   ·rw [bad (.inr (.inl (by omega)))]
    exact ⟨(fail 3).1, fun w67 hw => ⟨rfl, (fail 3).2 w67 hw⟩⟩
   ·rw [bad (.inr (.inr (by omega)))]
    exact ⟨(fail 3).1, fun w67 hw => ⟨rfl, (fail 3).2 w67 hw⟩⟩
   ·unfold Bk; omega
   ·unfold Bk; omega
   ·rw [bad (.inr (.inr (by omega)))]
    exact ⟨(fail 3).1, fun w67 hw => ⟨rfl, (fail 3).2 w67 hw⟩⟩
   ·unfold Bk; omega
   ·unfold Bk; omega
   rintro w93 ⟨rfl, hgood⟩
   intros
   obtain ⟨hraw, hV⟩ := DL bs k hk8 hkl' hge hgood
   refine ⟨fun n j w2 => w2 = w93 /\ ∃ m N : Nat, j = (m : Int) - 1 /\ n = (N : Int) /\ m <= k + 1 /\ N * 2 ^ (7 * m) + valB bs m = valB bs (k + 1), fun _ j _ => (j + 1).toNat, ⟨rfl, k + 1, 0, by omega, rfl, by omega, by omega⟩, ?_⟩
   rintro n j w138 ⟨rfl, m, N, rfl, rfl, hm, heq⟩
   intros
   refine ae (fun h2 => ?_) (fun h2 => ?_)
   ·obtain ⟨q, rfl⟩ : ∃ q, m = q + 1 := ⟨m - 1, by omega⟩
    have ej : (((q + 1 : Nat) : Int) - 1) = (q : Int) := by omega
    rw [ej]
    obtain ⟨a, ha, hcq⟩ := zy hb (i := q) (by omega)
    have hd := G9 bs q
    rw [Ge, valB] at heq
    have hN : (N * 128 + d8 bs q % 128) * 2 ^ (7 * q) + valB bs q = valB bs (k + 1) := by
     rw [<- heq, Nat.add_mul, Nat.mul_assoc]; omega
    have hpos : 0 < 2 ^ (7 * q) := Nat.pow_pos (by omega)
    have hle : N * 128 + d8 bs q % 128 <= valB bs (k + 1) := by
     have := Nat.le_mul_of_pos_right (N * 128 + d8 bs q % 128) hpos
     omega
    refine ⟨aA (by omega), aa rfl ⟨s, ho.cell 0 (by simp), aa ha ⟨by omega, by omega, _, by rw [show (Int.toNat (q : Int)) * 1 = q by omega]; exact hcq, aA (by omega), by omega, by omega, aA (by omega), aA (by omega), ⟨rfl, q, N * 128 + d8 bs q % 128, rfl, by omega, by omega, hN⟩, by dsimp only; omega⟩⟩⟩
   ·have hm0 : m = 0 := by omega
    subst hm0
    have hN : N = valB bs (k + 1) := by rw [<- heq]; simp [valB]
    subst hN
    have hrest : ag w138 (Slc.sub s 1 (Int.toNat ((k : Int) + 1)) s.l s.c) (bs.drop (k + 1)) := by
     have := bu hb (lo := k + 1) (hi := s.l) (c := s.c) (by omega) (by omega) (by omega)
     rw [show Int.toNat ((k : Int) + 1) = k + 1 by omega]
     rw [hsl, List.take_length] at this
     rw [hsl]; exact this
    have hsc : (Slc.sub s 1 (Int.toNat ((k : Int) + 1)) s.l s.c).l <= (Slc.sub s 1 (Int.toNat ((k : Int) + 1)) s.l s.c).c := by simp only [Slc.sub]; omega
    obtain ⟨c1, c2⟩ := ho.aM 0 (by simp) (Slc.sub s 1 (Int.toNat ((k : Int) + 1)) s.l s.c).v
    have nr : ∀ q, ao s q -> ¬ q = r := fun q hq hh => hr (hh ▸ hF q hq)
    refine ae (fun h3 => ?_) (fun h3 => ?_)
    ·rw [wQ hraw h3]
     refine aa rfl ⟨s, ho.cell 0 (by simp), aA (by omega), by omega, by omega, by omega, by omega, aa rfl ⟨c1, fun w163 hw => aa rfl ?_⟩⟩
     obtain ⟨o1, e1, _⟩ := c2 w163 hw
     rw [add_lit]
     obtain ⟨d1, d2⟩ := o1.aM 1 (by simp) (.int .i64 1)
     refine ⟨d1, fun w165 hw2 => ?_⟩
     obtain ⟨o2, e2, _⟩ := d2 w165 hw2
     have e12 : Ext (eqB r) w138 w165 := Ext.trans' e1 e2
     exact ⟨rfl, ⟨_, o2, aD hrest e12 (fun q hq => nr q (iP hq)), hsc, fun q hq => hF q (iP hq), hr⟩, e12⟩
    ·rw [vg hraw h3]
     refine aa rfl ⟨s, ho.cell 0 (by simp), aA (by omega), by omega, by omega, by omega, by omega, aa rfl ⟨c1, fun w163 hw => ?_⟩⟩
     obtain ⟨o1, e1, _⟩ := c2 w163 hw
     exact ⟨rfl, ⟨_, o1, aD hrest e1 (fun q hq => nr q (iP hq)), hsc, fun q hq => hF q (iP hq), hr⟩, e1⟩
theorem zE (r : Nat) (F : Nat -> Prop) (st : InS) (most : Int) (w : World) (h : lS w r F st) (hl : st.1.length <= 2 ^ 30) :
  Calls Tryz.prog bC ⟨[.pointer (some ⟨r, 0, none⟩), .int .i64 most]⟩ w fun e w' => e = .returned (ew (ik most st).1) /\ lS w' r F (ik most st).2 /\ Ext (eqB r) w w' := by
 refine ld _ _ ?_
 unfold iM
 refine (uO r F st most w h hl).mono ?_
 rintro e w4 ⟨rfl, h4, k4⟩
 have hlen := mN most st
 have hnn := uG most st
 unfold ik
 generalize hst : rNum most st = x at h4 hlen hnn ⊢
 obtain ⟨n, bs, er⟩ := x
 obtain ⟨s, ho, hb, hc, hF, hr⟩ := h4
 dsimp only at hlen hnn ho hb ⊢
 have hsl := hb.1
 have nr : ∀ q, ao s q -> ¬ q = r := fun q hq hh => hr (hh ▸ hF q hq)
 refine ⟨_, rfl, aa rfl ⟨_, by rw [add_lit]; exact ho.cell 1 (by simp), ?_⟩⟩
 cases er with
 | some j =>
  refine aV (fun _ => ⟨rfl, ⟨s, ho, hb, hc, hF, hr⟩, k4⟩) (fun hh => ?_)
  have : ((j + 1 : Nat) : Int) = 0 := hh
  omega
 | none =>
  refine aV (fun hh => absurd rfl hh) (fun _ => aa rfl ⟨s, ho.cell 0 (by simp), ae (fun h1 => aa rfl ?_) (fun h1 => aa rfl ⟨s, ho.cell 0 (by simp), by omega, by omega, by omega, by omega, ?_⟩)⟩)
  ·rw [kn (by omega), add_lit]
   obtain ⟨d1, d2⟩ := ho.aM 1 (by simp) (.int .i64 2)
   refine ⟨d1, fun w11 hw => ?_⟩
   obtain ⟨o2, e2, _⟩ := d2 w11 hw
   exact ⟨rfl, ⟨s, o2, aD hb e2 nr, hc, hF, hr⟩, Ext.trans' k4 e2⟩
  ·rw [mO (by omega)]
   have ht : ag w4 (Slc.sub s 1 0 (Int.toNat n) s.c) (bs.take n.toNat) := by
    have := bu hb (lo := 0) (hi := n.toNat) (c := s.c) (by omega) (by omega) (by omega)
    simpa using this
   have hrest : ag w4 (Slc.sub s 1 (Int.toNat n) s.l s.c) (bs.drop n.toNat) := by
    have := bu hb (lo := n.toNat) (hi := s.l) (c := s.c) (by omega) (by omega) (by omega)
    rw [hsl, List.take_length] at this
    rw [hsl]; exact this
   have hsc : (Slc.sub s 1 (Int.toNat n) s.l s.c).l <= (Slc.sub s 1 (Int.toNat n) s.l s.c).c := by simp only [Slc.sub]; omega
   obtain ⟨c1, c2⟩ := ho.aM 0 (by simp) (Slc.sub s 1 (Int.toNat n) s.l s.c).v
   refine ⟨_, ht, aa rfl ⟨s, ho.cell 0 (by simp), by omega, by omega, by omega, by omega, aa rfl ⟨c1, fun w20 hw => ?_⟩⟩⟩
   obtain ⟨o1, e1, _⟩ := c2 w20 hw
   exact ⟨rfl, ⟨_, o1, aD hrest e1 (fun q hq => nr q (iP hq)), hsc, fun q hq => hF q (iP hq), hr⟩, Ext.trans' k4 e1⟩
theorem uP (r : Nat) (F : Nat -> Prop) (st : InS) (w : World) (h : lS w r F st) :
  Calls Tryz.prog ez ⟨[.pointer (some ⟨r, 0, none⟩)]⟩ w fun e w' => e = .returned (.int .i64 (eN (mh st))) /\ w' = w := by
 refine mf _ ?_
 unfold ja
 obtain ⟨bs, er⟩ := st
 obtain ⟨s, ho, hb, hc, hF, hr⟩ := h
 dsimp only at hb ho
 have hsl := hb.1
 refine aa rfl ⟨_, by rw [add_lit]; exact ho.cell 1 (by simp), ?_⟩
 cases er with
 | some j =>
  refine ae (fun hh => ?_) (fun _ => aa rfl ⟨_, by rw [add_lit]; exact ho.cell 1 (by simp), rfl, rfl⟩)
  have : ((j + 1 : Nat) : Int) = 0 := hh
  omega
 | none =>
  refine ae (fun _ => aa rfl ⟨s, ho.cell 0 (by simp), ae (fun h1 => ?_) (fun h1 => ?_)⟩) (fun hh => absurd rfl hh)
  ·rw [mh, if_pos (by omega)]; exact ⟨rfl, rfl⟩
  ·rw [mh, if_neg (by omega)]
   exact aa rfl ⟨_, by rw [add_lit]; exact ho.cell 1 (by simp), rfl, rfl⟩
end Go.D
namespace Go.D
open Go Go.Proofs
def Ck (w w' : World) (q p : List Value) (kind e : Int) : Except Nat Msg -> Prop
 | .error k => q = Z5 /\ p = Z4 /\ kind = 0 /\ e = ((k + 1 : Nat) : Int)
 | .ok (.ask t k e' a d) => ∃ s, q = lg t k e' a s /\ ag w' s d /\ s.l <= s.c /\ aF w s /\ p = Z4 /\ kind = 1 /\ e = 0
 | .ok (.tell t e' n d) => ∃ s, p = cP t e' n s /\ ag w' s d /\ s.l <= s.c /\ aF w s /\ q = Z5 /\ kind = 2 /\ e = 0
structure RS0 (w0 w : World) (r2 r4 r6 r8 : Nat) (c6 c8 : List Value) : Prop where
 o2 : aq w r2 Z5
 o4 : aq w r4 Z4
 o6 : aq w r6 c6
 o8 : aq w r8 c8
 kp : ak w0 w
 b : w0.heap.size <= r2 /\ r2 < r4 /\ r4 < r6 /\ r6 < r8
structure RS2 (w0 w : World) (r : Nat) (F : Nat -> Prop) (r2 r4 r6 r8 : Nat) (st : InS) (c6 c8 : List Value) : Prop where
 z : RS0 w0 w r2 r4 r6 r8 c6 c8
 rin : lS w r F st
 len : st.1.length <= 2 ^ 30
 br : r8 < r
 f : ∀ k, F k -> r8 < k /\ k < r
section
variable {w0 w w' : World} {r : Nat} {F : Nat -> Prop} {r2 r4 r6 r8 : Nat} {st st' : InS} {c6 c8 c' : List Value}
theorem RS0.af (h : RS0 w0 w r2 r4 r6 r8 c6 c8) (k : ak w w') : RS0 w0 w' r2 r4 r6 r8 c6 c8 := ⟨h.o2.af k, h.o4.af k, h.o6.af k, h.o8.af k, h.kp.trans k, h.b⟩
theorem RS2.step (h : RS2 w0 w r F r2 r4 r6 r8 st c6 c8) (he : Ext (eqB r) w w') (hi : lS w' r F st') (hl : st'.1.length <= 2 ^ 30) : RS2 w0 w' r F r2 r4 r6 r8 st' c6 c8 := by
 obtain ⟨d1, d2, d3, d4⟩ := h.z.b
 have d5 := h.br
 have ne : ∀ x, x ≠ r -> ¬ eqB r x := fun x hx hh => hx hh
 exact ⟨⟨h.z.o2.ext he (ne _ (by omega)), h.z.o4.ext he (ne _ (by omega)), h.z.o6.ext he (ne _ (by omega)), h.z.o8.ext he (ne _ (by omega)), h.z.kp.ext he (fun k hk => by rw [show k = r from hk]; omega), h.z.b⟩, hi, hl, h.br, h.f⟩
theorem RS2.af (h : RS2 w0 w r F r2 r4 r6 r8 st c6 c8) (k : ak w w') : RS2 w0 w' r F r2 r4 r6 r8 st c6 c8 := ⟨h.z.af k, h.rin.af k, h.len, h.br, h.f⟩
theorem RS2.Hu (h : RS2 w0 w r F r2 r4 r6 r8 st c6 c8) (ho : aq w' r6 c') (he : Ext (fun x => x = r6) w w') : RS2 w0 w' r F r2 r4 r6 r8 st c' c8 := by
 obtain ⟨d1, d2, d3, d4⟩ := h.z.b
 have d5 := h.br
 exact ⟨⟨h.z.o2.ext he (by omega), h.z.o4.ext he (by omega), ho, h.z.o8.ext he (by omega), h.z.kp.ext he (fun k hk => by omega), h.z.b⟩, h.rin.ext he (by omega) (fun k hk hh => by have := h.f k hk; omega), h.len, h.br, h.f⟩
theorem RS2.Hv (h : RS2 w0 w r F r2 r4 r6 r8 st c6 c8) (ho : aq w' r8 c') (he : Ext (fun x => x = r8) w w') : RS2 w0 w' r F r2 r4 r6 r8 st c6 c' := by
 obtain ⟨d1, d2, d3, d4⟩ := h.z.b
 have d5 := h.br
 exact ⟨⟨h.z.o2.ext he (by omega), h.z.o4.ext he (by omega), h.z.o6.ext he (by omega), ho, h.z.kp.ext he (fun k hk => by omega), h.z.b⟩, h.rin.ext he (by omega) (fun k hk hh => by have := h.f k hk; omega), h.len, h.br, h.f⟩
theorem RS2.Fe (h : RS2 w0 w r F r2 r4 r6 r8 st c6 c8) (k : Nat) (hk : k < c6.length) (v : Value) : ar w (⟨r6, k, none⟩ : Addr) 1 /\ ∀ w2 : World, w2 = w.setCell (⟨r6, k, none⟩ : Addr) v -> RS2 w0 w2 r F r2 r4 r6 r8 st (c6.set k v) c8 /\ Ext (fun x => x = r6) w w2 := by
 obtain ⟨g1, g2⟩ := h.z.o6.aM k hk v
 exact ⟨g1, fun w2 hw => by obtain ⟨o, e, _⟩ := g2 w2 hw; exact ⟨h.Hu o e, e⟩⟩
theorem RS2.F2 (h : RS2 w0 w r F r2 r4 r6 r8 st c6 c8) (k : Nat) (hk : k < c8.length) (v : Value) : ar w (⟨r8, k, none⟩ : Addr) 1 /\ ∀ w2 : World, w2 = w.setCell (⟨r8, k, none⟩ : Addr) v -> RS2 w0 w2 r F r2 r4 r6 r8 st c6 (c8.set k v) /\ Ext (fun x => x = r8) w w2 := by
 obtain ⟨g1, g2⟩ := h.z.o8.aM k hk v
 exact ⟨g1, fun w2 hw => by obtain ⟨o, e, _⟩ := g2 w2 hw; exact ⟨h.Hv o e, e⟩⟩
theorem RS2.Num (h : RS2 w0 w r F r2 r4 r6 r8 st c6 c8) (most : Int) :
  Calls Tryz.prog aH ⟨[.pointer (some ⟨r, 0, none⟩), .int .i64 most]⟩ w fun e w' => e = .returned (.int .i64 (rNum most st).1) /\ RS2 w0 w' r F r2 r4 r6 r8 (rNum most st).2 c6 c8 :=
 (uO r F st most w h.rin h.len).mono (by
  rintro e w' ⟨rfl, g1, g2⟩
  exact ⟨rfl, h.step g2 g1 (Nat.le_trans (mN most st) h.len)⟩)
theorem RS2.Text (h : RS2 w0 w r F r2 r4 r6 r8 st c6 c8) (most : Int) :
  Calls Tryz.prog bC ⟨[.pointer (some ⟨r, 0, none⟩), .int .i64 most]⟩ w fun e w' => e = .returned (ew (ik most st).1) /\ RS2 w0 w' r F r2 r4 r6 r8 (ik most st).2 c6 c8 :=
 (zE r F st most w h.rin h.len).mono (by
  rintro e w' ⟨rfl, g1, g2⟩
  refine ⟨rfl, h.step g2 g1 (Nat.le_trans ?_ (Nat.le_trans (mN most st) h.len))⟩
  unfold ik
  generalize rNum most st = x
  obtain ⟨n, bs, er⟩ := x
  cases er with
  | some j => exact Nat.le_refl _
  | none =>
   by_cases hh : (bs.length : Int) < n
   ·rw [kn hh]; exact Nat.le_refl _
   ·rw [mO hh]; simp)
theorem RS0.ret (h : RS0 w0 w r2 r4 r6 r8 c6 c8) {z5 z4 : List Value} (l5 : z5.length = 5) (l4 : z4.length = 4) {K : World -> Prop} (hK : ∀ w3, ak w0 w3 -> Ext (fun j => j = r2 \/ j = r4) w w3 -> aq w3 r2 z5 -> aq w3 r4 z4 -> K w3) :
  ar w (⟨r2, 0, none⟩ : Addr) 5 /\ ∀ w1 : World, w1 = setCells w (⟨r2, 0, none⟩ : Addr) 0 z5 -> aq w1 r8 c8 /\ ar w1 (⟨r4, 0, none⟩ : Addr) 4 /\ ∀ w2 : World, w2 = setCells w1 (⟨r4, 0, none⟩ : Addr) 0 z4 -> K w2 := by
 obtain ⟨d1, d2, d3, d4⟩ := h.b
 obtain ⟨a1, a2⟩ := h.o2.cQ (n := 5) rfl l5
 refine ⟨a1, fun w1 hw => ?_⟩
 obtain ⟨o, e, z⟩ := a2 w1 hw
 obtain ⟨b1, b2⟩ := (h.o4.ext e (by omega)).cQ (n := 4) rfl l4
 refine ⟨h.o8.ext e (by omega), b1, fun w2 hw2 => ?_⟩
 obtain ⟨o', e', z'⟩ := b2 w2 hw2
 exact hK w2 ((h.kp.ext e (fun k hk => by omega)).ext e' (fun k hk => by omega)) ((e.mono (fun j hj => Or.inl hj)).trans e' (fun _ h => h) (fun j hj => .inl (.inr hj))) (o.ext e' (by omega)) o'
end
theorem F3 {e : Option Nat} (h : eN e = 0) : e = none := by
 cases e with
 | none => rfl
 | some k => have : ((k + 1 : Nat) : Int) = 0 := h; omega
def yC (w0 w : World) (r : Nat) (F : Nat -> Prop) (r2 r4 r6 r8 : Nat) (st : Int × InS) : Prop :=
 if st.1 = 2 then ∃ s, ag w s (bV st.2).d /\ s.l <= s.c /\ (∀ j, ao s j -> r8 < j) /\ RS2 w0 w r F r2 r4 r6 r8 (bV st.2).st Z5 (cP (bV st.2).t (bV st.2).e (bV st.2).n s)
 else ∃ s, ag w s (bA st.2).d /\ s.l <= s.c /\ (∀ j, ao s j -> r8 < j) /\ RS2 w0 w r F r2 r4 r6 r8 (bA st.2).st (lg (bA st.2).t (bA st.2).k (bA st.2).e (bA st.2).a s) Z4
theorem xg (s : Slc) (b : List UInt8) (w : World) (hb : ag w s b) (hl : s.l <= 2 ^ 20) (hc : s.l <= s.c) :
  Calls Tryz.prog fk ⟨[s.v]⟩ w fun x w' => ∃ (q p : List Value) (kind e : Int), x = .returned (.tuple ⟨[.agg ⟨q⟩, .agg ⟨p⟩, .int .i64 kind, .int .i64 e]⟩) /\ Ck w w' q p kind e (readR b) /\ ak w w' := by
 refine nB _ ?_
 unfold j2
 refine au (fun r2 w3 hr2 hb2 k2 hs2 => au (fun r4 w5 hr4 hb4 k4 hs4 => au (fun r6 w7 hr6 hb6 k6 hs6 => au (fun r8 w9 hr8 hb8 k8 hs8 => ?_))))
 obtain ⟨a1, a2⟩ := ((aq.cJ hb6).af k8).cQ (n := 5) (cs := Z5) rfl rfl
 refine ⟨a1, fun w10 hw10 => ?_⟩
 obtain ⟨o6, e6, z6⟩ := a2 w10 hw10
 obtain ⟨b1, b2⟩ := ((aq.cJ hb8).ext e6 (by omega)).cQ (n := 4) (cs := Z4) rfl rfl
 refine ⟨b1, fun w11 hw11 => ?_⟩
 obtain ⟨o8, e8, z8⟩ := b2 w11 hw11
 have k9 := ((k2.trans k4).trans k6).trans k8
 have k11 : ak w w11 := (k9.ext e6 (fun j hj => by omega)).ext e8 (fun j hj => by omega)
 have h11 : RS0 w w11 r2 r4 r6 r8 Z5 Z4 := ⟨(((((aq.cJ hb2).af k4).af k6).af k8).ext e6 (by omega)).ext e8 (by omega), ((((aq.cJ hb4).af k6).af k8).ext e6 (by omega)).ext e8 (by omega), o6.ext e8 (by omega), o8, k11, by omega, by omega, by omega, by omega⟩
 refine (xN s b w11 (ai hb k11) hl hc).mono ?_
 rintro x w13 ⟨s14, s15, rfl, hres, k13⟩
 have h13 := h11.af k13
 refine ⟨s14, s15, _, rfl, ?_⟩
 -- an error is answered
 have bad : ∀ (w19 : World) (j : Nat) (c6 c8 : List Value), RS0 w w19 r2 r4 r6 r8 c6 c8 -> ar w19 (⟨r2, 0, none⟩ : Addr) 5 /\ ∀ w1 : World, w1 = setCells w19 (⟨r2, 0, none⟩ : Addr) 0 Z5 -> aq w1 r8 c8 /\ ar w1 (⟨r4, 0, none⟩ : Addr) 4 /\ ∀ w2 : World, w2 = setCells w1 (⟨r4, 0, none⟩ : Addr) 0 Z4 -> ak w w2 /\ aq w2 r2 Z5 /\ aq w2 r4 Z4 := fun w19 j c6 c8 h => h.ret rfl rfl (fun w3 kp _ o2 o4 => ⟨kp, o2, o4⟩)
 obtain ⟨er, her, hbad, hgood⟩ : ∃ er : Option Nat, (CR (fg b) = 0 -> (0 : Int) < ((s15.l : Nat) : Int) -> er = some 3) /\ (∀ j, er = some j -> readR b = .error j) /\ (er = none -> ∃ x, fg b = .ok (x, [])) /\ (¬ (CR (fg b) = 0 /\ (0 : Int) < ((s15.l : Nat) : Int)) -> eN er = CR (fg b)) := by
  cases ho : fg b with
  | error k =>
   rw [ho] at hres
   refine ⟨some k, fun h => ?_, fun j hj => ?_, (fun h => by cases h), fun _ => rfl⟩
   ·have : ((k + 1 : Nat) : Int) = 0 := h
    omega
   ·cases hj; unfold readR; rw [ho]
  | ok xy =>
   obtain ⟨x, y⟩ := xy
   rw [ho] at hres
   have hyl := hres.2.1.1
   by_cases hy : 0 < y.length
   ·refine ⟨some 3, fun _ _ => rfl, fun j hj => ?_, (fun h => by cases h), fun h => absurd ⟨rfl, by omega⟩ h⟩
    cases hj; unfold readR; rw [ho]; simp [hy]
   ·have : y = [] := List.eq_nil_of_length_eq_zero (by omega)
    subst this
    refine ⟨none, fun _ h => ?_, (fun j hj => by cases hj), fun _ => ⟨x, rfl⟩, fun _ => rfl⟩
    simp at hyl; omega
 refine ⟨fun e w2 => e = eN er /\ w2 = w13, ae (fun g => ae (fun g2 => ?_) (fun g2 => ?_)) (fun g => ?_), ?_⟩
 ·rw [her g g2]; exact ⟨rfl, rfl⟩
 ·exact ⟨(hgood.2 (fun h => g2 h.2)).symm, rfl⟩
 ·exact ⟨(hgood.2 (fun h => g h.1)).symm, rfl⟩
 rintro e18 w19 ⟨rfl, rfl⟩
 intros
 refine aV (fun g => ?_) (fun g => ?_)
 ·obtain ⟨j, rfl⟩ : ∃ j, er = some j := by
   cases er with
   | none => exact absurd rfl g
   | some j => exact ⟨j, rfl⟩
  rw [hbad j rfl]
  have hd := h13.af (Ext.drew fb w19)
  obtain ⟨g1, g2⟩ := bad _ j _ _ hd
  refine ⟨_, _, _, _, _, hd.o6.row, _, _, _, _, hd.o8.row, g1, fun w36 hw => ?_⟩
  obtain ⟨o8', g3, g4⟩ := g2 w36 hw
  refine ⟨⟨_, _, _, _, o8'.row, rfl⟩, g3, fun w41 hw2 => ?_⟩
  obtain ⟨kp, o2', o4'⟩ := g4 w41 hw2
  exact ⟨_, _, _, _, _, o2'.row, _, _, _, _, o4'.row, Z5, Z4, 0, _, rfl, ⟨rfl, rfl, rfl, rfl⟩, kp⟩
 have hen := F3 g
 subst hen
 obtain ⟨x, ho⟩ := hgood.1 rfl
 rw [ho] at hres
 obtain ⟨hx, _, hxf, _, hxc, hxlt⟩ := hres
 refine au (fun r51 w52 hr51 hb51 k51 hs51 => ?_)
 have z11 := k13.size
 have hz : r8 < w11.heap.size := h11.o8.lt
 have hxl : x.length <= 2 ^ 30 := by
  have e1 := hx.1
  have hxb : x.length <= b.length := by
   rw [fg] at ho
   split at ho; ·cases ho
   split at ho; ·cases ho
   split at ho; ·cases ho
   split at ho
   ·injection ho with ho'; injection ho' with h1 h2; rw [<- h1]; simp [iQ]; omega
   ·cases ho
  have := hb.1
  omega
 have S52 : RS2 w w52 r51 (ao s14) r2 r4 r6 r8 (x, none) Z5 Z4 := ⟨h13.af k51, ⟨s14, aq.cJ hb51, ai hx k51, hxc, fun _ h => h, fun hh => by have := hxlt _ hh; omega⟩, hxl, by omega, fun k hk => ⟨by have := hxf k hk; omega, by have := hxlt k hk; omega⟩⟩
 refine (S52.Num 2).mono ?_
 rintro e w54 ⟨rfl, S54⟩
 have hrd : readR b = (let st := rNum 2 (x, none); if st.1 = 2 then match mh (bV st.2).st with
   | some j => .error j
   | none => .ok (.tell (bV st.2).t (bV st.2).e (bV st.2).n (bV st.2).d)
  else match mh (bA st.2).st with
   | some j => .error j
   | none => if st.1 = 1 /\ dR (bA st.2).t (bA st.2).k (bA st.2).e (bA st.2).a (bA st.2).d.length then .ok (.ask (bA st.2).t (bA st.2).k (bA st.2).e (bA st.2).a (bA st.2).d) else .error 3) := by
  rw [readR, ho]; dsimp only; first | (rw [if_neg (by simp)]; done) | (rw [if_neg (by simp)]; rfl)
 rw [hrd]
 generalize hst : rNum 2 (x, none) = st at S54 ⊢
 dsimp only
 refine ⟨_, rfl, fun w2 => yC w w2 r51 (ao s14) r2 r4 r6 r8 st, ae (fun g2 => ?_) (fun g2 => ?_), ?_⟩
 ·refine (S54.Num 1073741824).mono ?_
  rintro e w58 ⟨rfl, S58⟩
  obtain ⟨c1, c2⟩ := S58.F2 0 (by simp) (.int .i64 (rNum 1073741824 st.2).1)
  refine ⟨_, rfl, c1, fun w60 hw => ?_⟩
  obtain ⟨S60, _⟩ := c2 w60 hw
  refine (S60.Num 19).mono ?_
  rintro e w62 ⟨rfl, S62⟩
  obtain ⟨c1, c2⟩ := S62.F2 1 (by simp) (.int .i64 (rNum 19 (rNum 1073741824 st.2).2).1)
  refine ⟨_, rfl, c1, fun w64 hw => ?_⟩
  obtain ⟨S64, _⟩ := c2 w64 hw
  refine (S64.Num 4096).mono ?_
  rintro e w66 ⟨rfl, S66⟩
  obtain ⟨c1, c2⟩ := S66.F2 2 (by simp) (.int .i64 (rNum 4096 (rNum 19 (rNum 1073741824 st.2).2).2).1)
  refine ⟨_, rfl, c1, fun w68 hw => ?_⟩
  obtain ⟨S68, _⟩ := c2 w68 hw
  refine (S68.Text 2000).mono ?_
  rintro e w70 ⟨rfl, S70⟩
  refine ⟨_, rfl, mv (fun s72 w73 hb72 hc72 hf72 k73 => ?_)⟩
  have S73 := S70.af k73
  obtain ⟨c1, c2⟩ := S73.F2 3 (by simp) s72.v
  refine ⟨c1, fun w74 hw => ?_⟩
  obtain ⟨S74, e74⟩ := c2 w74 hw
  have hlt : r8 < w70.heap.size := S70.z.o8.lt
  show yC _ _ _ _ _ _ _ _ _
  unfold yC
  rw [if_pos g2]
  exact ⟨s72, aD hb72 e74 (fun j hj hh => by have := hf72 j hj; omega), hc72, fun j hj => by have := hf72 j hj; omega, S74⟩
 ·refine (S54.Num 1073741824).mono ?_
  rintro e w58 ⟨rfl, S58⟩
  obtain ⟨c1, c2⟩ := S58.Fe 0 (by simp) (.int .i64 (rNum 1073741824 st.2).1)
  refine ⟨_, rfl, c1, fun w60 hw => ?_⟩
  obtain ⟨S60, _⟩ := c2 w60 hw
  refine (S60.Num 5).mono ?_
  rintro e w62 ⟨rfl, S62⟩
  obtain ⟨c1, c2⟩ := S62.Fe 1 (by simp) (.int .i64 (rNum 5 (rNum 1073741824 st.2).2).1)
  refine ⟨_, rfl, c1, fun w64 hw => ?_⟩
  obtain ⟨S64, _⟩ := c2 w64 hw
  refine (S64.Num 1073741824).mono ?_
  rintro e w66 ⟨rfl, S66⟩
  obtain ⟨c1, c2⟩ := S66.Fe 2 (by simp) (.int .i64 (rNum 1073741824 (rNum 5 (rNum 1073741824 st.2).2).2).1)
  refine ⟨_, rfl, c1, fun w68 hw => ?_⟩
  obtain ⟨S68, _⟩ := c2 w68 hw
  refine (S68.Num 4096).mono ?_
  rintro e w70 ⟨rfl, S70⟩
  obtain ⟨c1, c2⟩ := S70.Fe 3 (by simp) (.int .i64 (rNum 4096 (rNum 1073741824 (rNum 5 (rNum 1073741824 st.2).2).2).2).1)
  refine ⟨_, rfl, c1, fun w72 hw => ?_⟩
  obtain ⟨S72, _⟩ := c2 w72 hw
  refine (S72.Text 2000).mono ?_
  rintro e w92 ⟨rfl, S92⟩
  refine ⟨_, rfl, mv (fun s94 w95 hb94 hc94 hf94 k95 => ?_)⟩
  have S95 := S92.af k95
  obtain ⟨c1, c2⟩ := S95.Fe 4 (by simp) s94.v
  refine ⟨c1, fun w96 hw => ?_⟩
  obtain ⟨S96, e96⟩ := c2 w96 hw
  have hlt : r8 < w92.heap.size := S92.z.o8.lt
  have h68 := S92.z.b
  show yC _ _ _ _ _ _ _ _ _
  unfold yC
  rw [if_neg g2]
  exact ⟨s94, aD hb94 e96 (fun j hj hh => by have := hf94 j hj; omega), hc94, fun j hj => by have := hf94 j hj; omega, S96⟩
 ·rintro w97 hM
  intros
  unfold yC at hM
  have d := h13.b
  have nf : ∀ {t : Slc}, (∀ j, ao t j -> r8 < j) -> aF w t := fun h j hj => by have := h j hj; omega
  have nb : ∀ {t : Slc} {bb : List UInt8} {wa wb : World}, (∀ j, ao t j -> r8 < j) -> Ext (fun j => j = r2 \/ j = r4) wa wb -> ag wa t bb -> ag wb t bb := fun h e hb => aD hb e (fun j hj hh => by have := h j hj; omega)
  by_cases h2 : st.1 = 2
  ·rw [if_pos h2] at hM ⊢
   obtain ⟨t, htb, htc, htj, S⟩ := hM
   refine (uP _ _ _ _ S.rin).mono ?_
   rintro e w130 ⟨rfl, rfl⟩
   refine ⟨_, rfl, fun e w2 => e = eN (mh (bV st.2).st) /\ w2 = w130, ae (fun _ => aV (fun hh => absurd h2 hh) (fun _ => ⟨rfl, rfl⟩)) (fun _ => ⟨rfl, rfl⟩), ?_⟩
   rintro e141 w142 ⟨rfl, rfl⟩
   intros
   cases hre : mh (bV st.2).st with
   | some j =>
    refine aV (fun _ => ?_) (fun hh => by have : ((j + 1 : Nat) : Int) = 0 := hh; omega)
    obtain ⟨g1, g2⟩ := bad _ j _ _ S.z
    refine ⟨g1, fun w36 hw => ?_⟩
    obtain ⟨o8', g3, g4⟩ := g2 w36 hw
    refine ⟨g3, fun w41 hw2 => ?_⟩
    obtain ⟨kp, o2', o4'⟩ := g4 w41 hw2
    exact ⟨_, _, _, _, _, o2'.row, _, _, _, _, o4'.row, Z5, Z4, 0, _, rfl, ⟨rfl, rfl, rfl, rfl⟩, kp⟩
   | none =>
    refine aV (fun hh => absurd rfl hh) (fun _ => ?_)
    have Sd := S.af (Ext.drew fb w142)
    obtain ⟨g1, g2⟩ := Sd.z.ret (z5 := Z5) (z4 := cP (bV st.2).t (bV st.2).e (bV st.2).n t) (K := fun w3 => ak w w3 /\ aq w3 r2 Z5 /\ aq w3 r4 (cP (bV st.2).t (bV st.2).e (bV st.2).n t) /\ ag w3 t (bV st.2).d) rfl rfl (fun w3 kp e o2 o4 => ⟨kp, o2, o4, nb htj e (ai htb (Ext.drew fb w142))⟩)
    refine ⟨_, _, _, _, _, Sd.z.o6.row, _, _, _, _, Sd.z.o8.row, g1, fun w36 hw => ?_⟩
    obtain ⟨o8', g3, g4⟩ := g2 w36 hw
    refine ⟨⟨_, _, _, _, o8'.row, rfl⟩, g3, fun w41 hw2 => ?_⟩
    obtain ⟨kp, o2', o4', hbt⟩ := g4 w41 hw2
    exact ⟨_, _, _, _, _, o2'.row, _, _, _, _, o4'.row, Z5, _, _, 0, rfl, ⟨t, rfl, hbt, htc, nf htj, rfl, h2, rfl⟩, kp⟩
  ·rw [if_neg h2] at hM ⊢
   obtain ⟨t, htb, htc, htj, S⟩ := hM
   refine (uP _ _ _ _ S.rin).mono ?_
   rintro e w130 ⟨rfl, rfl⟩
   have htl := htb.1
   refine ⟨_, rfl, fun e w2 => e = eN (match mh (bA st.2).st with | some j => some j | none => if st.1 = 1 /\ dR (bA st.2).t (bA st.2).k (bA st.2).e (bA st.2).a (bA st.2).d.length then none else some 3) /\ ak w130 w2, ?_, ?_⟩
   ·cases hre : mh (bA st.2).st with
    | some j => exact ae (fun hh => by have : ((j + 1 : Nat) : Int) = 0 := hh; omega) (fun _ => ⟨rfl, Ext.refl _ _⟩)
    | none =>
     refine ae (fun _ => aV (fun _ => aV (fun g => ?_) (fun g => ⟨_, _, _, _, _, S.z.o6.row, (qC _ _ _ _ t w130).mono ?_⟩)) (fun hh => absurd hh h2)) (fun hh => absurd rfl hh)
     ·rw [if_neg (fun h => g h.1)]; exact ⟨rfl, Ext.refl _ _⟩
     ·rintro e w139 ⟨rfl, k139⟩
      rw [htl]
      refine ⟨_, rfl, aV (fun gg => ?_) (fun gg => ?_)⟩
      ·rw [if_neg (fun h => gg h.2)]; exact ⟨rfl, k139⟩
      ·rw [if_pos ⟨g, gg⟩]; exact ⟨rfl, k139⟩
   rintro e141 w142 ⟨rfl, k142⟩
   intros
   have S142 := S.af k142
   have htb142 := ai htb k142
   cases hre : mh (bA st.2).st with
   | some j =>
    refine aV (fun _ => ?_) (fun hh => by have : ((j + 1 : Nat) : Int) = 0 := hh; omega)
    obtain ⟨g1, g2⟩ := bad _ j _ _ S142.z
    refine ⟨g1, fun w36 hw => ?_⟩
    obtain ⟨o8', g3, g4⟩ := g2 w36 hw
    refine ⟨g3, fun w41 hw2 => ?_⟩
    obtain ⟨kp, o2', o4'⟩ := g4 w41 hw2
    exact ⟨_, _, _, _, _, o2'.row, _, _, _, _, o4'.row, Z5, Z4, 0, _, rfl, ⟨rfl, rfl, rfl, rfl⟩, kp⟩
   | none =>
    dsimp only
    by_cases hq : st.1 = 1 /\ dR (bA st.2).t (bA st.2).k (bA st.2).e (bA st.2).a (bA st.2).d.length
    ·rw [if_pos hq, if_pos hq]
     refine aV (fun hh => absurd rfl hh) (fun _ => ?_)
     have Sd := S142.af (Ext.drew fb w142)
     obtain ⟨g1, g2⟩ := Sd.z.ret (z5 := lg (bA st.2).t (bA st.2).k (bA st.2).e (bA st.2).a t) (z4 := Z4) (K := fun w3 => ak w w3 /\ aq w3 r2 (lg (bA st.2).t (bA st.2).k (bA st.2).e (bA st.2).a t) /\ aq w3 r4 Z4 /\ ag w3 t (bA st.2).d) rfl rfl (fun w3 kp e o2 o4 => ⟨kp, o2, o4, nb htj e (ai htb142 (Ext.drew fb w142))⟩)
     refine ⟨_, _, _, _, _, Sd.z.o6.row, _, _, _, _, Sd.z.o8.row, g1, fun w36 hw => ?_⟩
     obtain ⟨o8', g3, g4⟩ := g2 w36 hw
     refine ⟨⟨_, _, _, _, o8'.row, rfl⟩, g3, fun w41 hw2 => ?_⟩
     obtain ⟨kp, o2', o4', hbt⟩ := g4 w41 hw2
     exact ⟨_, _, _, _, _, o2'.row, _, _, _, _, o4'.row, _, Z4, _, 0, rfl, ⟨t, rfl, hbt, htc, nf htj, rfl, hq.1, rfl⟩, kp⟩
    ·rw [if_neg hq, if_neg hq]
     refine aV (fun _ => ?_) (fun hh => absurd hh (by decide))
     obtain ⟨g1, g2⟩ := bad _ 3 _ _ S142.z
     refine ⟨g1, fun w36 hw => ?_⟩
     obtain ⟨o8', g3, g4⟩ := g2 w36 hw
     refine ⟨g3, fun w41 hw2 => ?_⟩
     obtain ⟨kp, o2', o4'⟩ := g4 w41 hw2
     exact ⟨_, _, _, _, _, o2'.row, _, _, _, _, o4'.row, Z5, Z4, 0, _, rfl, ⟨rfl, rfl, rfl, rfl⟩, kp⟩
end Go.D
namespace Go.D
open Go Go.Proofs
structure Rz where
 g : aL
 n : Int
 s : Slc
 c : List (List Value)
def rzC (z : Rz) : List Value := [.int .i64 (z.g.place : Int), .int .i64 (z.g.num : Int), .int .i64 z.n, z.s.v]
theorem qe {z : Rz} {k : Nat} (h : jA (rzC z) k) : 0 < z.s.l /\ ao z.s k := by
 obtain ⟨s', hs, h1, h2⟩ := h
 have : s' = z.s := by
  obtain ⟨g, n, ⟨p, l, c⟩, c2⟩ := z
  obtain ⟨p', l', c'⟩ := s'
  simp [rzC, Slc.v] at hs
  obtain ⟨rfl, rfl, rfl⟩ := hs
  rfl
 subst this
 exact ⟨h1, h2⟩
def RzR : xA Rz where
 n := 4
 pos := by omega
 R w z cs := cs = rzC z /\ ∀ k, ao z.s k -> k < w.heap.size
 len h := by rw [h.1]; rfl
 one h := by rw [h.1]; intro v hv; simp [rzC] at hv; rcases hv with rfl | rfl | rfl | rfl <;> rfl
 ext h he _ := ⟨h.1, fun k hk => Nat.lt_of_lt_of_le (h.2 k hk) he.size⟩
 lt h := by rw [h.1]; intro k hk; exact h.2 k (qe hk).2
theorem Ff {M : Nat -> Prop} {w w' : World} {sl : Slc} {zs : List Rz} {css : List (List Value)} (h : Rows RzR w sl zs css) (he : Ext M w w') (h1 : ∀ k, ao sl k -> ¬ M k) : Rows RzR w' sl zs css :=
 ⟨h.own.ext he h1, h.len, fun i hi hi' => ⟨(h.row i hi hi').1, fun k hk => Nat.lt_of_lt_of_le ((h.row i hi hi').2 k hk) he.size⟩, h.sep⟩
abbrev gL (zs : List Rz) : List aL := zs.map (·.g)
structure gn (w : World) (r k : Nat) (sl : Slc) (zs : List Rz) : Prop where
 o : aq w r [.int .i64 (k : Int), sl.v]
 s : Rows RzR w sl zs (zs.map rzC)
 b : ∀ z ∈ zs, Rows oP w z.s z.g.bL z.c
 n : ∀ z ∈ zs, z.n = (sumN z.g.bL : Int)
 sep : zs.Pairwise fun x y => ∀ k, ao x.s k -> ¬ ao y.s k
 nr : ¬ ao sl r
 ds : ∀ z ∈ zs, ∀ k, ao z.s k -> k ≠ r /\ ¬ ao sl k
 bt : ∀ z ∈ zs, ∀ k, bD z.c k -> k ≠ r /\ ¬ ao sl k /\ ∀ y ∈ zs, ¬ ao y.s k
def RfW (r : Nat) (sl : Slc) (zs : List Rz) (k : Nat) : Prop := k = r \/ ao sl k \/ ∃ z ∈ zs, ao z.s k
def RfY (zs : List Rz) (k : Nat) : Prop := ∃ z ∈ zs, bD z.c k
section
variable {w w' : World} {r k : Nat} {sl : Slc} {zs : List Rz}
theorem gn.ext {M : Nat -> Prop} (h : gn w r k sl zs) (he : Ext M w w') (h1 : ∀ j, RfW r sl zs j -> ¬ M j) (h2 : ∀ j, RfY zs j -> ¬ M j) : gn w' r k sl zs := by
 refine ⟨h.o.ext he (h1 _ (.inl rfl)), h.s.ext he (fun j hj => h1 j (.inr (.inl hj))) (fun j hj => ?_), fun z hz => (h.b z hz).ext he (fun j hj => h1 j (.inr (.inr ⟨z, hz, hj⟩))) (fun j hj => h2 j ⟨z, hz, hj⟩), h.n, h.sep, h.nr, h.ds, h.bt⟩
 obtain ⟨cs, hc, hk⟩ := hj
 obtain ⟨z, hz, rfl⟩ := List.mem_map.1 hc
 exact h1 j (.inr (.inr ⟨z, hz, (qe hk).2⟩))
theorem gn.af (h : gn w r k sl zs) (he : ak w w') : gn w' r k sl zs := h.ext he (fun _ _ h => h) (fun _ _ h => h)
theorem gn.lt (h : gn w r k sl zs) : (∀ j, RfW r sl zs j -> j < w.heap.size) /\ ∀ j, RfY zs j -> j < w.heap.size := by
 refine ⟨?_, ?_⟩
 ·rintro j (rfl | hj | ⟨z, hz, hj⟩)
  ·exact h.o.lt
  ·exact h.s.lt j hj
  ·exact (h.b z hz).lt j hj
 ·rintro j ⟨z, hz, hj⟩
  exact (h.b z hz).flt j hj
theorem gn.c0 (h : gn w r k sl zs) : w.cell? ⟨r, 0, none⟩ = some (.int .i64 (k : Int)) := h.o.cell 0 (by simp)
theorem gn.c1 (h : gn w r k sl zs) : w.cell? ((⟨r, 0, none⟩ : Addr).add 1) = some sl.v := by rw [add_lit]; exact h.o.cell 1 (by simp)
theorem gn.at (h : gn w r k sl zs) {i : Nat} (hi : i < zs.length) : ∃ a : Addr, sl.p = some a /\ rowAt w (a.add (i * 4)) 0 (rzC zs[i]) := by
 obtain ⟨a, ha, _, hrow⟩ := h.s.get (i := i) (by simpa using hi)
 rw [List.getElem_map] at hrow
 exact ⟨a, ha, hrow⟩
theorem xh (s : Slc) (w : World) (hl : s.l <= 2 ^ 30) : Calls Tryz.prog dB ⟨[s.v]⟩ w fun e w' => e = .returned (.int .i64 (dC s.l : Int)) /\ w' = w := by
 refine nC _ ?_
 unfold j4 dC bN
 refine ⟨aA (by omega), by omega, by omega, aA (by omega), aA (by omega), ?_, rfl⟩
 congr 2
theorem xQ (h : gn w r k sl zs) (hz : zs.length <= 2 ^ 20) (hf : ∀ z ∈ zs, sumN z.g.bL <= 2 ^ 40) (s : Slc) (hl : s.l <= 2 ^ 30) :
  Calls Tryz.prog de ⟨[aw r, s.v]⟩ w fun e w' => e = .returned (.bool (jH (gL zs) s.l)) /\ ak w w' := by
 refine jS _ _ ?_
 unfold gv
 have hsl := h.s.sl
 have kd : ak w (World.drew w) := Ext.drew _ _
 refine aa rfl ⟨_, h.c1, ae (fun h0 => ?_) (fun h0 => ?_)⟩
 ·have hi : zs.length - 1 < zs.length := by omega
  obtain ⟨a, ha, hrow⟩ := (h.af kd).at hi
  have e1 : Int.toNat (((sl.l : Nat) : Int) - 1) = zs.length - 1 := by omega
  have hzn := h.n _ (List.getElem_mem hi)
  have hf1 := hf _ (List.getElem_mem hi)
  refine aa rfl ⟨_, (h.af kd).c1, aA (by omega), aa ha ⟨by omega, by omega, _, by rw [e1]; exact gl hrow 2 (by simp [rzC]), (xh s _ hl).mono ?_⟩⟩
  rintro e w10 ⟨rfl, rfl⟩
  have hnl : dC s.l <= 2 ^ 30 := by unfold dC bN; omega
  refine ⟨_, rfl, ⟨_, by rw [e1]; exact gl hrow 2 (by simp [rzC]), rfl⟩, ⟨_, (h.af kd).c1, rfl⟩, aA (by omega), ?_, kd⟩
  have e2 : jH (gL zs) s.l = decide ((zs[zs.length - 1].g).fin + dC s.l <= 64) := by
   have e3 : (gL zs).getLast? = some zs[zs.length - 1].g := by
    rw [List.getLast?_map, List.getLast?_eq_getElem?, List.getElem?_eq_getElem hi]; rfl
   unfold jH
   rw [e3]
  rw [e2]
  have e4 : decide (zs[zs.length - 1].n + (dC s.l : Int) <= 63) = decide ((zs[zs.length - 1].g).fin + dC s.l <= 64) := by
   rw [decide_eq_decide, hzn]
   unfold aL.fin; omega
  rw [<- e4]
 ·have : zs = [] := List.length_eq_zero_iff.1 (by omega)
  subst this
  exact ⟨rfl, kd⟩
theorem Bl {L : List aL} {p i : Nat} (hi : i < L.length) : eF (L.take (i + 1)) p = (eF (L.take i) p && decide (L[i].place ≠ p)) := by
 unfold eF
 rw [fx _ _ hi, List.all_append]
 simp
theorem xR (h : gn w r k sl zs) (hk : k <= 2 ^ 20) (hz : zs.length <= 2 ^ 20) (hN : ∀ z ∈ zs, z.g.num <= 2 ^ 60) :
  Calls Tryz.prog dg ⟨[aw r]⟩ w fun e w' => match gx k (gL zs) with
   | none => e = .returned (.bool false) /\ ak w w'
   | some p => e = .returned (.bool true) /\ ∃ sl', gn w' r k sl' (zs ++ [⟨⟨p, cm (gL zs), []⟩, 0, ⟨none, 0, 0⟩, []⟩]) /\ Ext (RfW r sl zs) w w' /\ ∀ j, RfW r sl' (zs ++ [⟨⟨p, cm (gL zs), []⟩, 0, ⟨none, 0, 0⟩, []⟩]) j -> RfW r sl zs j \/ w.heap.size <= j := by
 refine jR _ ?_
 unfold gu
 have hsl := h.s.sl
 refine aa rfl ⟨_, h.c0, aA (by omega), fun at_ p w2 => ∃ j : Nat, p = (j : Int) - 1 /\ j <= k /\ ak w w2 /\ (at_ = -1 /\ (∀ q, j <= q -> q < k -> eF (gL zs) q = false) \/ ∃ q0 : Nat, at_ = q0 /\ j <= q0 /\ q0 < k /\ eF (gL zs) q0 = true /\ ∀ q, j <= q -> q < q0 -> eF (gL zs) q = false), fun _ p _ => (p + 1).toNat,
  ⟨k, rfl, Nat.le_refl _, Ext.refl _ _, .inl ⟨rfl, fun q h1 h2 => by omega⟩⟩, ?_⟩
 rintro at_ p w8 ⟨j, rfl, hj, hkk, hat⟩
 intros
 have h8 := h.af hkk
 refine ae (fun h0 => ?_) (fun h0 => ?_)
 ·obtain ⟨p, rfl⟩ : ∃ p, j = p + 1 := ⟨j - 1, by omega⟩
  have ep : (((p + 1 : Nat) : Int) - 1) = (p : Int) := by omega
  rw [ep]
  refine aa rfl ⟨_, h8.c1, fun tk i w2 => ∃ n : Nat, i = n /\ n <= zs.length /\ tk = !eF ((gL zs).take n) p /\ ak w8 w2, fun _ i _ => ((zs.length : Int) - i).toNat, ⟨0, rfl, by omega, rfl, Ext.refl _ _⟩, ?_⟩
  rintro tk i w41 ⟨n, rfl, hn, rfl, hkn⟩
  intros
  refine ae (fun h1 => ?_) (fun h1 => ?_)
  ·have hnl : n < zs.length := by omega
   obtain ⟨a, ha, hrow⟩ := (h8.af hkn).at hnl
   have hnl2 : n < (gL zs).length := by simpa using hnl
   have hft := Bl (p := p) hnl2
   have hgn : (gL zs)[n] = zs[n].g := List.getElem_map _
   rw [hgn] at hft
   refine aa ha ⟨by omega, h1, _, _, _, _, by rw [Int.toNat_natCast]; exact hrow, tC (cs := rzC zs[n]) rfl rfl (fun r59 w61 hr o59 k61 hs => ?_)⟩
   refine av (fun h2 => ?_) (fun h2 => ?_)
   ·refine ⟨aA (by omega), ⟨n + 1, rfl, hnl, ?_, hkn.trans k61⟩, by dsimp only; omega⟩
    rw [hft]
    have : eF ((gL zs).take n) p = false := by simpa using h2
    rw [this]; rfl
   ·refine ⟨_, o59.cell 0 (by simp [rzC]), aA (by omega), ⟨n + 1, rfl, hnl, ?_, hkn.trans k61⟩, by dsimp only; omega⟩
    rw [hft]
    have : eF ((gL zs).take n) p = true := by simpa using h2
    rw [this, Bool.true_and]
    by_cases e : zs[n].g.place = p
    ·rw [decide_eq_true (show ((zs[n].g.place : Nat) : Int) = (p : Int) by omega), decide_eq_false (by omega)]; rfl
    ·rw [decide_eq_false (show ¬ ((zs[n].g.place : Nat) : Int) = (p : Int) by omega), decide_eq_true e]; rfl
  ·have hne : n = zs.length := by omega
   subst hne
   have ht : (gL zs).take zs.length = gL zs := List.take_of_length_le (by simp)
   rw [ht]
   refine av (fun h2 => ?_) (fun h2 => ?_)
   ·have hfr : eF (gL zs) p = true := by simpa using h2
    refine ⟨aA (by omega), ⟨p, rfl, by omega, hkk.trans hkn, .inr ⟨p, rfl, by omega, by omega, hfr, fun q h3 h4 => by omega⟩⟩, by dsimp only; omega⟩
   ·have hfr : eF (gL zs) p = false := by simpa using h2
    have stp : ∀ q, p <= q -> q ≠ p -> p + 1 <= q := fun q h1 h2 => by omega
    refine ⟨aA (by omega), ⟨p, rfl, by omega, hkk.trans hkn, ?_⟩, by dsimp only; omega⟩
    rcases hat with ⟨rfl, hno⟩ | ⟨q0, rfl, g1, g2, g3, g4⟩
    ·refine .inl ⟨rfl, fun q h3 h4 => ?_⟩
     by_cases e : q = p
     ·subst e; exact hfr
     ·exact hno q (stp q h3 e) h4
    ·refine .inr ⟨q0, rfl, by omega, g2, g3, fun q h3 h4 => ?_⟩
     by_cases e : q = p
     ·subst e; exact hfr
     ·exact g4 q (stp q h3 e) h4
 ·have hj0 : j = 0 := by omega
  subst hj0
  rcases hat with ⟨rfl, hno⟩ | ⟨q0, rfl, g1, g2, g3, g4⟩
  ·rw [wA (fun q hq => hno q (by omega) hq)]
   exact ae (fun _ => ⟨rfl, hkk⟩) (fun h1 => by omega)
  ·rw [wz g2 g3 (fun q hq => g4 q (by omega) hq)]
   refine ae (fun h1 => by omega) (fun _ => ⟨fun n w2 => n = ((cm (gL zs) : Nat) : Int) /\ w2 = w8, aa rfl ⟨_, h8.c1, ae (fun h2 => ?_) (fun h2 => ?_)⟩, ?_⟩)
   ·have hi : zs.length - 1 < zs.length := by omega
    obtain ⟨a, ha, hrow⟩ := h8.at hi
    have e1 : Int.toNat (((sl.l : Nat) : Int) - 1) = zs.length - 1 := by omega
    have hNi := hN _ (List.getElem_mem hi)
    have hnx := pV (gL zs)
    rw [mK (by simp; omega)] at hnx
    have e2 : (gL zs)[(gL zs).length - 1]'(by simp; omega) = zs[zs.length - 1].g := by simp
    rw [e2] at hnx
    exact aa rfl ⟨_, h8.c1, aA (by omega), aa ha ⟨by omega, by omega, _, by rw [e1]; exact gl hrow 1 (by simp [rzC]), aA (by omega), hnx, rfl⟩⟩
   ·have : zs = [] := List.length_eq_zero_iff.1 (by omega)
    subst this
    exact ⟨rfl, rfl⟩
   ·rintro n w71 ⟨rfl, rfl⟩
    intros
    refine aa rfl ⟨_, h8.c1, au (fun r92 w93 hr hb k93 hs => ?_)⟩
    have h93 := h8.af k93
    refine h93.s.snoc (cs := rzC ⟨⟨q0, cm (gL zs), []⟩, 0, ⟨none, 0, 0⟩, []⟩) (x := ⟨⟨q0, cm (gL zs), []⟩, 0, ⟨none, 0, 0⟩, []⟩) (z := [.int .i64 0, .int .i64 0, .int .i64 0, (⟨none, 0, 0⟩ : Slc).v]) rfl ⟨rfl, (by rintro j ⟨a, ha, _⟩; cases ha)⟩ (fun j hj => by
     obtain ⟨_, a, ha, _⟩ := qe hj
     cases ha) hb (.inl (by simp)) (by omega) (fun s' w95 g1' g2' g3' => aa rfl ?_)
    have o95 := h93.o.ext g2' h93.nr
    have hs' : ¬ ao s' r := fun hh => by
     rcases g3' r hh with h5 | h5
     ·exact h93.nr h5
     ·have := h93.o.lt; omega
    obtain ⟨c1, c2⟩ := o95.aM 1 (by simp) s'.v
    rw [add_lit]
    refine ⟨c1, fun w97 hw97 => ⟨rfl, s', ?_, ?_, ?_⟩⟩
    ·obtain ⟨o97, e97, _⟩ := c2 w97 hw97
     have hmap : zs.map rzC ++ [rzC ⟨⟨q0, cm (gL zs), []⟩, 0, ⟨none, 0, 0⟩, []⟩] = (zs ++ [(⟨⟨q0, cm (gL zs), []⟩, 0, ⟨none, 0, 0⟩, []⟩ : Rz)]).map rzC := by simp
     rw [hmap] at g1'
     have lt := h93.lt
     have old : ∀ j, j < w93.heap.size -> ¬ ao sl j -> ¬ ao s' j := fun j h1 h2 hh => (g3' j hh).elim h2 (fun h3 => by omega)
     have e2 : ∀ {j}, RfW r sl zs j -> j < w93.heap.size := fun hj => lt.1 _ hj
     refine ⟨o97, g1'.ext e97 (fun j hj hh => hs' (by rw [<- show j = r from hh]; exact hj)) (fun j hj hh => ?_), fun z hz => ?_, fun z hz => ?_, ?_, hs', fun z hz j hj => ?_, fun z hz j hj => ?_⟩
     ·obtain ⟨cs, hc, hk'⟩ := hj
      obtain ⟨z, hz, rfl⟩ := List.mem_map.1 hc
      obtain ⟨_, hk'⟩ := qe hk'
      rcases List.mem_append.1 hz with hz | hz
      ·exact (h93.ds z hz j hk').1 hh
      ·rw [List.mem_singleton] at hz; subst hz
       obtain ⟨a, ha, _⟩ := hk'; cases ha
     ·rcases List.mem_append.1 hz with hz | hz
      ·exact ((h93.b z hz).ext g2' (fun j hj hh => (h93.ds z hz j hj).2 hh) (fun j hj hh => (h93.bt z hz j hj).2.1 hh)).ext e97 (fun j hj hh => (h93.ds z hz j hj).1 hh) (fun j hj hh => (h93.bt z hz j hj).1 hh)
      ·rw [List.mem_singleton] at hz; subst hz
       exact Rows.nil _ _
     ·rcases List.mem_append.1 hz with hz | hz
      ·exact h93.n z hz
      ·rw [List.mem_singleton] at hz; subst hz; rfl
     ·refine List.pairwise_append.2 ⟨h93.sep, List.pairwise_singleton _ _, fun y hy x hx j hj hh => ?_⟩
      rw [List.mem_singleton] at hx; subst hx
      obtain ⟨a, ha, _⟩ := hh; cases ha
     ·rcases List.mem_append.1 hz with hz | hz
      ·obtain ⟨v1, v2⟩ := h93.ds z hz j hj
       exact ⟨v1, old j (e2 (.inr (.inr ⟨z, hz, hj⟩))) v2⟩
      ·rw [List.mem_singleton] at hz; subst hz
       obtain ⟨a, ha, _⟩ := hj; cases ha
     ·rcases List.mem_append.1 hz with hz | hz
      ·obtain ⟨v1, v2, v3⟩ := h93.bt z hz j hj
       refine ⟨v1, old j (lt.2 j ⟨z, hz, hj⟩) v2, fun y hy => ?_⟩
       rcases List.mem_append.1 hy with hy | hy
       ·exact v3 y hy
       ·rw [List.mem_singleton] at hy; subst hy
        rintro ⟨a, ha, _⟩; cases ha
      ·rw [List.mem_singleton] at hz; subst hz
       obtain ⟨cs, hc, _⟩ := hj; simp at hc
    ·obtain ⟨o97, e97, _⟩ := c2 w97 hw97
     exact (Ext.trans (hkk.trans k93) (g2'.mono (fun j hj => Or.inr (Or.inl hj))) (fun _ h => h.elim) (fun _ h => .inl h)).trans e97 (fun _ h => h) (fun j hj => .inl (.inl hj))
    ·have zz := (hkk.trans k93).size
     rintro j (hj | hj | ⟨z, hz, hj⟩)
     ·exact .inl (.inl hj)
     ·rcases g3' j hj with h5 | h5
      ·exact .inl (.inr (.inl h5))
      ·exact .inr (by omega)
     ·rcases List.mem_append.1 hz with hz | hz
      ·exact .inl (.inr (.inr ⟨z, hz, hj⟩))
      ·rw [List.mem_singleton] at hz; subst hz
       obtain ⟨a, ha, _⟩ := hj; cases ha
end
end Go.D
namespace Go.D
open Go Go.Proofs
theorem yD {n : Nat} : ∀ (css : List (List Value)), (∀ cs ∈ css, cs.length = n) -> ∀ i, css.flatten.take (i * n) = (css.take i).flatten
 | [], _, i => by simp
 | a :: l, h, 0 => by simp
 | a :: l, h, i + 1 => by
  have ha := h a (by simp)
  rw [List.flatten_cons, List.take_succ_cons, List.flatten_cons, show (i + 1) * n = a.length + i * n by rw [ha, Nat.add_mul]; omega, List.take_length_add_append, yD l (fun c hc => h c (by simp [hc])) i]
theorem yE {n : Nat} : ∀ (css : List (List Value)), (∀ cs ∈ css, cs.length = n) -> ∀ i, css.flatten.drop (i * n) = (css.drop i).flatten
 | [], _, i => by simp
 | a :: l, h, 0 => by simp
 | a :: l, h, i + 1 => by
  have ha := h a (by simp)
  rw [List.flatten_cons, List.drop_succ_cons, show (i + 1) * n = a.length + i * n by rw [ha, Nat.add_mul]; omega, List.drop_length_add_append, yE l (fun c hc => h c (by simp [hc])) i]
section
variable {w w' : World} {r k : Nat} {sl : Slc} {M zs : List Rz} {z z' : Rz}
theorem xi (h : Rows RzR w sl (M ++ [z]) ((M ++ [z]).map rzC)) : ∃ a : Addr, sl.p = some a /\ rowAt w (a.add (M.length * 4)) 0 (rzC z) := by
 obtain ⟨a, ha, _, hrow⟩ := h.get (i := M.length) (by simp)
 have e : ((M ++ [z]).map rzC)[M.length]'(by simp) = rzC z := by simp
 rw [e] at hrow
 exact ⟨a, ha, hrow⟩
theorem tj (h : Rows RzR w sl (M ++ [z]) ((M ++ [z]).map rzC)) {a : Addr} (ha : sl.p = some a) (j : Nat) (hj : j < 4) (v : Value) (hz : (rzC z).take j ++ [v] ++ (rzC z).drop (j + 1) = rzC z') (hlt : ∀ k, ao z'.s k -> k < w.heap.size) (hd : ∀ k, ao z'.s k -> ¬ ao sl k) :
  ar w ((a.add (M.length * 4)).add j) 1 /\ ∀ w', w' = w.setCell ((a.add (M.length * 4)).add j) v -> Rows RzR w' sl (M ++ [z']) ((M ++ [z']).map rzC) /\ Ext (ao sl) w w' /\ w'.heap.size = w.heap.size := by
 have hi : M.length < ((M ++ [z]).map rzC).length := by simp
 have e : ((M ++ [z]).map rzC)[M.length]'hi = rzC z := by simp
 obtain ⟨c1, c2⟩ := Rows.set h hi j [v] (by show j + 1 <= 4; omega) z' ha (fun w' he => ⟨by rw [e]; exact hz, fun k hk => Nat.lt_of_lt_of_le (hlt k hk) he.size⟩) (fun k hk => by
  rw [e] at hk
  have : jA (rzC z') k := by rw [<- hz]; exact hk
  exact hd k (qe this).2)
 refine ⟨c1, fun w' hw => ?_⟩
 have h0 : ((a.add (M.length * 4)).add j).add 0 = (a.add (M.length * 4)).add j := by
  generalize (a.add (M.length * 4)).add j = b
  simp [Addr.add]
 obtain ⟨g1, g2, g3⟩ := c2 w' (by rw [hw]; simp only [setCells]; rw [show (Addr.add (a.add (M.length * RzR.n)) j) = (a.add (M.length * 4)).add j from rfl, h0])
 refine ⟨?_, g2, g3⟩
 have e1 : (M ++ [z]).set M.length z' = M ++ [z'] := by simp
 have e2 : ((M ++ [z]).map rzC).set M.length (((M ++ [z]).map rzC)[M.length].take j ++ [v] ++ ((M ++ [z]).map rzC)[M.length].drop (j + [v].length)) = (M ++ [z']).map rzC := by
  rw [e]
  have : (rzC z).take j ++ [v] ++ (rzC z).drop (j + [v].length) = rzC z' := hz
  rw [this]; simp
 rw [e1, e2] at g1
 exact g1
theorem gn.last (h : gn w r k sl (M ++ [z])) (he : Ext (fun j => ao sl j \/ ao z.s j) w w') (hs : Rows RzR w' sl (M ++ [z']) ((M ++ [z']).map rzC)) (hb : Rows oP w' z'.s z'.g.bL z'.c) (hn : z'.n = (sumN z'.g.bL : Int))
  (h1 : ∀ j, ao z'.s j -> ao z.s j \/ w.heap.size <= j) (h2 : ∀ j, bD z'.c j -> bD z.c j \/ w.heap.size <= j) :
  gn w' r k sl (M ++ [z']) /\ (∀ j, RfW r sl (M ++ [z']) j -> RfW r sl (M ++ [z]) j \/ w.heap.size <= j) /\ ∀ j, RfY (M ++ [z']) j -> RfY (M ++ [z]) j \/ w.heap.size <= j := by
 have lt := h.lt
 have hz : z ∈ M ++ [z] := by simp
 have hM : ∀ y ∈ M, y ∈ M ++ [z] := fun y hy => by simp [hy]
 obtain ⟨p1, _, p3⟩ := List.pairwise_append.1 h.sep
 have ltW : ∀ {j}, RfW r sl (M ++ [z]) j -> j < w.heap.size := fun hj => lt.1 _ hj
 have dz : ∀ j, ao z'.s j -> j ≠ r /\ ¬ ao sl j := fun j hj => by
  rcases h1 j hj with g | g
  ·exact h.ds z hz j g
  ·exact ⟨fun e => by have := ltW (.inl e); omega, fun hh => by have := ltW (.inr (.inl hh)); omega⟩
 have dM : ∀ y ∈ M, ∀ j, ao y.s j -> ¬ ao z'.s j := fun y hy j hj hh => by
  rcases h1 j hh with g | g
  ·exact p3 y hy z (by simp) j hj g
  ·have := ltW (.inr (.inr ⟨y, hM y hy, hj⟩)); omega
 refine ⟨⟨h.o.ext he (fun hh => hh.elim h.nr (fun g => (h.ds z hz r g).1 rfl)), hs, fun y hy => ?_, fun y hy => ?_, ?_, h.nr, fun y hy j hj => ?_, fun y hy j hj => ?_⟩, ?_, ?_⟩
 ·rcases List.mem_append.1 hy with hy | hy
  ·refine (h.b y (hM y hy)).ext he (fun j hj hh => ?_) (fun j hj hh => ?_)
   ·exact hh.elim (h.ds y (hM y hy) j hj).2 (fun g => p3 y hy z (by simp) j hj g)
   ·obtain ⟨v1, v2, v3⟩ := h.bt y (hM y hy) j hj
    exact hh.elim v2 (v3 z hz)
  ·rw [List.mem_singleton] at hy; subst hy; exact hb
 ·rcases List.mem_append.1 hy with hy | hy
  ·exact h.n y (hM y hy)
  ·rw [List.mem_singleton] at hy; subst hy; exact hn
 ·refine List.pairwise_append.2 ⟨p1, List.pairwise_singleton _ _, fun y hy x hx j hj hh => ?_⟩
  rw [List.mem_singleton] at hx; subst hx
  exact dM y hy j hj hh
 ·rcases List.mem_append.1 hy with hy | hy
  ·exact h.ds y (hM y hy) j hj
  ·rw [List.mem_singleton] at hy; subst hy; exact dz j hj
 ·rcases List.mem_append.1 hy with hy' | hy
  ·obtain ⟨v1, v2, v3⟩ := h.bt y (hM y hy') j hj
   refine ⟨v1, v2, fun x hx => ?_⟩
   rcases List.mem_append.1 hx with hx | hx
   ·exact v3 x (hM x hx)
   ·rw [List.mem_singleton] at hx; subst hx
    intro hh
    have hjl := lt.2 j ⟨y, List.mem_append_left _ hy', hj⟩
    rcases h1 j hh with g | g
    ·exact v3 z hz g
    ·omega
  ·rw [List.mem_singleton] at hy; subst hy
   rcases h2 j hj with g | g
   ·obtain ⟨v1, v2, v3⟩ := h.bt z hz j g
    refine ⟨v1, v2, fun x hx => ?_⟩
    rcases List.mem_append.1 hx with hx | hx
    ·exact v3 x (hM x hx)
    ·rw [List.mem_singleton] at hx; subst hx
     exact hb.sep j hj
   ·refine ⟨fun e => by have := ltW (.inl e); omega, fun hh => by have := ltW (.inr (.inl hh)); omega, fun x hx => ?_⟩
    rcases List.mem_append.1 hx with hx | hx
    ·intro hh
     have := ltW (.inr (.inr ⟨x, hM x hx, hh⟩)); omega
    ·rw [List.mem_singleton] at hx; subst hx
     exact hb.sep j hj
 ·rintro j (hj | hj | ⟨y, hy, hj⟩)
  ·exact .inl (.inl hj)
  ·exact .inl (.inr (.inl hj))
  ·rcases List.mem_append.1 hy with hy | hy
   ·exact .inl (.inr (.inr ⟨y, hM y hy, hj⟩))
   ·rw [List.mem_singleton] at hy; subst hy
    rcases h1 j hj with g | g
    ·exact .inl (.inr (.inr ⟨z, hz, g⟩))
    ·exact .inr g
 ·rintro j ⟨y, hy, hj⟩
  rcases List.mem_append.1 hy with hy | hy
  ·exact .inl ⟨y, hM y hy, hj⟩
  ·rw [List.mem_singleton] at hy; subst hy
   rcases h2 j hj with g | g
   ·exact .inl ⟨z, hz, g⟩
   ·exact .inr g
def mV (r : Nat) (sl sl' : Slc) (zs zs' : List Rz) (w w' : World) : Prop := Ext (RfW r sl zs) w w' /\ (∀ j, RfW r sl' zs' j -> RfW r sl zs j \/ w.heap.size <= j) /\ ∀ j, RfY zs' j -> RfY zs j \/ w.heap.size <= j
theorem mV.trans {sl1 sl2 sl3 : Slc} {z1 z2 z3 : List Rz} {a b c : World} (h1 : mV r sl1 sl2 z1 z2 a b) (h2 : mV r sl2 sl3 z2 z3 b c) : mV r sl1 sl3 z1 z3 a c :=
 ⟨h1.1.trans h2.1 (fun _ h => h) (fun j hj => h1.2.1 j hj), fun j hj => (h2.2.1 j hj).elim (h1.2.1 j) (fun h => .inr (Nat.le_trans h1.1.size h)), fun j hj => (h2.2.2 j hj).elim (h1.2.2 j) (fun h => .inr (Nat.le_trans h1.1.size h))⟩
theorem mV.af {w w' : World} (hk : ak w w') : mV r sl sl zs zs w w' := ⟨hk.mono (fun _ h => h.elim), fun j hj => .inl hj, fun j hj => .inl hj⟩
structure Ha (zs : List Rz) : Prop where
 l : zs.length <= 1000
 n : ∀ z ∈ zs, z.g.num <= 2 ^ 59
 s : ∀ z ∈ zs, sumN z.g.bL <= 100
theorem vb (h : gn w r k sl zs) (hz : Ha zs) (hk : k <= 2 ^ 20) (s : Slc) (b : List UInt8) (hb : ag w s b) (hbl : b.length <= 2 ^ 20) (hbs : 0 < s.l -> ∀ j, ao s j -> ¬ RfW r sl zs j) :
  Calls Tryz.prog aY ⟨[aw r, s.v]⟩ w fun e w' => e = .returned (.tuple ⟨[.int .i64 (jJ k (gL zs) b).2.1, .int .i64 (eN (jJ k (gL zs) b).1)]⟩) /\ ∃ sl' zs', gL zs' = (jJ k (gL zs) b).2.2 /\ gn w' r k sl' zs' /\ mV r sl sl' zs zs' w w' := by
 refine jl _ _ ?_
 unfold fL
 have hsl := hb.1
 have form : b.length = 0 \/ 3968 < b.length -> (jJ k (gL zs) b) = (some 3, 0, gL zs) := fun hh => by unfold jJ; rw [if_pos hh]
 refine ⟨fun w2 => w2 = w /\ 0 < b.length /\ b.length <= 3968, ae (fun h0 => ?_) (fun h0 => ae (fun h1 => ?_) (fun h1 => ⟨rfl, by omega, by omega⟩)), ?_⟩
 ·rw [form (by omega)]
  exact ⟨rfl, sl, zs, rfl, h, mV.af (Ext.refl _ _)⟩
 ·rw [form (by omega)]
  exact ⟨rfl, sl, zs, rfl, h, mV.af (Ext.refl _ _)⟩
 rintro w4 ⟨rfl, hb0, hb1⟩
 intros
 have happ : jJ k (gL zs) b = match jb k (gL zs) b.length with | none => (some 12, 0, gL zs) | some L0 => (none, lastN L0, addRec L0 b) := by unfold jJ; rw [if_neg (by omega)]; try rfl
 refine ⟨fun w2 => ∃ sl2 M z, jb k (gL zs) b.length = some (gL (M ++ [z])) /\ z.g.fin <= 200 /\ (M ++ [z]).length <= 2000 /\ gn w2 r k sl2 (M ++ [z]) /\ mV r sl sl2 zs (M ++ [z]) w4 w2, (xQ h (by have := hz.l; omega) (fun z hzz => by have := hz.s z hzz; omega) s (by omega)).mono ?_, ?_⟩
 ·rintro e w17 ⟨rfl, k17⟩
  rw [hsl]
  refine ⟨_, rfl, av (fun h2 => ?_) (fun h2 => ?_)⟩
  ·have hf : jH (gL zs) b.length = false := by simpa using h2
   have hbase : jb k (gL zs) b.length = (gx k (gL zs)).map fun p => oB p (gL zs) := by unfold jb; rw [hf]; rfl
   refine (xR (h.af k17) hk (by have := hz.l; omega) (fun z hzz => by have := hz.n z hzz; omega)).mono ?_
   rintro e w20 hR
   cases hfp : gx k (gL zs) with
   | none =>
    rw [hfp] at hR
    obtain ⟨rfl, k20⟩ := hR
    refine ⟨_, rfl, av (fun _ => ?_) (fun h => by cases h)⟩
    rw [happ, hbase, hfp]
    exact ⟨rfl, sl, zs, rfl, (h.af k17).af k20, mV.af (k17.trans k20)⟩
   | some p =>
    rw [hfp] at hR
    obtain ⟨rfl, sl', hR', e20, f20⟩ := hR
    refine ⟨_, rfl, av (fun h => by cases h) (fun _ => ⟨sl', zs, ⟨⟨p, cm (gL zs), []⟩, 0, ⟨none, 0, 0⟩, []⟩, by rw [hbase, hfp]; simp, by show 1 + 0 <= 200; omega, by have := hz.l; simp; omega, hR', Ext.trans k17 e20 (fun _ h => h.elim) (fun _ h => .inl h), fun j hj => (f20 j hj).imp (fun h => h) (fun h => Nat.le_trans k17.size h), fun j hj => ?_⟩)⟩
    obtain ⟨y, hy, hj⟩ := hj
    rcases List.mem_append.1 hy with hy | hy
    ·exact .inl ⟨y, hy, hj⟩
    ·rw [List.mem_singleton] at hy; subst hy
     obtain ⟨cs, hc, _⟩ := hj; simp at hc
  ·have hf : jH (gL zs) b.length = true := by simpa using h2
   have hne : zs ≠ [] := fun e => by subst e; simp [jH] at hf
   have hzs : zs = zs.dropLast ++ [zs.getLast hne] := (List.dropLast_concat_getLast hne).symm
   refine ⟨sl, zs.dropLast, zs.getLast hne, by rw [<- hzs]; unfold jb; rw [hf]; rfl, by have := hz.s _ (List.getLast_mem hne); unfold aL.fin; omega, by rw [<- hzs]; have := hz.l; omega, by rw [<- hzs]; exact h.af k17, by rw [<- hzs]; exact mV.af k17⟩
 ·rintro w22 ⟨sl2, M, z, hbase, hfin, hlen, hA, hT⟩
  intros
  rw [happ, hbase]
  have hgl : gL (M ++ [z]) = gL M ++ [z.g] := by simp
  have e0 : (match some (gL (M ++ [z])) with | none => (some 12, 0, gL zs) | some L0 => (none, lastN L0, addRec L0 b) : Option Nat × Int × List aL) = (none, (z.g.num : Int), gL M ++ [{ z.g with bL := z.g.bL ++ [b] }]) := by
   show (none, lastN (gL (M ++ [z])), addRec (gL (M ++ [z])) b) = _
   rw [hgl, kU, jI]
  rw [e0]
  have kd : ak w22 (World.drew (World.drew w22)) := ak.trans (Ext.drew _ _) (Ext.drew _ _)
  have hd := hA.af kd
  have hsl2 := hA.s.sl
  have hlM : (M ++ [z]).length = M.length + 1 := by simp
  obtain ⟨a, ha, hrow⟩ := xi hd.s
  have e1 : Int.toNat (((sl2.l : Nat) : Int) - 1) = M.length := by omega
  have hzm : z ∈ M ++ [z] := by simp
  have hzn := hA.n z hzm
  refine aa rfl ⟨_, (hA.af (Ext.drew _ _)).c1, aa rfl ⟨_, (hA.af (Ext.drew _ _)).c1, aA (by omega), aa ha ⟨by omega, by omega, ?_⟩⟩⟩
  rw [e1]
  refine ⟨_, gl hrow 2 (by simp [rzC]), (xh s _ (by omega)).mono ?_⟩
  rintro e w41 ⟨rfl, rfl⟩
  have hnl : dC s.l <= 2 ^ 30 := by unfold dC bN; omega
  have hfz : z.g.fin = 1 + sumN z.g.bL := rfl
  have hds := hd.ds z hzm
  have hbz := hd.b z hzm
  obtain ⟨c1, c2⟩ := tj hd.s ha 2 (by omega) (.int .i64 (z.n + (dC s.l : Int))) (z' := { z with n := z.n + (dC s.l : Int) }) rfl (fun j hj => hbz.lt j hj) (fun j hj => (hds j hj).2)
  refine ⟨_, rfl, ⟨_, gl hrow 2 (by simp [rzC]), rfl⟩, aA (by omega), c1, fun w44 hw44 => ?_⟩
  obtain ⟨r44, e44, z44⟩ := c2 w44 hw44
  have kd44 : ak w44 (World.drew w44) := Ext.drew _ _
  have rd44 := r44.af kd44
  obtain ⟨a', ha', hrow44⟩ := xi rd44
  rw [ha] at ha'; cases ha'
  have c3 : ∀ {w2 : World}, ak (World.drew w44) w2 -> World.cell? w2 ((a.add (M.length * 4)).add 3) = some z.s.v := fun hk => hk.cell (gl hrow44 3 (by simp [rzC]))
  refine ⟨_, c3 (Ext.refl _ _), au (fun r46 w47 hr46 hb46 k46 hs46 => ⟨⟨_, c3 k46, rfl⟩, ?_⟩)⟩
  have x44 : Ext (ao sl2) (World.drew (World.drew w22)) (World.drew w44) := e44.trans kd44 (fun _ h => h) (fun _ h => h.elim)
  have hb22 : ag (World.drew w44) s b := by
   have h1 : ag w22 s b := aN hb hT.1 hbs
   refine aN (ai h1 kd) x44 (fun h0 j hj hh => ?_)
   rcases hT.2.1 j (.inr (.inl hh)) with g | g
   ·exact hbs h0 j hj g
   ·have := cA hb h0 j hj; omega
  refine aX (vs := []) (w0 := World.drew w44) (Own.new (sz := 1) (n := 0) hb46 (.inl (by simp)) rfl) rfl (aF.at (by omega)) k46 (aO (ai hb22 k46)) (by simp only [Src.n]; omega) (fun s49 w50 h49 k50 f49 x50 => ⟨⟨_, c3 k50, rfl⟩, au (fun r52 w53 hr52 hb52 k52 hs52 => ⟨⟨_, c3 (k50.trans k52), rfl⟩, ?_⟩)⟩)
  rw [List.nil_append] at h49
  have k53 := k50.trans k52
  have hb44 : Rows oP (World.drew w44) z.s z.g.bL z.c := hbz.ext x44 (fun j hj hh => (hds j hj).2 hh) (fun j hj hh => (hd.bt z hzm j hj).2.1 hh)
  have hb53 := hb44.af k53
  have hrl := vf z.g.bL
  refine hb53.snoc (cs := [s49.v]) (x := b) (z := [(⟨none, 0, 0⟩ : Slc).v]) rfl ⟨s49, rfl, (h49.af k52).bytes⟩ (fun j hj hh => ?_) hb52 (.inl (by simp)) (by omega) (fun s55 w56 q1 q2 q3 => ?_)
  ·have h5 := f49 j (fZ hj).2
   have h6 := hb44.lt j hh
   omega
  ·have r53 := rd44.af k53
   have r56 : Rows RzR w56 sl2 (M ++ [{ z with n := z.n + (dC s.l : Int) }]) ((M ++ [{ z with n := z.n + (dC s.l : Int) }]).map rzC) := Ff r53 q2 (fun j hj hh => (hds j hh).2 hj)
   have q3' : ∀ j, ao s55 j -> ao z.s j \/ (World.drew (World.drew w22)).heap.size <= j := fun j hj => (q3 j hj).imp (fun h => h) (fun h => by
    have := k53.size
    have := x44.size
    omega)
   have ltd := hd.lt
   obtain ⟨c5, c6⟩ := tj r56 ha 3 (by omega) s55.v (z' := ⟨{ z.g with bL := z.g.bL ++ [b] }, z.n + (dC s.l : Int), s55, z.c ++ [[s49.v]]⟩) rfl (fun j hj => q1.lt j hj) (fun j hj => by
    rcases q3' j hj with g | g
    ·exact (hds j g).2
    ·intro hh
     have := ltd.1 j (.inr (.inl hh)); omega)
   refine ⟨c5, fun w57 hw57 => ?_⟩
   obtain ⟨r57, e57, z57⟩ := c6 w57 hw57
   obtain ⟨a', ha', hrow57⟩ := xi r57
   rw [ha] at ha'; cases ha'
   have hb57 : Rows oP w57 s55 (z.g.bL ++ [b]) (z.c ++ [[s49.v]]) := q1.ext e57 (fun j hj hh => by
    rcases q3' j hj with g | g
    ·exact (hds j g).2 hh
    ·have := ltd.1 j (.inr (.inl hh)); omega) (fun j hj hh => by
    obtain ⟨cs, hc, hk'⟩ := hj
    rcases List.mem_append.1 hc with hc | hc
    ·exact (hd.bt z hzm j ⟨cs, hc, hk'⟩).2.1 hh
    ·rw [List.mem_singleton] at hc; subst hc
     have h5 := f49 j (fZ hk').2
     have := ltd.1 j (.inr (.inl hh))
     have := x44.size
     omega)
   have xx : Ext (fun j => ao sl2 j \/ ao z.s j) (World.drew (World.drew w22)) w57 := (((x44.mono (fun j hj => Or.inl hj)).trans k53 (fun _ h => h) (fun _ h => h.elim)).trans q2 (fun _ h => h) (fun j hj => .inl (.inr hj))).trans e57 (fun _ h => h) (fun j hj => .inl (.inl hj))
   obtain ⟨F, FW, FY⟩ := hd.last xx r57 hb57 (by
    show z.n + (dC s.l : Int) = _
    rw [kr, hzn, hsl]; omega) q3' (fun j hj => by
    obtain ⟨cs, hc, hk'⟩ := hj
    rcases List.mem_append.1 hc with hc | hc
    ·exact .inl ⟨cs, hc, hk'⟩
    ·rw [List.mem_singleton] at hc; subst hc
     have h5 := f49 j (fZ hk').2
     have := x44.size
     exact .inr (by omega))
   refine ⟨_, gl hrow57 1 (by simp [rzC]), rfl, sl2, M ++ [⟨{ z.g with bL := z.g.bL ++ [b] }, z.n + (dC s.l : Int), s55, z.c ++ [[s49.v]]⟩], by simp, F, hT.trans ((mV.af kd).trans ⟨?_, FW, FY⟩)⟩
   exact xx.mono (fun j hj => hj.elim (fun h => .inr (.inl h)) (fun h => .inr (.inr ⟨z, hzm, h⟩)))
end
end Go.D
namespace Go.D
open Go Go.Proofs
section
variable {w w' : World} {r k : Nat} {sl sl' : Slc} {zs zs' : List Rz}
theorem gn.sub (h : gn w r k sl zs) (hsub : zs'.Sublist zs) (he : Ext (fun j => j = r) w w') (ho : aq w' r [.int .i64 (k : Int), sl'.v]) (hs : Rows RzR w' sl' zs' (zs'.map rzC)) (hf : ∀ j, ao sl' j -> w.heap.size <= j) :
  gn w' r k sl' zs' /\ mV r sl sl' zs zs' w w' := by
 have lt := h.lt
 have mem : ∀ z ∈ zs', z ∈ zs := fun z hz => hsub.subset hz
 refine ⟨⟨ho, hs, fun z hz => (h.b z (mem z hz)).ext he (fun j hj hh => (h.ds z (mem z hz) j hj).1 hh) (fun j hj hh => (h.bt z (mem z hz) j hj).1 hh), fun z hz => h.n z (mem z hz), h.sep.sublist hsub, fun hh => ?_, fun z hz j hj => ⟨(h.ds z (mem z hz) j hj).1, fun hh => ?_⟩, fun z hz j hj => ?_⟩, he.mono (fun j hj => .inl hj), ?_, ?_⟩
 ·have := hf r hh; have := h.o.lt; omega
 ·have := hf j hh; have := lt.1 j (.inr (.inr ⟨z, mem z hz, hj⟩)); omega
 ·obtain ⟨v1, v2, v3⟩ := h.bt z (mem z hz) j hj
  exact ⟨v1, fun hh => by have := hf j hh; have := lt.2 j ⟨z, mem z hz, hj⟩; omega, fun y hy => v3 y (mem y hy)⟩
 ·rintro j (hj | hj | ⟨z, hz, hj⟩)
  ·exact .inl (.inl hj)
  ·exact .inr (hf j hj)
  ·exact .inl (.inr (.inr ⟨z, mem z hz, hj⟩))
 ·rintro j ⟨z, hz, hj⟩
  exact .inl ⟨z, mem z hz, hj⟩
theorem vi (l : List Rz) : ∀ cs ∈ l.map rzC, cs.length = 4 := by
 intro cs hc
 obtain ⟨z, _, rfl⟩ := List.mem_map.1 hc
 rfl
theorem Fg (l : List Rz) : ∀ v ∈ (l.map rzC).flatten, v.oneCell' = true := by
 intro v hv
 obtain ⟨cs, hc, hv⟩ := List.mem_flatten.1 hv
 obtain ⟨z, _, rfl⟩ := List.mem_map.1 hc
 simp [rzC] at hv
 rcases hv with rfl | rfl | rfl | rfl <;> rfl
theorem xS (h : gn w r k sl zs) (hz : zs.length <= 2 ^ 20) (n : Int) :
  Calls Tryz.prog dc ⟨[aw r, .int .i64 n]⟩ w fun e w' => e = .returned (.int .i64 (eN (dropR (gL zs) n).1)) /\ ∃ sl' zs', gL zs' = (dropR (gL zs) n).2 /\ gn w' r k sl' zs' /\ mV r sl sl' zs zs' w w' := by
 refine jT _ _ ?_
 unfold gw
 have hsl := h.s.sl
 have hcap := h.s.cap
 refine aa rfl ⟨_, h.c1, fun i w2 => ∃ m : Nat, i = m /\ m <= zs.length /\ ak w w2 /\ ∀ j (hj : j < zs.length), j < m -> decide ((zs[j].g.num : Int) = n) = false, fun i _ => ((zs.length : Int) - i).toNat, ⟨0, rfl, by omega, Ext.refl _ _, fun j _ hj => by omega⟩, ?_⟩
 rintro i w8 ⟨m, rfl, hm, hkk, hno⟩
 intros
 have hgl : (gL zs).length = zs.length := by simp
 have hgj : ∀ j (hj : j < (gL zs).length), (gL zs)[j] = zs[j].g := fun j hj => List.getElem_map _
 refine ae (fun h0 => ?_) (fun h0 => ?_)
 ·have hml : m < zs.length := by omega
  obtain ⟨a, ha, hrow⟩ := (h.af hkk).at hml
  refine aa ha ⟨by omega, h0, _, _, _, _, by rw [Int.toNat_natCast]; exact hrow, tC (cs := rzC zs[m]) rfl rfl (fun r53 w55 hr o53 k53 hs => ?_)⟩
  have k55 := hkk.trans k53
  have h55 := h.af k55
  refine ⟨_, o53.cell 1 (by simp [rzC]), aV (fun h1 => ?_) (fun h1 => ?_)⟩
  ·refine ⟨aA (by omega), ⟨m + 1, rfl, hml, k55, fun j hj hjm => ?_⟩, by dsimp only; omega⟩
   by_cases e : j = m
   ·subst e; exact decide_eq_false h1
   ·exact hno j hj (by omega)
  ·have hseek : seekI (fun g => decide ((g.num : Int) = n)) (gL zs) = m := rk (by omega) (by rw [hgj]; exact decide_eq_true h1) (fun j hj => by rw [hgj]; exact hno j (by omega) hj)
   have hdr := wK hseek
   refine aa rfl ⟨_, h55.c1, aA (by omega), ae (fun h2 => ?_) (fun h2 => ?_)⟩
   ·rw [if_pos (by omega)] at hdr
    rw [hdr]
    exact ⟨rfl, sl, zs, rfl, h55, mV.af k55⟩
   ·rw [if_neg (by omega)] at hdr
    rw [hdr]
    have kd : ak w55 (World.drew w55) := Ext.drew _ _
    have hd := h55.af kd
    refine aa rfl ⟨_, hd.c1, by omega, by omega, by omega, by omega, aa rfl ⟨_, hd.c1, aA (by omega), by omega, by omega, by omega, by omega, au (fun r65 w66 hr65 hb65 k65 hs65 => ?_)⟩⟩
    have h66 := hd.af k65
    refine ⟨⟨_, h66.c1, rfl⟩, ⟨_, h66.c1, rfl⟩, ?_⟩
    rw [Int.toNat_natCast, show Int.toNat ((m : Int) + 1) = m + 1 by omega]
    have hlen4 := ea (zs.map rzC) (vi zs)
    rw [List.length_map] at hlen4
    obtain ⟨p1, p2⟩ := h66.s.own.part (lo := 0) (hi := m) (c := sl.c) (by omega) (by omega) (by omega)
    have e1 : (((zs.map rzC).flatten.take (m * 4)).drop (0 * 4)) = ((zs.take m).map rzC).flatten := by
     rw [yD _ (vi zs), Nat.zero_mul, List.drop_zero, List.map_take]
    have p1' : dS w66 (Slc.sub sl 4 0 m sl.c).p ((zs.take m).map rzC).flatten := by rw [<- e1]; exact p1
    have p2' : (((zs.take m).map rzC).flatten).length = (Slc.sub sl 4 0 m sl.c).l * 4 := by rw [<- e1]; exact p2
    refine ef (Own.new (sz := 4) (n := 0) hb65 (.inl (by simp)) rfl) (by omega) rfl (mq p1' p2') (Fg _) (by simp only [Src.n, Slc.sub]; omega) (fun s69 w70 g1 g2 g3 g4 => ?_)
    rw [List.nil_append] at g1
    have own65 : ∀ j, ao (⟨some ⟨r65, 0, none⟩, 0, 0⟩ : Slc) j -> j = r65 := by rintro j ⟨a, ha, rfl⟩; cases ha; rfl
    have k70 : ak (World.drew w55) w70 := k65.ext g2 (fun j hj => by rw [own65 j hj]; omega)
    have h70 := hd.af k70
    have f69 : ∀ j, ao s69 j -> (World.drew w55).heap.size <= j := fun j hj => (g3 j hj).elim (fun h => by rw [own65 j h]; omega) (fun h => by have := k65.size; omega)
    refine ⟨⟨_, h70.c1, rfl⟩, ?_⟩
    obtain ⟨p3, p4⟩ := h70.s.own.part (lo := m + 1) (hi := sl.l) (c := sl.c) (by omega) (by omega) (by omega)
    have e2 : (((zs.map rzC).flatten.take (sl.l * 4)).drop ((m + 1) * 4)) = ((zs.drop (m + 1)).map rzC).flatten := by
     rw [List.take_of_length_le (by rw [hlen4]; show zs.length * 4 <= sl.l * 4; rw [hsl]; omega), yE _ (vi zs), List.map_drop]
    have p3' : dS w70 (Slc.sub sl 4 (m + 1) sl.l sl.c).p ((zs.drop (m + 1)).map rzC).flatten := by rw [<- e2]; exact p3
    have p4' : (((zs.drop (m + 1)).map rzC).flatten).length = (Slc.sub sl 4 (m + 1) sl.l sl.c).l * 4 := by rw [<- e2]; exact p4
    have hs69 := g1.1
    have hl69 : s69.l = m := by
     rw [ea _ (vi (zs.take m)), List.length_map, List.length_take] at hs69
     omega
    refine ef g1 (by omega) rfl (mq p3' p4') (Fg _) (by simp only [Src.n, Slc.sub]; omega) (fun s72 w73 q1 q2 q3 q4 => aa rfl ?_)
    have k73 : ak (World.drew w55) w73 := k70.ext q2 (fun j hj => f69 j hj)
    have h73 := hd.af k73
    have f72 : ∀ j, ao s72 j -> (World.drew w55).heap.size <= j := fun j hj => (q3 j hj).elim (fun h => f69 j h) (fun h => by have := k70.size; omega)
    have hdz : (World.drew w55).heap.size = w55.heap.size := rfl
    obtain ⟨c1, c2⟩ := h73.o.aM 1 (by simp) s72.v
    rw [add_lit]
    refine ⟨c1, fun w75 hw75 => ?_⟩
    obtain ⟨o75, e75, _⟩ := c2 w75 hw75
    have hflat : ((zs.take m).map rzC).flatten ++ ((zs.drop (m + 1)).map rzC).flatten = ((zs.eraseIdx m).map rzC).flatten := by
     rw [List.eraseIdx_eq_take_drop_succ, List.map_append, List.flatten_append]
    rw [hflat] at q1
    have hsub := List.eraseIdx_sublist zs m
    have r72 : ∀ j, ao s72 j -> j ≠ r := fun j hj e => by
     have := f72 j hj; have := hd.o.lt; omega
    have hrows : Rows RzR w73 s72 (zs.eraseIdx m) ((zs.eraseIdx m).map rzC) := by
     refine ⟨q1, by simp, fun i hi hi' => ?_, fun j hj hh => ?_⟩
     ·rw [List.getElem_map]
      exact ⟨rfl, fun j hj => h73.lt.1 j (.inr (.inr ⟨_, hsub.subset (List.getElem_mem _), hj⟩))⟩
     ·obtain ⟨cs, hc, hk'⟩ := hj
      obtain ⟨z, hzz, rfl⟩ := List.mem_map.1 hc
      have := hd.lt.1 j (.inr (.inr ⟨z, hsub.subset hzz, (qe hk').2⟩))
      have := f72 j hh
      omega
    have x75 : Ext (fun j => j = r) (World.drew w55) w75 := Ext.trans k73 e75 (fun _ h => h.elim) (fun _ h => .inl h)
    obtain ⟨F, FT⟩ := gn.sub (zs' := zs.eraseIdx m) (sl' := s72) (w := World.drew w55) (w' := w75) hd hsub x75 o75 (Ff hrows e75 (fun j hj hh => r72 j hj hh)) f72
    refine ⟨rfl, s72, zs.eraseIdx m, ?_, F, (mV.af (k55.trans kd)).trans FT⟩
    show (zs.eraseIdx m).map (·.g) = (zs.map (·.g)).eraseIdx m
    rw [pX]
 ·have hseek : seekI (fun g => decide ((g.num : Int) = n)) (gL zs) = -1 := rj (fun j hj => by rw [hgj]; exact hno j (by omega) (by omega))
  rw [wJ hseek]
  exact ⟨rfl, sl, zs, rfl, h.af hkk, mV.af hkk⟩
end
end Go.D
namespace Go.D
open Go Go.Proofs
end Go.D
namespace Go.D
open Go Go.Proofs
structure RuE where
 a : Nat
 t : List UInt8
 n : Nat
structure RuF where
 rs : Nat
 sl : Slc
 zs : List Rz
 sa : Slc
 sp : Slc
 si : Slc
 css : List (List Value)
def RuW (r : Nat) (f : RuF) (j : Nat) : Prop := j = r \/ RfW f.rs f.sl f.zs j \/ ao f.sa j \/ ao f.sp j \/ ao f.si j
def RuY (f : RuF) (j : Nat) : Prop := RfY f.zs j \/ bD f.css j
structure RuC (r : Nat) (f : RuF) (c : Nat -> Nat) : Prop where
 cr : c r = 0
 cf : ∀ j, RfW f.rs f.sl f.zs j -> c j = 1
 ca : ∀ j, ao f.sa j -> c j = 2
 cp : ∀ j, ao f.sp j -> c j = 3
 ci : ∀ j, ao f.si j -> c j = 4
 cy : ∀ j, RuY f j -> c j = 5
structure jU (w : World) (r k : Nat) (f : RuF) (P : List RuE) (tr ep top : Int) : Prop where
 o : aq w r [aw f.rs, f.sa.v, f.sp.v, f.si.v, .int .i64 tr, .int .i64 ep, .int .i64 top]
 R : gn w f.rs k f.sl f.zs
 a : bf w f.sa (P.map fun e => (e.a : Int))
 p : Rows oP w f.sp (P.map (·.t)) f.css
 i : bf w f.si (P.map fun e => (e.n : Int))
 c : ∃ c, RuC r f c
section
variable {w w' : World} {r k : Nat} {f : RuF} {P : List RuE} {tr ep top : Int}
theorem jU.ext {M : Nat -> Prop} (h : jU w r k f P tr ep top) (he : Ext M w w') (h1 : ∀ j, RuW r f j -> ¬ M j) (h2 : ∀ j, RuY f j -> ¬ M j) : jU w' r k f P tr ep top :=
 ⟨h.o.ext he (h1 _ (.inl rfl)), h.R.ext he (fun j hj => h1 j (.inr (.inl hj))) (fun j hj => h2 j (.inl hj)), h.a.ext he (fun j hj => h1 j (.inr (.inr (.inl hj)))), h.p.ext he (fun j hj => h1 j (.inr (.inr (.inr (.inl hj))))) (fun j hj => h2 j (.inr hj)),
  h.i.ext he (fun j hj => h1 j (.inr (.inr (.inr (.inr hj))))), h.c⟩
theorem jU.af (h : jU w r k f P tr ep top) (he : ak w w') : jU w' r k f P tr ep top := h.ext he (fun _ _ h => h) (fun _ _ h => h)
theorem jU.lt (h : jU w r k f P tr ep top) : (∀ j, RuW r f j -> j < w.heap.size) /\ ∀ j, RuY f j -> j < w.heap.size := by
 refine ⟨?_, ?_⟩
 ·rintro j (rfl | hj | hj | hj | hj)
  ·exact h.o.lt
  ·exact h.R.lt.1 j hj
  ·exact Rows.lt h.a j hj
  ·exact h.p.lt j hj
  ·exact Rows.lt h.i j hj
 ·rintro j (hj | hj)
  ·exact h.R.lt.2 j hj
  ·exact h.p.flt j hj
theorem jU.cs (h : jU w r k f P tr ep top) : w.cell? ⟨r, 0, none⟩ = some (aw f.rs) /\ w.cell? ((⟨r, 0, none⟩ : Addr).add 1) = some f.sa.v /\ w.cell? ((⟨r, 0, none⟩ : Addr).add 2) = some f.sp.v /\ w.cell? ((⟨r, 0, none⟩ : Addr).add 3) = some f.si.v /\
  w.cell? ((⟨r, 0, none⟩ : Addr).add 4) = some (.int .i64 tr) /\ w.cell? ((⟨r, 0, none⟩ : Addr).add 5) = some (.int .i64 ep) /\ w.cell? ((⟨r, 0, none⟩ : Addr).add 6) = some (.int .i64 top) := by
 simp only [add_lit]
 exact ⟨h.o.cell 0 (by simp), h.o.cell 1 (by simp), h.o.cell 2 (by simp), h.o.cell 3 (by simp), h.o.cell 4 (by simp), h.o.cell 5 (by simp), h.o.cell 6 (by simp)⟩
theorem jU.store (h : jU w r k f P tr ep top) {sl' : Slc} {zs' : List Rz} (hR : gn w' f.rs k sl' zs') (ht : mV f.rs f.sl sl' f.zs zs' w w') : jU w' r k { f with sl := sl', zs := zs' } P tr ep top := by
 obtain ⟨c, hc⟩ := h.c
 obtain ⟨t1, t2, t3⟩ := ht
 have lt := h.lt
 have no : ∀ j, c j ≠ 1 -> ¬ RfW f.rs f.sl f.zs j := fun j h1 h2 => h1 (hc.cf j h2)
 refine ⟨h.o.ext t1 (no r (by rw [hc.cr]; omega)), hR, h.a.ext t1 (fun j hj => no j (by rw [hc.ca j hj]; omega)), h.p.ext t1 (fun j hj => no j (by rw [hc.cp j hj]; omega)) (fun j hj => no j (by rw [hc.cy j (.inr hj)]; omega)), h.i.ext t1 (fun j hj => no j (by rw [hc.ci j hj]; omega)), ?_⟩
 -- new blocks: those of the store that are written, and those that are read
 have hltR := hR.lt
 have key : ∀ j, RfW f.rs sl' zs' j -> ¬ RfY zs' j := by
  intro j hj hy
  rcases hj with rfl | hj | ⟨z, hz, hj⟩
  ·obtain ⟨z, hz, hy⟩ := hy; exact (hR.bt z hz _ hy).1 rfl
  ·obtain ⟨z, hz, hy⟩ := hy; exact (hR.bt z hz j hy).2.1 hj
  ·obtain ⟨y, hy0, hy⟩ := hy; exact (hR.bt y hy0 j hy).2.2 z hz hj
 refine ⟨fun j => if j < w.heap.size then c j else @ite _ (RfW f.rs sl' zs' j) (Classical.propDecidable _) 1 5, ?_, fun j hj => ?_, fun j hj => ?_, fun j hj => ?_, fun j hj => ?_, fun j hj => ?_⟩
 ·rw [if_pos h.o.lt]; exact hc.cr
 ·rcases t2 j hj with g | g
  ·rw [if_pos (lt.1 j (.inr (.inl g)))]; exact hc.cf j g
  ·rw [if_neg (by omega)]; exact @if_pos _ (Classical.propDecidable _) hj _ 1 5
 ·rw [if_pos (lt.1 j (.inr (.inr (.inl hj))))]; exact hc.ca j hj
 ·rw [if_pos (lt.1 j (.inr (.inr (.inr (.inl hj)))))]; exact hc.cp j hj
 ·rw [if_pos (lt.1 j (.inr (.inr (.inr (.inr hj)))))]; exact hc.ci j hj
 ·rcases hj with hj | hj
  ·rcases t3 j hj with g | g
   ·rw [if_pos (lt.2 j (.inl g))]; exact hc.cy j (.inl g)
   ·rw [if_neg (by omega)]
    exact @if_neg _ (Classical.propDecidable _) (fun hh => key j hh hj) _ 1 5
  ·rw [if_pos (lt.2 j (.inr hj))]; exact hc.cy j (.inr hj)
def uQ (P : List RuE) (tr a : Int) : Int := if a < tr then -1 else match P.findIdx? (fun e => decide ((e.a : Int) = a)) with | some i => i | none => -1
theorem xj (h : jU w r k f P tr ep top) (hP : P.length <= 2 ^ 20) (a : Int) :
  Calls Tryz.prog bS ⟨[aw r, .int .i64 a]⟩ w fun e w' => e = .returned (.int .i64 (uQ P tr a)) /\ w' = w := by
 refine kf _ _ ?_
 unfold gF
 have hsl := Rows.sl h.a
 rw [List.length_map] at hsl
 refine aa rfl ⟨_, h.cs.2.1, fun i w2 => ∃ n : Nat, i = n /\ n <= P.length /\ (tr <= a -> ∀ j (hj : j < P.length), j < n -> (P[j].a : Int) ≠ a) /\ w2 = w, fun i _ => ((P.length : Int) - i).toNat, ⟨0, rfl, by omega, fun _ j _ hj => by omega, rfl⟩, ?_⟩
 rintro i w8 ⟨n, rfl, hn, hno, rfl⟩
 intros
 refine ae (fun h0 => ?_) (fun h0 => ⟨?_, rfl⟩)
 ·have hnl : n < P.length := by omega
  obtain ⟨a29, ha29, hc29⟩ := h.a.get (i := n) (by simpa using hnl)
  rw [List.getElem_map] at hc29
  refine aa ha29 ⟨by omega, h0, _, by rw [Int.toNat_natCast]; exact hc29, ae (fun h1 => aa rfl ⟨_, h.cs.2.2.2.2.1, ae (fun h2 => ⟨?_, rfl⟩) (fun h2 => ?_)⟩) (fun h1 => ?_)⟩
  ·unfold uQ
   rw [if_neg (by omega), (List.findIdx?_eq_some_iff_getElem (xs := P) (i := n)).2 ⟨hnl, by simpa using h1, fun j hj => by simpa using hno h2 j (by omega) hj⟩]
  ·exact ⟨aA (by omega), ⟨n + 1, rfl, hnl, fun hh => absurd hh h2, rfl⟩, by dsimp only; omega⟩
  ·refine ⟨aA (by omega), ⟨n + 1, rfl, hnl, fun hh j hj hjn => ?_, rfl⟩, by dsimp only; omega⟩
   by_cases e : j = n
   ·subst e; exact h1
   ·exact hno hh j hj (by omega)
 ·unfold uQ
  by_cases e : a < tr
  ·rw [if_pos e]
  ·rw [if_neg e, List.findIdx?_eq_none_iff.2 (fun x hx => by
    obtain ⟨j, hj, rfl⟩ := List.getElem_of_mem hx
    simpa using hno (by omega) j hj (by omega))]
theorem zF (h : jU w r k f P tr ep top) (hP : P.length <= 2 ^ 20) (a : Int) :
  Calls Tryz.prog dI ⟨[aw r, .int .i64 a]⟩ w fun e w' => e = .returned (.bool (decide (0 <= uQ P tr a))) /\ w' = w := by
 refine kM _ _ ?_
 unfold ij
 refine (xj h hP a).mono ?_
 rintro e w' ⟨rfl, rfl⟩
 exact ⟨_, rfl, rfl, rfl⟩
theorem kZ (h : jU w r k f P tr ep top) (epoch a most : Int) :
  Calls Tryz.prog bk ⟨[aw r, .int .i64 epoch, .int .i64 a, .int .i64 most]⟩ w fun e w' => e = .returned (.int .i64 (eN (eV ep epoch a most))) /\ w' = w := by
 refine jP _ _ _ _ ?_
 unfold gr eV
 refine aa rfl ⟨_, h.cs.2.2.2.2.2.1, ae (fun h0 => ⟨?_, rfl⟩) (fun h0 => ae (fun h1 => ⟨?_, rfl⟩) (fun h1 => ae (fun h2 => ⟨?_, rfl⟩) (fun h2 => ae (fun h3 => ⟨?_, rfl⟩) (fun h3 => ⟨?_, rfl⟩))))⟩
 ·rw [if_pos (.inl h0)]; rfl
 ·rw [if_pos (.inr h1)]; rfl
 ·rw [if_neg (by omega), if_pos (.inl h2)]; rfl
 ·rw [if_neg (by omega), if_pos (.inr h3)]; rfl
 ·rw [if_neg (by omega), if_neg (by omega)]; rfl
theorem mj (h : jU w r k f P tr ep top) :
  Calls Tryz.prog bp ⟨[aw r]⟩ w fun e w' => e = .returned (.int .i64 (max top tr)) /\ ak w w' := by
 refine kj _ ?_
 unfold gK
 have hd := h.af (Ext.drew fb w)
 refine aa rfl ⟨_, hd.cs.2.2.2.2.2.2, aa rfl ⟨_, hd.cs.2.2.2.2.1, ?_, Ext.drew _ _⟩⟩
 rw [show (if tr > top then tr else top) = max top tr by split <;> omega]
theorem ub (s : Slc) (l : List (List UInt8)) (css : List (List Value)) (hr : Rows oP w s l css) (hl : l.length <= 10) (hb : ∀ b ∈ l, b.length <= 2 ^ 20) :
  Calls Tryz.prog cE ⟨[s.v]⟩ w fun e w' => ∃ t : Slc, e = .returned t.v /\ Own w' t 1 (l.flatten.map aJ) /\ aF w t /\ ak w w' := by
 refine oN _ ?_
 unfold kN
 have hsl := hr.sl
 refine au (fun r2 w3 hr2 hb2 k2 hs2 => ?_)
 have hflat : ∀ n, n <= l.length -> (l.take n).flatten.length <= n * 2 ^ 20 := by
  intro n
  induction n with
  | zero => intro _; simp
  | succ n ih =>
   intro hn
   rw [fx _ _ (by omega), List.flatten_append, List.length_append]
   have := ih (by omega)
   have h2 := hb _ (List.getElem_mem (show n < l.length by omega))
   simp only [List.flatten_cons, List.flatten_nil, List.append_nil]; omega
 refine ⟨fun o i w2 => ∃ n : Nat, i = n /\ n <= l.length /\ Own w2 o 1 ((l.take n).flatten.map aJ) /\ aF w o /\ ak w w2, fun _ i _ => ((l.length : Int) - i).toNat,
  ⟨0, rfl, by omega, Own.new (sz := 1) (n := 0) hb2 (.inl (by simp)) rfl, aF.at (by omega), k2⟩, ?_⟩
 rintro o i w8 ⟨n, rfl, hn, ho, hf, hk⟩
 intros
 refine ae (fun h0 => ?_) (fun h0 => ?_)
 ·have hnl : n < l.length := by omega
  have h8 := hr.af hk
  have hnc : n < css.length := by rw [h8.len]; exact hnl
  obtain ⟨a17, ha17, _, hrow⟩ := h8.get (i := n) hnc
  obtain ⟨s18, hcs, hb18⟩ := h8.row n hnc hnl
  rw [hcs] at hrow
  have hbn := hb _ (List.getElem_mem hnl)
  have hol := ho.1
  have hfl := hflat n (by omega)
  have hb1 := hb18.1
  refine aa ha17 ⟨by omega, h0, s18, by rw [Int.toNat_natCast]; exact gl hrow 0 (by simp), ?_⟩
  refine aX ho rfl hf hk (aO hb18) (by simp only [Src.n]; rw [List.length_map] at hol; omega) (fun s' w' g1 g2 g3 g4 => ⟨aA (by omega), ⟨n + 1, rfl, hnl, ?_, g3, g2⟩, by dsimp only; omega⟩)
  rw [fx _ _ hnl, List.flatten_append]
  simpa using g1
 ·have hnn : n = l.length := by omega
  subst hnn
  rw [List.take_length] at ho
  exact ⟨o, rfl, ho, hf, hk⟩
theorem F4 (ss : List Slc) : (ss.map fun s => [s.v]).flatten = ss.map Slc.v := by
 induction ss with
 | nil => rfl
 | cons s ss ih => simpa using ih
theorem xk {w : World} {T : TypeId} {c : Nat} (ss : List Slc) (bs : List (List UInt8)) (hb : w.heap[c]? = some (.cells ⟨ss.map Slc.v⟩ T)) (hl : ss.length = bs.length) (hs : ∀ i (h : i < ss.length) (h' : i < bs.length), ag w ss[i] bs[i]) (hc : ∀ s ∈ ss, ∀ j, ao s j -> j ≠ c) :
  Rows oP w ⟨some ⟨c, 0, none⟩, ss.length, ss.length⟩ bs (ss.map fun s => [s.v]) := by
 have e := F4 ss
 refine ⟨?_, by simpa using hl, fun i h1 h2 => ?_, fun j hj hh => ?_⟩
 ·rw [e]
  exact Own.new (sz := 1) (n := ss.length) hb (.inl (by simp)) (by simp)
 ·rw [List.length_map] at h1
  rw [List.getElem_map]
  exact ⟨_, rfl, hs i h1 h2⟩
 ·obtain ⟨cs, hcs, s', hs', h0, hj'⟩ := hj
  obtain ⟨s, hs0, rfl⟩ := List.mem_map.1 hcs
  rw [List.mem_singleton] at hs'
  have hjc : j = c := by obtain ⟨a, ha, rfl⟩ := hh; cases ha; rfl
  have e2 : s' = s := by
   obtain ⟨p, l, cc⟩ := s
   obtain ⟨p', l', c'⟩ := s'
   simp [Slc.v] at hs'
   obtain ⟨rfl, rfl, rfl⟩ := hs'
   rfl
  subst e2
  exact hc _ hs0 j hj' hjc
end
end Go.D
namespace Go.D
open Go Go.Proofs
structure PWq where
 sa : Slc
 la : List Int
 sp : Slc
 lp : List (List UInt8)
 css : List (List Value)
 si : Slc
 li : List Int
 X : List (Nat × List Value)
 B : List Slc
structure PWC (r : Nat) (f : RuF) (b4 : Slc) (z : PWq) (c : Nat -> Nat) : Prop where
 cr : c r = 0
 cf : ∀ j, RfW f.rs f.sl f.zs j -> c j = 1
 ca : ∀ j, ao z.sa j -> c j = 2
 cp : ∀ j, ao z.sp j -> c j = 3
 ci : ∀ j, ao z.si j -> c j = 4
 cy : ∀ j, RfY f.zs j \/ bD z.css j \/ ao b4 j -> c j = 5
 cx : ∀ v ∈ z.X, c v.1 = if v.2 = [] then 6 else 5
 cb : ∀ s ∈ z.B, ∀ j, ao s j -> c j = 5
structure PW (w0 : World) (r k : Nat) (f : RuF) (tr ep top : Int) (b4 : Slc) (t : List UInt8) (z : PWq) (w : World) : Prop where
 o : aq w r [aw f.rs, f.sa.v, f.sp.v, f.si.v, .int .i64 tr, .int .i64 ep, .int .i64 top]
 R : gn w f.rs k f.sl f.zs
 a : bf w z.sa z.la
 p : Rows oP w z.sp z.lp z.css
 i : bf w z.si z.li
 b : ag w b4 t
 bl : ∀ j, ao b4 j -> j < w.heap.size
 x : ∀ v ∈ z.X, ∃ T, w.heap[v.1]? = some (.cells ⟨v.2⟩ T)
 y : ∀ s ∈ z.B, ag w s t /\ ∀ j, ao s j -> j < w.heap.size
 c : ∃ c, PWC r f b4 z c
 e : Ext (RuW r f) w0 w
 g : (∀ j, ao z.sa j -> ao f.sa j \/ w0.heap.size <= j) /\ (∀ j, ao z.sp j -> ao f.sp j \/ w0.heap.size <= j) /\ (∀ j, ao z.si j -> ao f.si j \/ w0.heap.size <= j) /\ (∀ j, bD z.css j -> bD f.css j \/ w0.heap.size <= j) /\
  (∀ v ∈ z.X, w0.heap.size <= v.1) /\ ∀ s ∈ z.B, ∀ j, ao s j -> w0.heap.size <= j
section
variable {w0 w : World} {r k : Nat} {f : RuF} {tr ep top : Int} {b4 : Slc} {t : List UInt8} {sa sp si : Slc} {la li : List Int} {lp : List (List UInt8)} {css : List (List Value)} {X : List (Nat × List Value)} {B : List Slc}
theorem PW.c1 {z : PWq} (h : PW w0 r k f tr ep top b4 t z w) : w.cell? ((⟨r, 0, none⟩ : Addr).add 1) = some f.sa.v := by rw [add_lit]; exact h.o.cell 1 (by simp)
theorem PW.c2 {z : PWq} (h : PW w0 r k f tr ep top b4 t z w) : w.cell? ((⟨r, 0, none⟩ : Addr).add 2) = some f.sp.v := by rw [add_lit]; exact h.o.cell 2 (by simp)
theorem PW.c3 {z : PWq} (h : PW w0 r k f tr ep top b4 t z w) : w.cell? ((⟨r, 0, none⟩ : Addr).add 3) = some f.si.v := by rw [add_lit]; exact h.o.cell 3 (by simp)
theorem PW.start {P : List RuE} (h : jU w r k f P tr ep top) (hb : ag w b4 t) (ht : 0 < t.length) (hs : ∀ j, ao b4 j -> ¬ RuW r f j) :
  PW w r k f tr ep top b4 t ⟨f.sa, P.map fun e => (e.a : Int), f.sp, P.map (·.t), f.css, f.si, P.map fun e => (e.n : Int), [], []⟩ w := by
 obtain ⟨c, hc⟩ := h.c
 have hl := hb.1
 refine ⟨h.o, h.R, h.a, h.p, h.i, hb, fun j hj => cA hb (by omega) j hj, by simp, by simp, ⟨fun j => @ite _ (ao b4 j) (Classical.propDecidable _) 5 (c j), ?_, fun j hj => ?_, fun j hj => ?_, fun j hj => ?_, fun j hj => ?_, fun j hj => ?_, by simp, by simp⟩, Ext.refl _ _, fun j hj => .inl hj, fun j hj => .inl hj, fun j hj => .inl hj, fun j hj => .inl hj, by simp, by simp⟩
 ·rw [@if_neg _ (Classical.propDecidable _) (fun hh => hs r hh (.inl rfl))]; exact hc.cr
 ·rw [@if_neg _ (Classical.propDecidable _) (fun hh => hs j hh (.inr (.inl hj)))]; exact hc.cf j hj
 ·rw [@if_neg _ (Classical.propDecidable _) (fun hh => hs j hh (.inr (.inr (.inl hj))))]; exact hc.ca j hj
 ·rw [@if_neg _ (Classical.propDecidable _) (fun hh => hs j hh (.inr (.inr (.inr (.inl hj)))))]; exact hc.cp j hj
 ·rw [@if_neg _ (Classical.propDecidable _) (fun hh => hs j hh (.inr (.inr (.inr (.inr hj)))))]; exact hc.ci j hj
 ·by_cases e : ao b4 j
  ·rw [@if_pos _ (Classical.propDecidable _) e]
  ·rw [@if_neg _ (Classical.propDecidable _) e]
   rcases hj with hj | hj | hj
   ·exact hc.cy j (.inl hj)
   ·exact hc.cy j (.inr hj)
   ·exact absurd hj e
theorem PW.stay {z : PWq} {w' : World} {M : Nat -> Prop} {c : Nat -> Nat} {n : Nat} (h : PW w0 r k f tr ep top b4 t z w) (hc : PWC r f b4 z c) (he : Ext M w w') (hM : ∀ j, M j -> c j = n) :
  (n ≠ 0 -> aq w' r [aw f.rs, f.sa.v, f.sp.v, f.si.v, .int .i64 tr, .int .i64 ep, .int .i64 top]) /\ (n ≠ 1 -> n ≠ 5 -> gn w' f.rs k f.sl f.zs) /\ (n ≠ 2 -> bf w' z.sa z.la) /\ (n ≠ 3 -> n ≠ 5 -> Rows oP w' z.sp z.lp z.css) /\ (n ≠ 4 -> bf w' z.si z.li) /\ (n ≠ 5 -> ag w' b4 t) /\
   (∀ j, ao b4 j -> j < w'.heap.size) /\ (n ≠ 5 -> n ≠ 6 -> ∀ v ∈ z.X, ∃ T, w'.heap[v.1]? = some (.cells ⟨v.2⟩ T)) /\ (n ≠ 5 -> ∀ v ∈ z.X, v.2 ≠ [] -> ∃ T, w'.heap[v.1]? = some (.cells ⟨v.2⟩ T)) /\ (n ≠ 5 -> ∀ s ∈ z.B, ag w' s t /\ ∀ j, ao s j -> j < w'.heap.size) := by
 have sz := he.size
 refine ⟨fun h0 => h.o.ext he (fun hh => h0 (by rw [<- hM r hh, hc.cr])), fun h1 h5 => h.R.ext he (fun j hj hh => h1 (by rw [<- hM j hh, hc.cf j hj])) (fun j hj hh => h5 (by rw [<- hM j hh, hc.cy j (.inl hj)])), fun h2 => h.a.ext he (fun j hj hh => h2 (by rw [<- hM j hh, hc.ca j hj])),
  fun h3 h5 => h.p.ext he (fun j hj hh => h3 (by rw [<- hM j hh, hc.cp j hj])) (fun j hj hh => h5 (by rw [<- hM j hh, hc.cy j (.inr (.inl hj))])), fun h4 => h.i.ext he (fun j hj hh => h4 (by rw [<- hM j hh, hc.ci j hj])), fun h5 => aD h.b he (fun j hj hh => h5 (by rw [<- hM j hh, hc.cy j (.inr (.inr hj))])),
  fun j hj => by have := h.bl j hj; omega, fun h5 h6 v hv => ?_, fun h5 v hv hne => ?_, fun h5 s hs => ⟨aD (h.y s hs).1 he (fun j hj hh => h5 (by rw [<- hM j hh, hc.cb s hs j hj])), fun j hj => by have := (h.y s hs).2 j hj; omega⟩⟩
 ·obtain ⟨T, hT⟩ := h.x v hv
  refine ⟨T, he.heap hT (fun hh => ?_)⟩
  have h1 := hM _ hh
  rw [hc.cx v hv] at h1
  split at h1 <;> omega
 ·obtain ⟨T, hT⟩ := h.x v hv
  refine ⟨T, he.heap hT (fun hh => ?_)⟩
  have h1 := hM _ hh
  rw [hc.cx v hv, if_neg hne] at h1
  omega
theorem PW.lt {z : PWq} (h : PW w0 r k f tr ep top b4 t z w) : r < w.heap.size /\ (∀ j, RfW f.rs f.sl f.zs j -> j < w.heap.size) /\ (∀ j, ao z.sa j -> j < w.heap.size) /\ (∀ j, ao z.sp j -> j < w.heap.size) /\ (∀ j, ao z.si j -> j < w.heap.size) /\
  (∀ j, RfY f.zs j \/ bD z.css j \/ ao b4 j -> j < w.heap.size) /\ (∀ v ∈ z.X, v.1 < w.heap.size) /\ ∀ s ∈ z.B, ∀ j, ao s j -> j < w.heap.size :=
 ⟨h.o.lt, h.R.lt.1, Rows.lt h.a, h.p.lt, Rows.lt h.i, fun j hj => hj.elim (h.R.lt.2 j) (fun g => g.elim (h.p.flt j) (h.bl j)), fun v hv => by obtain ⟨T, hT⟩ := h.x v hv; exact dG hT, fun s hs => (h.y s hs).2⟩
theorem PW.mkC {z z' : PWq} {c : Nat -> Nat} (h : PW w0 r k f tr ep top b4 t z w) (hc : PWC r f b4 z c) (n : Nat)
  (h1 : ∀ j, ao z'.sa j -> ao z.sa j \/ w.heap.size <= j /\ n = 2) (h2 : ∀ j, ao z'.sp j -> ao z.sp j \/ w.heap.size <= j /\ n = 3) (h3 : ∀ j, ao z'.si j -> ao z.si j \/ w.heap.size <= j /\ n = 4)
  (h4 : ∀ j, bD z'.css j -> bD z.css j \/ ∃ s ∈ z.B, ao s j) (h5 : ∀ v ∈ z'.X, v ∈ z.X \/ w.heap.size <= v.1 /\ n = if v.2 = [] then 6 else 5) (h6 : ∀ s ∈ z'.B, s ∈ z.B) :
  PWC r f b4 z' (fun j => if j < w.heap.size then c j else n) := by
 obtain ⟨l0, l1, l2, l3, l4, l5, l6, l7⟩ := h.lt
 refine ⟨?_, fun j hj => ?_, fun j hj => ?_, fun j hj => ?_, fun j hj => ?_, fun j hj => ?_, fun v hv => ?_, fun s hs j hj => ?_⟩
 ·rw [if_pos l0]; exact hc.cr
 ·rw [if_pos (l1 j hj)]; exact hc.cf j hj
 ·rcases h1 j hj with g | ⟨g, e⟩
  ·rw [if_pos (l2 j g)]; exact hc.ca j g
  ·rw [if_neg (by omega)]; exact e
 ·rcases h2 j hj with g | ⟨g, e⟩
  ·rw [if_pos (l3 j g)]; exact hc.cp j g
  ·rw [if_neg (by omega)]; exact e
 ·rcases h3 j hj with g | ⟨g, e⟩
  ·rw [if_pos (l4 j g)]; exact hc.ci j g
  ·rw [if_neg (by omega)]; exact e
 ·rcases hj with hj | hj | hj
  ·rw [if_pos (l5 j (.inl hj))]; exact hc.cy j (.inl hj)
  ·rcases h4 j hj with g | ⟨s, hs, g⟩
   ·rw [if_pos (l5 j (.inr (.inl g)))]; exact hc.cy j (.inr (.inl g))
   ·rw [if_pos (l7 s hs j g)]; exact hc.cb s hs j g
  ·rw [if_pos (l5 j (.inr (.inr hj)))]; exact hc.cy j (.inr (.inr hj))
 ·rcases h5 v hv with g | ⟨g, e⟩
  ·rw [if_pos (l6 v g)]; exact hc.cx v g
  ·rw [if_neg (by omega)]; exact e
 ·rw [if_pos (l7 s (h6 s hs) j hj)]; exact hc.cb s (h6 s hs) j hj
theorem PW.new (h : PW w0 r k f tr ep top b4 t ⟨sa, la, sp, lp, css, si, li, X, B⟩ w) (vs : List Value) (T : TypeId) {K : Nat -> World -> Prop} (hK : ∀ r9 w', PW w0 r k f tr ep top b4 t ⟨sa, la, sp, lp, css, si, li, (r9, vs) :: X, B⟩ w' -> K r9 w') : aC w (.cells ⟨vs⟩ T) K := by
 refine au (fun r9 w' hr hb k9 hs => hK r9 w' ?_)
 obtain ⟨c, hc⟩ := h.c
 obtain ⟨s1, s2, s3, s4, s5, s6, s7, s8, _, s9⟩ := h.stay (n := 7) hc k9 (fun _ h => h.elim)
 obtain ⟨g1, g2, g3, g4, g5, g6⟩ := h.g
 have z0 := h.e.size
 refine ⟨s1 (by decide), s2 (by decide) (by decide), s3 (by decide), s4 (by decide) (by decide), s5 (by decide), s6 (by decide), s7, fun v hv => ?_, s9 (by decide), ⟨_, h.mkC (z' := ⟨sa, la, sp, lp, css, si, li, (r9, vs) :: X, B⟩) hc (if vs = [] then 6 else 5) (fun j hj => .inl hj) (fun j hj => .inl hj) (fun j hj => .inl hj) (fun j hj => .inl hj) (fun v hv => ?_) (fun s hs => hs)⟩,
  h.e.trans k9 (fun _ h => h) (fun _ h => h.elim), g1, g2, g3, g4, fun v hv => ?_, g6⟩
 ·rcases List.mem_cons.1 hv with rfl | hv
  ·exact ⟨T, hb⟩
  ·exact s8 (by decide) (by decide) v hv
 ·rcases List.mem_cons.1 hv with rfl | hv
  ·exact .inr ⟨by show w.heap.size <= r9; omega, rfl⟩
  ·exact .inl hv
 ·rcases List.mem_cons.1 hv with rfl | hv
  ·show _ <= r9; omega
  ·exact g5 v hv
theorem PW.xl (h : PW w0 r k f tr ep top b4 t ⟨sa, la, sp, lp, css, si, li, X, B⟩ w) {a : Int} {r9 : Nat} (hx : (r9, [Value.int .i64 a]) ∈ X) (hl : la.length < 2 ^ 30) {E : TypeId} {K : Slc -> World -> Prop} (hK : ∀ s' w', PW w0 r k f tr ep top b4 t ⟨s', la ++ [a], sp, lp, css, si, li, X, B⟩ w' -> K s' w') :
  aj 1 E [Value.int .i64 0] w sa (.slc ⟨some ⟨r9, 0, none⟩, 1, 1⟩) K := by
 obtain ⟨T, hb⟩ := h.x _ hx
 obtain ⟨c, hc⟩ := h.c
 refine Rows.snoc (cs := rh a) (x := a) (z := [.int .i64 0]) h.a rfl rfl (fun k hk => (kS hk).elim) hb (.inl (by simp)) hl (fun s' w' q1 q2 q3 => hK s' w' ?_)
 obtain ⟨s1, s2, s3, s4, s5, s6, s7, s8, _, s9⟩ := h.stay (n := 2) hc q2 (fun j hj => hc.ca j hj)
 obtain ⟨g1, g2, g3, g4, g5, g6⟩ := h.g
 have z0 := h.e.size
 refine ⟨s1 (by decide), s2 (by decide) (by decide), bf.of (by simpa using q1), s4 (by decide) (by decide), s5 (by decide), s6 (by decide), s7, s8 (by decide) (by decide), s9 (by decide), ⟨_, h.mkC (z' := ⟨s', la ++ [a], sp, lp, css, si, li, X, B⟩) hc 2 (fun j hj => (q3 j hj).imp (fun h => h) (fun h => ⟨h, rfl⟩)) (fun j hj => .inl hj) (fun j hj => .inl hj) (fun j hj => .inl hj) (fun v hv => .inl hv) (fun s hs => hs)⟩,
  h.e.trans q2 (fun _ h => h) (fun j hj => (g1 j hj).elim (fun g => .inl (.inr (.inr (.inl g)))) .inr), fun j hj => (q3 j hj).elim (g1 j) (fun h => .inr (by omega)), g2, g3, g4, g5, g6⟩
theorem PW.mm (h : PW w0 r k f tr ep top b4 t ⟨sa, la, sp, lp, css, si, li, X, B⟩ w) {a : Int} {r9 : Nat} (hx : (r9, [Value.int .i64 a]) ∈ X) (hl : li.length < 2 ^ 30) {E : TypeId} {K : Slc -> World -> Prop} (hK : ∀ s' w', PW w0 r k f tr ep top b4 t ⟨sa, la, sp, lp, css, s', li ++ [a], X, B⟩ w' -> K s' w') :
  aj 1 E [Value.int .i64 0] w si (.slc ⟨some ⟨r9, 0, none⟩, 1, 1⟩) K := by
 obtain ⟨T, hb⟩ := h.x _ hx
 obtain ⟨c, hc⟩ := h.c
 refine Rows.snoc (cs := rh a) (x := a) (z := [.int .i64 0]) h.i rfl rfl (fun k hk => (kS hk).elim) hb (.inl (by simp)) hl (fun s' w' q1 q2 q3 => hK s' w' ?_)
 obtain ⟨s1, s2, s3, s4, s5, s6, s7, s8, _, s9⟩ := h.stay (n := 4) hc q2 (fun j hj => hc.ci j hj)
 obtain ⟨g1, g2, g3, g4, g5, g6⟩ := h.g
 have z0 := h.e.size
 refine ⟨s1 (by decide), s2 (by decide) (by decide), s3 (by decide), s4 (by decide) (by decide), bf.of (by simpa using q1), s6 (by decide), s7, s8 (by decide) (by decide), s9 (by decide), ⟨_, h.mkC (z' := ⟨sa, la, sp, lp, css, s', li ++ [a], X, B⟩) hc 4 (fun j hj => .inl hj) (fun j hj => .inl hj) (fun j hj => (q3 j hj).imp (fun h => h) (fun h => ⟨h, rfl⟩)) (fun j hj => .inl hj) (fun v hv => .inl hv) (fun s hs => hs)⟩,
  h.e.trans q2 (fun _ h => h) (fun j hj => (g3 j hj).elim (fun g => .inl (.inr (.inr (.inr (.inr g))))) .inr), g1, g2, fun j hj => (q3 j hj).elim (g3 j) (fun h => .inr (by omega)), g4, g5, g6⟩
theorem PW.mn (h : PW w0 r k f tr ep top b4 t ⟨sa, la, sp, lp, css, si, li, X, B⟩ w) {s9 : Slc} {r9 : Nat} (hx : (r9, [s9.v]) ∈ X) (hB : s9 ∈ B) (hl : lp.length < 2 ^ 30) {E : TypeId} {K : Slc -> World -> Prop} (hK : ∀ s' w', PW w0 r k f tr ep top b4 t ⟨sa, la, s', lp ++ [t], css ++ [[s9.v]], si, li, X, B⟩ w' -> K s' w') :
  aj 1 E [(⟨none, 0, 0⟩ : Slc).v] w sp (.slc ⟨some ⟨r9, 0, none⟩, 1, 1⟩) K := by
 obtain ⟨T, hb⟩ := h.x _ hx
 obtain ⟨c, hc⟩ := h.c
 have fs : ∀ j, jA [s9.v] j -> ao s9 j := fun j hj => (fZ hj).2
 refine Rows.snoc (cs := [s9.v]) (x := t) (z := [(⟨none, 0, 0⟩ : Slc).v]) h.p rfl ⟨s9, rfl, (h.y s9 hB).1⟩ (fun j hj hh => ?_) hb (.inl (by simp)) hl (fun s' w' q1 q2 q3 => hK s' w' ?_)
 ·have e1 := hc.cb s9 hB j (fs j hj)
  have e2 := hc.cp j hh
  omega
 obtain ⟨s1, s2, s3, s4, s5, s6, s7, s8, _, s9'⟩ := h.stay (n := 3) hc q2 (fun j hj => hc.cp j hj)
 obtain ⟨g1, g2, g3, g4, g5, g6⟩ := h.g
 have z0 := h.e.size
 have fc : ∀ j, bD (css ++ [[s9.v]]) j -> bD css j \/ ao s9 j := by
  rintro j ⟨cs, hcs, hj⟩
  rcases List.mem_append.1 hcs with hcs | hcs
  ·exact .inl ⟨cs, hcs, hj⟩
  ·rw [List.mem_singleton] at hcs; subst hcs; exact .inr (fs j hj)
 refine ⟨s1 (by decide), s2 (by decide) (by decide), s3 (by decide), q1, s5 (by decide), s6 (by decide), s7, s8 (by decide) (by decide), s9' (by decide), ⟨_, h.mkC (z' := ⟨sa, la, s', lp ++ [t], css ++ [[s9.v]], si, li, X, B⟩) hc 3 (fun j hj => .inl hj) (fun j hj => (q3 j hj).imp (fun h => h) (fun h => ⟨h, rfl⟩)) (fun j hj => .inl hj) (fun j hj => (fc j hj).imp (fun h => h) (fun h => ⟨s9, hB, h⟩)) (fun v hv => .inl hv) (fun s hs => hs)⟩,
  h.e.trans q2 (fun _ h => h) (fun j hj => (g2 j hj).elim (fun g => .inl (.inr (.inr (.inr (.inl g))))) .inr), g1, fun j hj => (q3 j hj).elim (g2 j) (fun h => .inr (by omega)), g3, fun j hj => (fc j hj).elim (g4 j) (fun h => .inr (g6 s9 hB j h)), g5, g6⟩
theorem PW.rA (h : PW w0 r k f tr ep top b4 t ⟨sa, la, sp, lp, css, si, li, X, B⟩ w) {r9 : Nat} (hx : (r9, []) ∈ X) (hl : t.length <= 2 ^ 20) {E : TypeId} {K : Slc -> World -> Prop} (hK : ∀ s' w', PW w0 r k f tr ep top b4 t ⟨sa, la, sp, lp, css, si, li, X.filter (fun v => !v.2.isEmpty), s' :: B⟩ w' -> K s' w') :
  aj 1 E [Value.int .u8 0] w ⟨some ⟨r9, 0, none⟩, 0, 0⟩ (.slc b4) K := by
 obtain ⟨T, hb⟩ := h.x _ hx
 obtain ⟨c, hc⟩ := h.c
 have hbl := h.b.1
 have how : Own w ⟨some ⟨r9, 0, none⟩, 0, 0⟩ 1 [] := Own.new (sz := 1) (n := 0) hb (.inl (by simp)) rfl
 have hc9 : c r9 = 6 := hc.cx _ hx
 refine ef how (by omega) rfl (aO h.b) (ko t) (by simp only [Src.n]; omega) (fun s' w' q1 q2 q3 _ => hK s' w' ?_)
 have o9 : ∀ j, ao (⟨some ⟨r9, 0, none⟩, 0, 0⟩ : Slc) j -> j = r9 := by rintro j ⟨a, ha, rfl⟩; cases ha; rfl
 obtain ⟨s1, s2, s3, s4, s5, s6, s7, _, s8, s9⟩ := h.stay (n := 6) hc q2 (fun j hj => by rw [o9 j hj]; exact hc9)
 obtain ⟨g1, g2, g3, g4, g5, g6⟩ := h.g
 obtain ⟨l0, l1, l2, l3, l4, l5, l6, l7⟩ := h.lt
 have z0 := h.e.size
 have hr9 := g5 _ hx
 have hlt' : ∀ j, ao s' j -> j < w'.heap.size := gq q1
 have memX : ∀ v, v ∈ X.filter (fun v => !v.2.isEmpty) -> v ∈ X /\ v.2 ≠ [] := fun v hv => by
  obtain ⟨h1, h2⟩ := List.mem_filter.1 hv
  exact ⟨h1, by simpa using h2⟩
 refine ⟨s1 (by decide), s2 (by decide) (by decide), s3 (by decide), s4 (by decide) (by decide), s5 (by decide), s6 (by decide), s7, fun v hv => s8 (by decide) v (memX v hv).1 (memX v hv).2, fun s hs => ?_, ⟨fun j => if j < w.heap.size then (if c j = 6 then 5 else c j) else 5, ?_, fun j hj => ?_, fun j hj => ?_, fun j hj => ?_, fun j hj => ?_, fun j hj => ?_, fun v hv => ?_, fun s hs j hj => ?_⟩,
  h.e.trans q2 (fun _ h => h) (fun j hj => .inr (by rw [o9 j hj]; exact hr9)), g1, g2, g3, g4, fun v hv => g5 v (memX v hv).1, fun s hs j hj => ?_⟩
 ·rcases List.mem_cons.1 hs with rfl | hs
  ·exact ⟨Own.bytes (by simpa using q1), hlt'⟩
  ·exact s9 (by decide) s hs
 ·have := hc.cr
  rw [if_pos l0, if_neg (by omega)]; exact this
 ·have := hc.cf j hj
  rw [if_pos (l1 j hj), if_neg (by omega)]; exact this
 ·have := hc.ca j hj
  rw [if_pos (l2 j hj), if_neg (by omega)]; exact this
 ·have := hc.cp j hj
  rw [if_pos (l3 j hj), if_neg (by omega)]; exact this
 ·have := hc.ci j hj
  rw [if_pos (l4 j hj), if_neg (by omega)]; exact this
 ·have := hc.cy j hj
  rw [if_pos (l5 j hj), if_neg (by omega)]; exact this
 ·obtain ⟨v1, v2⟩ := memX v hv
  have := hc.cx v v1
  rw [if_neg v2] at this ⊢
  rw [if_pos (l6 v v1), if_neg (by omega)]; exact this
 ·rcases List.mem_cons.1 hs with rfl | hs
  ·rcases q3 j hj with g | g
   ·rw [o9 j g, if_pos (l6 _ hx), if_pos hc9]
   ·rw [if_neg (by omega)]
  ·have := hc.cb s hs j hj
   rw [if_pos (l7 s hs j hj), if_neg (by omega)]; exact this
 ·rcases List.mem_cons.1 hs with rfl | hs
  ·rcases q3 j hj with g | g
   ·rw [o9 j g]; exact hr9
   ·omega
  ·exact g6 s hs j hj
def dD (r : Nat) (f f' : RuF) (w w' : World) : Prop := Ext (RuW r f) w w' /\ (∀ j, RuW r f' j -> RuW r f j \/ w.heap.size <= j) /\ ∀ j, RuY f' j -> RuY f j \/ w.heap.size <= j
theorem dD.refl (r : Nat) (f : RuF) (w : World) : dD r f f w w := ⟨Ext.refl _ _, fun j hj => .inl hj, fun j hj => .inl hj⟩
theorem dD.trans {r : Nat} {f1 f2 f3 : RuF} {a b c : World} (h1 : dD r f1 f2 a b) (h2 : dD r f2 f3 b c) : dD r f1 f3 a c :=
 ⟨h1.1.trans h2.1 (fun _ h => h) (fun j hj => h1.2.1 j hj), fun j hj => (h2.2.1 j hj).elim (h1.2.1 j) (fun h => .inr (Nat.le_trans h1.1.size h)), fun j hj => (h2.2.2 j hj).elim (h1.2.2 j) (fun h => .inr (Nat.le_trans h1.1.size h))⟩
theorem dD.af {r : Nat} {f : RuF} {w w' : World} (hk : ak w w') : dD r f f w w' := ⟨hk.mono (fun _ h => h.elim), fun j hj => .inl hj, fun j hj => .inl hj⟩
theorem PW.fin {P : List RuE} {a n : Nat} (h : PW w0 r k f tr ep top b4 t ⟨sa, (P.map fun e => (e.a : Int)) ++ [(a : Int)], sp, (P.map (·.t)) ++ [t], css, si, (P.map fun e => (e.n : Int)) ++ [(n : Int)], X, B⟩ w) (ha : a <= 2 ^ 40) {K : Value -> World -> Prop}
  (hK : ∀ w', jU w' r k { f with sa := sa, sp := sp, si := si, css := css } (P ++ [(⟨a, t, n⟩ : RuE)]) tr ep (max top ((a : Int) + 1)) -> dD r f { f with sa := sa, sp := sp, si := si, css := css } w0 w' -> K (.int .i64 0) w') :
  needSome (some (⟨r, 0, none⟩ : Addr)) fun a87 => ar w (a87.add 1) 1 /\ ∀ w88 : World, w88 = World.setCell w (a87.add 1) (Slc.v sa) ->
   needSome (some (⟨r, 0, none⟩ : Addr)) fun a89 => ar w88 (a89.add 2) 1 /\ ∀ w90 : World, w90 = World.setCell w88 (a89.add 2) (Slc.v sp) ->
   needSome (some (⟨r, 0, none⟩ : Addr)) fun a91 => ar w90 (a91.add 3) 1 /\ ∀ w92 : World, w92 = World.setCell w90 (a91.add 3) (Slc.v si) ->
   inR .i64 ((a : Int) + (1 : Int)) /\ needSome (some (⟨r, 0, none⟩ : Addr)) fun a93 => ∃ n94 : Int, World.cell? w92 (a93.add 6) = some (Value.int .i64 n94) /\
   BIf (decide (n94 < ((a : Int) + (1 : Int)))) (inR .i64 ((a : Int) + (1 : Int)) /\ needSome (some (⟨r, 0, none⟩ : Addr)) fun a95 =>
    ar w92 (a95.add 6) 1 /\ ∀ w96 : World, w96 = World.setCell w92 (a95.add 6) (Value.int .i64 ((a : Int) + (1 : Int))) -> K (Value.int .i64 (0 : Int)) w96) (K (Value.int .i64 (0 : Int)) w92) := by
 obtain ⟨c, hc⟩ := h.c
 obtain ⟨g1, g2, g3, g4, g5, g6⟩ := h.g
 obtain ⟨c1, d1⟩ := h.o.aM 1 (by simp) sa.v
 refine aa rfl ?_
 rw [add_lit]
 refine ⟨c1, fun w88 hw88 => ?_⟩
 obtain ⟨o88, e88, _⟩ := d1 w88 hw88
 obtain ⟨c2, d2⟩ := o88.aM 2 (by simp) sp.v
 refine aa rfl ?_
 rw [add_lit]
 refine ⟨c2, fun w90 hw90 => ?_⟩
 obtain ⟨o90, e90, _⟩ := d2 w90 hw90
 obtain ⟨c3, d3⟩ := o90.aM 3 (by simp) si.v
 refine aa rfl ?_
 rw [add_lit]
 refine ⟨c3, fun w92 hw92 => ?_⟩
 obtain ⟨o92, e92, _⟩ := d3 w92 hw92
 have fin : ∀ (w9 : World) (top' : Int), Ext (fun j => j = r) w w9 -> aq w9 r [aw f.rs, sa.v, sp.v, si.v, .int .i64 tr, .int .i64 ep, .int .i64 top'] -> max top ((a : Int) + 1) = top' -> K (.int .i64 0) w9 := by
  intro w9 top' x9 o9 et
  subst et
  obtain ⟨_, s2, s3, s4, s5, _⟩ := h.stay (n := 0) hc x9 (fun j hj => by rw [hj]; exact hc.cr)
  refine hK w9 ⟨o9, s2 (by decide) (by decide), by rw [List.map_append]; exact s3 (by decide), by rw [List.map_append]; exact s4 (by decide) (by decide), by rw [List.map_append]; exact s5 (by decide), c, hc.cr, hc.cf, hc.ca, hc.cp, hc.ci, fun j hj => hc.cy j (hj.imp (fun h => h) .inl)⟩ ⟨h.e.trans x9 (fun _ h => h) (fun j hj => .inl (.inl hj)), ?_, ?_⟩
  ·rintro j (hj | hj | hj | hj | hj)
   ·exact .inl (.inl hj)
   ·exact .inl (.inr (.inl hj))
   ·exact (g1 j hj).imp (fun h => .inr (.inr (.inl h))) (fun h => h)
   ·exact (g2 j hj).imp (fun h => .inr (.inr (.inr (.inl h)))) (fun h => h)
   ·exact (g3 j hj).imp (fun h => .inr (.inr (.inr (.inr h)))) (fun h => h)
  ·rintro j (hj | hj)
   ·exact .inl (.inl hj)
   ·exact (g4 j hj).imp .inr (fun h => h)
 have x92 : Ext (fun j => j = r) w w92 := (e88.trans e90 (fun _ h => h) (fun _ h => .inl h)).trans e92 (fun _ h => h) (fun _ h => .inl h)
 refine ⟨aA (by omega), aa rfl ⟨_, by rw [add_lit]; exact o92.cell 6 (by simp), ae (fun h0 => ⟨aA (by omega), aa rfl ?_⟩) (fun h0 => fin w92 top x92 o92 (by omega))⟩⟩
 obtain ⟨c6, d6⟩ := o92.aM 6 (by simp) (.int .i64 ((a : Int) + 1))
 rw [add_lit]
 refine ⟨c6, fun w96 hw96 => ?_⟩
 obtain ⟨o96, e96, _⟩ := d6 w96 hw96
 exact fin w96 _ (x92.trans e96 (fun _ h => h) (fun _ h => .inl h)) o96 (by omega)
end
end Go.D
namespace Go.D
open Go
structure iu (P : List RuE) (top : Int) (s : UnS) : Prop where
 ok : ∀ e ∈ P, e.a < 4096 /\ e.t.length <= 2048
 fd : ∀ a : Nat, s.tr <= a -> (P.find? (fun e => decide ((e.a : Int) = (a : Int)))).map (·.t) = cV (pgU s.U) a
 t : 0 <= top /\ max top (s.tr : Int) = s.T
 nn : ∀ e ∈ P, e.n < cm (sU s.U)
 ins : ∀ g ∈ s.U, ∀ a : Nat, (∃ e ∈ P, e.n = g.num /\ e.a = a) ↔ ∃ y ∈ pagesOf g.rs, y.1 = a
theorem Cl (P : List RuE) (a : Int) : (P.findIdx? (fun e => decide ((e.a : Int) = a)) = none /\ P.find? (fun e => decide ((e.a : Int) = a)) = none) \/ ∃ (i : Nat) (hi : i < P.length), P.findIdx? (fun e => decide ((e.a : Int) = a)) = some i /\ P.find? (fun e => decide ((e.a : Int) = a)) = some P[i] := by
 cases h : P.findIdx? (fun e => decide ((e.a : Int) = a)) with
 | none =>
  refine .inl ⟨rfl, List.find?_eq_none.2 (fun x hx => ?_)⟩
  have := List.findIdx?_eq_none_iff.1 h x hx
  simpa using this
 | some i =>
  obtain ⟨hi, h1, h2⟩ := List.findIdx?_eq_some_iff_getElem.1 h
  refine .inr ⟨i, hi, rfl, ?_⟩
  rw [List.find?_eq_some_iff_getElem]
  exact ⟨h1, i, hi, rfl, fun j hj => by simpa using h2 j hj⟩
section
variable {P : List RuE} {top : Int} {s : UnS}
theorem iu.get (h : iu P top s) (a : Nat) : (uQ P s.tr a = -1 /\ pgM s.U s.tr (a : Int) = none) \/ ∃ (i : Nat) (hi : i < P.length), uQ P s.tr a = i /\ pgM s.U s.tr (a : Int) = some P[i].t := by
 unfold uQ pgM
 by_cases e : (a : Int) < (s.tr : Int)
 ·rw [if_pos e, if_pos e]; exact .inl ⟨rfl, rfl⟩
 ·rw [if_neg e, if_neg e, Int.toNat_natCast, <- h.fd a (by omega)]
  rcases Cl P (a : Int) with ⟨h1, h2⟩ | ⟨i, hi, h1, h2⟩
  ·rw [h1, h2]; exact .inl ⟨rfl, rfl⟩
  ·rw [h1, h2]; exact .inr ⟨i, hi, rfl, rfl⟩
theorem iu.has (h : iu P top s) (a : Nat) : decide (0 <= uQ P s.tr (a : Int)) = (pgM s.U s.tr (a : Int)).isSome := by
 rcases h.get a with ⟨h1, h2⟩ | ⟨i, hi, h1, h2⟩
 ·rw [h1, h2]; rfl
 ·rw [h1, h2]; simp
theorem xm (U : List aQ) (g : aQ) : cm (sU (U ++ [g])) = g.num + 1 := by
 have e : sU (U ++ [g]) = sU U ++ [g.s] := by simp
 unfold cm
 rw [e, kU]
 show ((g.num : Int) + 1).toNat = _
 omega
theorem yF {k n : Nat} {U V : List aQ} {x : Rc} (ha : appU k U x = some (n, V)) (hso : U.Pairwise fun g h => g.num < h.num) : ∃ M g, V = M ++ [{ g with rs := g.rs ++ [x] }] /\ g.num = n /\ (∀ y ∈ M, y ∈ U /\ y.num < n) /\ (g ∈ U \/ g.rs = [] /\ n = cm (sU U)) /\ cm (sU V) = n + 1 /\ cm (sU U) <= n + 1 := by
 obtain ⟨h1, h2, M, g, rfl, hM⟩ := gm ha
 have hn : g.num = n := by simpa using h2
 have hV : cm (sU (M ++ [{ g with rs := g.rs ++ [x] }])) = n + 1 := by rw [xm]; show g.num + 1 = _; omega
 refine ⟨M, g, rfl, hn, fun y hy => ?_, ?_, hV, ?_⟩
 ·rcases hM with rfl | ⟨p, _, rfl, rfl⟩
  ·refine ⟨by simp [hy], ?_⟩
   have := (List.pairwise_append.1 hso).2.2 y hy g (by simp); omega
  ·refine ⟨hy, ?_⟩
   have h3 : cm (sU M) = n := hn
   rw [<- h3]
   exact pH (L := sU M) (by rw [List.pairwise_map]; exact hso) y.s (List.mem_map.2 ⟨y, hy, rfl⟩)
 ·rcases hM with rfl | ⟨p, _, rfl, rfl⟩
  ·exact .inl (by simp)
  ·exact .inr ⟨rfl, hn.symm⟩
 ·rcases hM with rfl | ⟨p, _, rfl, rfl⟩
  ·rw [xm]; omega
  ·have h3 : cm (sU M) = n := hn
   omega
theorem iu.write (h : iu P top s) {k n a : Nat} {V : List aQ} {t : List UInt8} (ha : appU k s.U (.dm a t) = some (n, V)) (hso : s.U.Pairwise fun g h => g.num < h.num) (h1 : s.tr <= a) (h4 : a < 4096) (hn : pgM s.U s.tr (a : Int) = none) (ht : t.length <= 2048) :
  iu (P ++ [⟨a, t, n⟩]) (max top ((a : Int) + 1)) ⟨V, s.tr, s.ep, max s.T (a + 1)⟩ := by
 have hal := qa (gm ha).1
 have hpg : pgU V = pgU s.U ++ [(a, t)] := by unfold pgU; rw [hal, aS]; rfl
 have hn' : cV (pgU s.U) a = none := by
  unfold pgM at hn
  rw [if_neg (by omega)] at hn
  exact hn
 have htt := h.t
 obtain ⟨M, g, hV, hgn, hM, hg, hx1, hx2⟩ := yF ha hso
 refine ⟨fun e he => ?_, fun b hb => ?_, ⟨by omega, by show max (max top ((a : Int) + 1)) (s.tr : Int) = ((max s.T (a + 1) : Nat) : Int); omega⟩, fun e he => ?_, fun y hy b => ?_⟩
 ·rcases List.mem_append.1 he with he | he
  ·exact h.ok e he
  ·rw [List.mem_singleton] at he; subst he; exact ⟨h4, ht⟩
 ·show _ = cV (pgU V) b
  have hb' : s.tr <= b := hb
  have h0 := h.fd b hb'
  rw [hpg, lP, List.find?_append]
  by_cases e : a = b
  ·subst e
   rw [hn'] at h0 ⊢
   have h9 : P.find? (fun e => decide ((e.a : Int) = (a : Int))) = none := by simpa using h0
   rw [h9]; simp
  ·rw [<- h0]
   cases P.find? (fun e => decide ((e.a : Int) = (b : Int))) with
   | some y => rfl
   | none =>
    have h8 : ¬ ((a : Int) = (b : Int)) := by omega
    simp [List.find?_cons, h8, e]
 ·show e.n < cm (sU V)
  rw [hx1]
  rcases List.mem_append.1 he with he | he
  ·have := h.nn e he; omega
  ·rw [List.mem_singleton] at he; subst he
   show n < n + 1; omega
 ·have hy' : y ∈ V := hy
  rw [hV] at hy'
  rcases List.mem_append.1 hy' with hy | hy
  ·have hyn := (hM y hy).2
   rw [<- h.ins y (hM y hy).1 b]
   constructor
   ·rintro ⟨e, he, e1, e2⟩
    rcases List.mem_append.1 he with he | he
    ·exact ⟨e, he, e1, e2⟩
    ·rw [List.mem_singleton] at he; subst he
     exact absurd (show n = y.num from e1) (by omega)
   ·rintro ⟨e, he, e1, e2⟩
    exact ⟨e, by simp [he], e1, e2⟩
  ·rw [List.mem_singleton] at hy; subst hy
   simp only
   have hold : (∃ e ∈ P, e.n = g.num /\ e.a = b) ↔ ∃ y ∈ pagesOf g.rs, y.1 = b := by
    rcases hg with hg | ⟨hg1, hg2⟩
    ·exact h.ins g hg b
    ·rw [hg1]
     constructor
     ·rintro ⟨e, he, e1, e2⟩
      have := h.nn e he
      omega
     ·rintro ⟨y, hy, _⟩; simp [pagesOf] at hy
   rw [aS]
   constructor
   ·rintro ⟨e, he, e1, e2⟩
    rcases List.mem_append.1 he with he | he
    ·obtain ⟨y, hy, e3⟩ := hold.1 ⟨e, he, e1, e2⟩
     exact ⟨y, by simp [hy], e3⟩
    ·rw [List.mem_singleton] at he; subst he
     exact ⟨(a, t), by simp [pagesOf], e2⟩
   ·rintro ⟨y, hy, e3⟩
    rcases List.mem_append.1 hy with hy | hy
    ·obtain ⟨e, he, e1, e2⟩ := hold.2 ⟨y, hy, e3⟩
     exact ⟨e, by simp [he], e1, e2⟩
    ·simp [pagesOf] at hy; subst hy
     exact ⟨⟨a, t, n⟩, by simp, hgn.symm, e3⟩
theorem iu.note (h : iu P top s) {k n tr ep T : Nat} {V : List aQ} {x : Rc} (ha : appU k s.U x = some (n, V)) (hso : s.U.Pairwise fun g h => g.num < h.num) (hx : ∀ a t, x ≠ .dm a t) (htr : s.tr <= tr) (hT : max top (tr : Int) = (T : Int)) :
  iu P top ⟨V, tr, ep, T⟩ := by
 have hal := qa (gm ha).1
 have hp0 : pagesOf [x] = [] := by
  cases x with
  | dm a t => exact absurd rfl (hx a t)
  | trim t e => rfl
  | shut e => rfl
 have hpg : pgU V = pgU s.U := by unfold pgU; rw [hal, aS, hp0, List.append_nil]
 obtain ⟨M, g, hV, hgn, hM, hg, hx1, hx2⟩ := yF ha hso
 refine ⟨h.ok, fun b hb => ?_, ⟨h.t.1, hT⟩, fun e he => ?_, fun y hy b => ?_⟩
 ·show _ = cV (pgU V) b
  have hb' : tr <= b := hb
  rw [hpg]
  exact h.fd b (by omega)
 ·show e.n < cm (sU V)
  have := h.nn e he; omega
 ·have hy' : y ∈ V := hy
  rw [hV] at hy'
  rcases List.mem_append.1 hy' with hy | hy
  ·exact h.ins y (hM y hy).1 b
  ·rw [List.mem_singleton] at hy; subst hy
   simp only
   rw [aS, hp0, List.append_nil]
   rcases hg with hg | ⟨hg1, hg2⟩
   ·exact h.ins g hg b
   ·rw [hg1]
    constructor
    ·rintro ⟨e, he, e1, e2⟩
     have := h.nn e he
     omega
    ·rintro ⟨y, hy, _⟩; simp [pagesOf] at hy
theorem Cm (g h : aQ) (t : List aQ) : cm (sU (g :: h :: t)) = cm (sU (h :: t)) := by
 unfold cm lastN
 simp [List.getLast?_cons_cons]
theorem iu.drop {g h' : aQ} {t : List aQ} {tr ep T : Nat} (h : iu P top ⟨g :: h' :: t, tr, ep, T⟩) (hp : ∀ a, tr <= a -> cV (pgU (h' :: t)) a = cV (pgU (g :: h' :: t)) a) : iu P top ⟨h' :: t, tr, ep, T⟩ :=
 ⟨h.ok, fun b hb => by rw [h.fd b hb, hp b hb], h.t, fun e he => by have := h.nn e he; rw [Cm] at this; exact this, fun y hy b => h.ins y (List.mem_cons_of_mem _ hy) b⟩
theorem iu.all {g : aQ} {U : List aQ} {tr ep T : Nat} (h : iu P top ⟨g :: U, tr, ep, T⟩) (to : Nat) : (pagesOf g.rs).all (fun y => decide (y.1 < to)) = P.all fun e => decide (e.n = g.num -> e.a < to) := by
 rw [Bool.eq_iff_iff, List.all_eq_true, List.all_eq_true]
 constructor
 ·intro h1 e he
  rw [decide_eq_true_eq]
  intro e1
  obtain ⟨y, hy, e2⟩ := (h.ins g (by simp) e.a).1 ⟨e, he, e1, rfl⟩
  have := h1 y hy
  rw [decide_eq_true_eq] at this
  omega
 ·intro h1 y hy
  obtain ⟨e, he, e1, e2⟩ := (h.ins g (by simp) y.1).2 ⟨y, hy, rfl⟩
  have := h1 e he
  rw [decide_eq_true_eq] at this ⊢
  have := this e1
  omega
theorem iu.nil : iu [] 0 ⟨[], 0, 0, 0⟩ := ⟨by simp, fun a _ => rfl, by simp, by simp, by simp⟩
end
end Go.D
set_option maxRecDepth 4000
namespace Go.D
open Go Go.Proofs
theorem vj : ∀ {l : List Nat} {n : Nat}, n ∈ l -> n <= l.sum
 | [], n, h => by simp at h
 | x :: l, n, h => by
  rw [List.sum_cons]
  rcases List.mem_cons.1 h with rfl | h
  ·omega
  ·have := vj h; omega
structure UOk (k m : Nat) (s : UnS) : Prop where
 o : g9 s.U s.tr s.ep s.T
 so : s.U.Pairwise fun g h => g.num < h.num
 N : ∀ g ∈ sU s.U, g.num < m
 sm : ∀ g ∈ sU s.U, sumN g.bL <= 64
 l : s.U.length <= 20
 k : k <= 2 ^ 20
 t : s.T <= 4096 /\ s.ep <= 2 ^ 30
theorem UAt.ok {w : World} {n0 r rd m : Nat} {f : UnF} {d : aU} {s : UnS} (h : UAt w n0 r rd f d s m) : UOk (d.n / 64) m s := by
 have hl := h.S.len
 have hk := h.S.k
 have e : (sU s.U).length = s.U.length := by simp
 refine ⟨h.O, jL (R := fun a b => a < b) h.S.I.so, h.S.N, fun g hg => ?_, by omega, by omega, h.T⟩
 have hf := (h.S.I.on g hg).fin
 unfold aL.fin at hf
 omega
structure RuS (w : World) (r k : Nat) (f : RuF) (P : List RuE) (top : Int) (s : UnS) : Prop where
 A : jU w r k f P s.tr s.ep top
 z : gL f.zs = sU s.U
 K : iu P top s
theorem RuS.af {w w' : World} {r k : Nat} {f : RuF} {P : List RuE} {top : Int} {s : UnS} (h : RuS w r k f P top s) (he : ak w w') : RuS w' r k f P top s := ⟨h.A.af he, h.z, h.K⟩
theorem Hb {zs : List Rz} {k m : Nat} {s : UnS} (hz : gL zs = sU s.U) (hu : UOk k m s) (hm : m <= 2 ^ 59) : Ha zs := by
 have hl := hu.l
 have e : zs.length = s.U.length := by
  have := congrArg List.length hz
  simpa using this
 have mem : ∀ z ∈ zs, z.g ∈ sU s.U := fun z h => by rw [<- hz]; exact List.mem_map.2 ⟨z, h, rfl⟩
 exact ⟨by omega, fun z h => by have := hu.N _ (mem z h); omega, fun z h => by have := hu.sm _ (mem z h); omega⟩
section
variable {w w' : World} {r k m : Nat} {f : RuF} {P : List RuE} {top : Int} {s : UnS}
theorem dD.store {sl' : Slc} {zs' : List Rz} (ht : mV f.rs f.sl sl' f.zs zs' w w') : dD r f { f with sl := sl', zs := zs' } w w' := by
 obtain ⟨t1, t2, t3⟩ := ht
 refine ⟨t1.mono (fun j hj => .inr (.inl hj)), ?_, ?_⟩
 ·rintro j (hj | hj | hj | hj | hj)
  ·exact .inl (.inl hj)
  ·exact (t2 j hj).imp (fun h => .inr (.inl h)) (fun h => h)
  ·exact .inl (.inr (.inr (.inl hj)))
  ·exact .inl (.inr (.inr (.inr (.inl hj))))
  ·exact .inl (.inr (.inr (.inr (.inr hj))))
 ·rintro j (hj | hj)
  ·exact (t3 j hj).imp .inl (fun h => h)
  ·exact .inl (.inr hj)
theorem nT (h : RuS w r k f P top s) (hu : UOk k m s) (hm : m <= 2 ^ 59) (x : Rc) (hx : okR x) (sl : Slc) (hb : ag w sl (encR x)) (hs : ∀ j, ao sl j -> ¬ RuW r f j) :
  Calls Tryz.prog aY ⟨[aw f.rs, sl.v]⟩ w fun e w' => (appU k s.U x = none /\ (∃ n : Int, e = .returned (.tuple ⟨[.int .i64 n, .int .i64 13]⟩)) /\ ∃ sl' zs', RuS w' r k { f with sl := sl', zs := zs' } P top s /\ dD r f { f with sl := sl', zs := zs' } w w') \/
   (∃ n V, appU k s.U x = some (n, V) /\ e = .returned (.tuple ⟨[.int .i64 (n : Int), .int .i64 0]⟩) /\ ∃ sl' zs', gL zs' = sU V /\ jU w' r k { f with sl := sl', zs := zs' } P s.tr s.ep top /\ dD r f { f with sl := sl', zs := zs' } w w') := by
 have hel := kV hx
 refine (vb h.A.R (Hb h.z hu hm) hu.k sl (encR x) hb (by omega) (fun _ j hj hh => hs j hj (.inr (.inl hh)))).mono ?_
 rintro e w2 ⟨rfl, sl', zs', hg, hR, ht⟩
 have hok := CP (k := k) (U := s.U) hx
 rw [h.z, hok] at hg ⊢
 have hA := h.A.store hR ht
 cases ha : appU k s.U x with
 | none =>
  rw [ha] at hg
  exact .inl ⟨rfl, ⟨_, rfl⟩, sl', zs', ⟨hA, hg, h.K⟩, dD.store ht⟩
 | some p =>
  obtain ⟨n, V⟩ := p
  rw [ha] at hg
  exact .inr ⟨n, V, rfl, rfl, sl', zs', hg, hA, dD.store ht⟩
theorem Bm {K : Value -> World -> Prop} (h : RuS w r k f P top s) (hu : UOk k m s) (hm : m <= 2 ^ 59) (hP : P.length < 2 ^ 20) (epoch a : Int) (b4 : Slc) (t : List UInt8) (hb : ag w b4 t) (ht : t.length <= 2 ^ 20) (hs : ∀ j, ao b4 j -> ¬ RuW r f j)
  (hK : ∀ w' f' P' top', RuS w' r k f' P' top' (writeP k s epoch a t).2 -> P'.length <= P.length + 1 -> dD r f f' w w' -> K (.int .i64 (eN (writeP k s epoch a t).1)) w') : dZ (some ⟨r, 0, none⟩) epoch a b4 w K := by
 unfold dZ
 have hbl := hb.1
 refine (kZ h.A epoch a 4095).mono ?_
 rintro e w6 ⟨rfl, rfl⟩
 unfold writeP at hK
 cases hc : eV s.ep epoch a 4095 with
 | some c =>
  rw [hc] at hK
  have : eN (some c) ≠ 0 := by show ((c + 1 : Nat) : Int) ≠ 0; omega
  exact ⟨_, rfl, av (fun _ => hK w6 f P top h (by omega) (dD.refl _ _ _)) (fun hh => by simp [this] at hh)⟩
 | none =>
  rw [hc] at hK
  simp only at hK
  have ha : 0 <= a /\ a <= 4095 := by
   unfold eV at hc
   split at hc
   ·cases hc
   ·split at hc
    ·cases hc
    ·omega
  obtain ⟨an, rfl⟩ : ∃ an : Nat, a = an := ⟨a.toNat, by omega⟩
  refine ⟨_, rfl, av (fun hh => by simp [eN] at hh) (fun _ => ⟨fun w2 => ¬ (t.length = 0 \/ 2048 < t.length) /\ w2 = w6, ae (fun h0 => ?_) (fun h0 => ae (fun h1 => ?_) (fun h1 => ⟨by omega, rfl⟩)), ?_⟩)⟩
  ·rw [if_pos (by omega)] at hK
   exact hK w6 f P top h (by omega) (dD.refl _ _ _)
  ·rw [if_pos (by omega)] at hK
   exact hK w6 f P top h (by omega) (dD.refl _ _ _)
  rintro w9 ⟨h0, rfl⟩
  intros
  rw [if_neg h0] at hK
  refine aa rfl ⟨_, h.A.cs.2.2.2.2.1, ae (fun h1 => ?_) (fun h1 => ?_)⟩
  ·rw [if_pos h1] at hK
   exact hK w9 f P top h (by omega) (dD.refl _ _ _)
  rw [if_neg h1] at hK
  refine (zF h.A (by omega) (an : Int)).mono ?_
  rintro e w22 ⟨rfl, rfl⟩
  rw [h.K.has an]
  refine ⟨_, rfl, av (fun h2 => ?_) (fun h2 => ?_)⟩
  ·rw [if_pos h2] at hK
   exact hK w22 f P top h (by omega) (dD.refl _ _ _)
  have hpn : pgM s.U s.tr (an : Int) = none := by simpa using h2
  rw [if_neg (by rw [h2]; decide), Int.toNat_natCast] at hK
  have hok : okR (.dm an t) := ⟨by omega, by omega, by omega⟩
  have kd : ak w22 (World.drew w22) := Ext.drew _ _
  have lt := h.A.lt
  have cell0 : ∀ {w3}, ak w22 w3 -> World.cell? w3 (⟨r, 0, none⟩ : Addr) = some (Value.pointer (some ⟨f.rs, 0, none⟩)) := fun hk => (h.A.af hk).cs.1
  have hbk : ∀ {w3}, ak w22 w3 -> ag w3 b4 t := fun hk => ai hb hk
  refine aa rfl ⟨_, cell0 kd, t, hbk kd, (cq 1 _ (by omega)).mono ?_⟩
  rintro e w28 ⟨s29, rfl, o29, f29, k29⟩
  have k28 := kd.trans k29
  refine ⟨s29, rfl, ⟨t, hbk k28, rfl⟩, ⟨_, cell0 k28, rfl⟩, (cq an _ (by omega)).mono ?_⟩
  rintro e w33 ⟨s34, rfl, o34, f34, k34⟩
  have k33 := k28.trans k34
  refine ⟨s34, rfl, ⟨t, hbk k33, rfl⟩, ⟨_, cell0 k33, rfl⟩, (oD t _ ht).mono ?_⟩
  rintro e w38 ⟨s39, rfl, o39, f39, k39⟩
  have k38 := k33.trans k39
  refine ⟨s39, rfl, ⟨_, cell0 k38, rfl⟩, au (fun r41 w42 hr41 hb41 k42 hs42 => ⟨⟨_, cell0 (k38.trans k42), rfl⟩, ?_⟩)⟩
  have k42' := k38.trans k42
  have o29' := (o29.af (k34.trans k39)).af k42
  have o34' := (o34.af k39).af k42
  have o39' := o39.af k42
  have z42 := k42.size
  have b29 : ∀ j, ao s29 j -> j < w38.heap.size := gq (o29.af (k34.trans k39))
  have b34 : ∀ j, ao s34 j -> j < w38.heap.size := gq (o34.af k39)
  have b39 : ∀ j, ao s39 j -> j < w38.heap.size := gq o39
  have hrows := xk (w := w42) [s29, s34, s39] [aT 1, aT an, aT t.length ++ t] hb41 rfl (fun i h h' => by
   match i, h with
   | 0, _ => exact o29'.bytes
   | 1, _ => exact o34'.bytes
   | 2, _ => exact o39'.bytes) (fun x hx j hj => by
   simp only [List.mem_cons, List.not_mem_nil, or_false] at hx
   rcases hx with rfl | rfl | rfl
   ·have := b29 j hj; omega
   ·have := b34 j hj; omega
   ·have := b39 j hj; omega)
  have hl1 := o29.1
  have hl2 := o34.1
  have hl3 := o39.1
  have hel := kV hok
  have henc : [aT 1, aT an, aT t.length ++ t].flatten = encR (.dm an t) := by simp [encR, nL, sO]
  have hlens : ∀ b ∈ [aT 1, aT an, aT t.length ++ t], b.length <= 2 ^ 20 := fun b hb9 => by
   have hle : b.length <= ([aT 1, aT an, aT t.length ++ t].flatten).length := by
    rw [List.length_flatten]
    exact vj (List.mem_map.2 ⟨b, hb9, rfl⟩)
   rw [henc] at hle; omega
  refine (ub _ _ _ hrows (by simp) hlens).mono ?_
  rintro e w45 ⟨s46, rfl, o46, f46, k46⟩
  rw [henc] at o46
  have k45 := k42'.trans k46
  have h45 := h.af k45
  refine ⟨s46, rfl, ⟨_, cell0 k45, rfl⟩, (nT h45 hu hm (.dm an t) hok s46 o46.bytes (fun j hj hh => ?_)).mono ?_⟩
  ·have := f46 j hj
   have := lt.1 j hh
   have := k42'.size
   omega
  rintro e w49 (⟨ha1, ⟨n, rfl⟩, sl', zs', hS', hto⟩ | ⟨n, V, ha1, rfl, sl', zs', hg', hA', hto⟩)
  ·rw [ha1] at hK
   exact ⟨_, _, rfl, av (fun _ => hK w49 _ P top hS' (by omega) ((dD.af k45).trans hto)) (fun hh => by simp at hh)⟩
  ·rw [ha1] at hK
   simp only at hK
   refine ⟨_, _, rfl, av (fun hh => by simp at hh) (fun _ => ?_)⟩
   have kd49 : ak w49 (World.drew w49) := Ext.drew _ _
   have hA0 := hA'.af kd49
   have hts := (dD.af (r := r) (f := f) k45).trans hto
   have hb49 : ag w49 b4 t := aN hb hts.1 (fun _ j hj hh => hs j hj hh)
   have hb0 := ai hb49 kd49
   have hblt : ∀ j, ao b4 j -> j < w22.heap.size := fun j hj => cA hb (by omega) j hj
   have H0 := PW.start hA0 hb0 (by omega) (fun j hj hh => (hts.2.1 j hh).elim (fun g => hs j hj g) (fun g => by have := hblt j hj; omega))
   have hl1 : (P.map fun e => (e.a : Int)).length < 2 ^ 30 := by rw [List.length_map]; omega
   have hl2 : (P.map (·.t)).length < 2 ^ 30 := by rw [List.length_map]; omega
   have hl3 : (P.map fun e => (e.n : Int)).length < 2 ^ 30 := by rw [List.length_map]; omega
   have ht2 := ht
   have hfin : ∀ w' f', jU w' r k f' (P ++ [(⟨an, t, n⟩ : RuE)]) s.tr s.ep (max top ((an : Int) + 1)) -> gL f'.zs = sU V -> dD r { f with sl := sl', zs := zs' } f' (World.drew w49) w' -> K (.int .i64 0) w' := by
    intro w' f' hA9 hz9 ht9
    refine hK w' f' (P ++ [(⟨an, t, n⟩ : RuE)]) _ ⟨hA9, hz9, h.K.write ha1 hu.so (by omega) (by omega) hpn (by omega)⟩ (by simp) ((hts.trans (dD.af kd49)).trans ht9)
   have fin : ∀ {w2 : World} {sa sp si : Slc} {css : List (List Value)} {X : List (Nat × List Value)} {B : List Slc}, PW (World.drew w49) r k { f with sl := sl', zs := zs' } s.tr s.ep top b4 t ⟨sa, (P.map fun e => (e.a : Int)) ++ [(an : Int)], sp, (P.map (·.t)) ++ [t], css, si, (P.map fun e => (e.n : Int)) ++ [(n : Int)], X, B⟩ w2 -> _ :=
    fun H => H.fin (K := K) (by omega) (fun w' h1 h2 => hfin w' _ h1 hg' h2)
   refine aa rfl ⟨_, H0.c1, aa rfl ⟨_, H0.c2, aa rfl ⟨_, H0.c3, ?_⟩⟩⟩
   refine ⟨?_, ?_, ?_⟩
   ·refine H0.new _ _ (fun r58 w59 H59 => ?_)
    refine ⟨⟨_, H59.c3, rfl⟩, ⟨_, H59.c2, rfl⟩, ⟨_, H59.c1, rfl⟩, ?_, ?_, ?_⟩
    ·refine H59.xl (a := (an : Int)) (by simp) hl1 (fun s63 w64 H64 => ?_)
     refine ⟨⟨_, H64.c3, rfl⟩, ⟨_, H64.c2, rfl⟩, ?_, ?_⟩
     ·refine H64.new _ _ (fun r67 w68 H68 => ?_)
      refine ⟨⟨_, H68.c3, rfl⟩, ⟨_, H68.c2, rfl⟩, ?_, ?_⟩
      ·refine H68.rA (by simp) ht2 (fun s71 w72 H72 => ?_)
       refine ⟨⟨_, H72.c3, rfl⟩, ⟨_, H72.c2, rfl⟩, ?_, ?_⟩
       ·refine H72.new _ _ (fun r75 w76 H76 => ?_)
        refine ⟨⟨_, H76.c3, rfl⟩, ⟨_, H76.c2, rfl⟩, ?_, ?_⟩
        ·refine H76.mn (s9 := s71) (by simp) (by simp) hl2 (fun s79 w80 H80 => ?_)
         refine ⟨⟨_, H80.c3, rfl⟩, ?_⟩
         refine H80.new _ _ (fun r82 w83 H83 => ?_)
         refine ⟨⟨_, H83.c3, rfl⟩, ?_⟩
         refine H83.mm (a := (n : Int)) (by simp) hl3 (fun s85 w86 H86 => ?_)
         exact fin H86
        ·refine H76.new _ _ (fun r97 w98 H98 => ?_)
         refine ⟨⟨_, H98.c3, rfl⟩, ⟨_, H98.c2, rfl⟩, ?_⟩
         refine H98.mn (s9 := s71) (by simp) (by simp) hl2 (fun s101 w102 H102 => ?_)
         refine ⟨⟨_, H102.c3, rfl⟩, ?_⟩
         refine H102.mm (a := (n : Int)) (by simp) hl3 (fun s104 w105 H105 => ?_)
         exact fin H105
       ·refine H72.new _ _ (fun r116 w117 H117 => ?_)
        refine ⟨⟨_, H117.c3, rfl⟩, ⟨_, H117.c2, rfl⟩, ?_⟩
        refine H117.new _ _ (fun r120 w121 H121 => ?_)
        refine ⟨⟨_, H121.c3, rfl⟩, ⟨_, H121.c2, rfl⟩, ?_⟩
        refine H121.mn (s9 := s71) (by simp) (by simp) hl2 (fun s124 w125 H125 => ?_)
        refine ⟨⟨_, H125.c3, rfl⟩, ?_⟩
        refine H125.mm (a := (n : Int)) (by simp) hl3 (fun s127 w128 H128 => ?_)
        exact fin H128
      ·refine H68.new _ _ (fun r139 w140 H140 => ?_)
       refine ⟨⟨_, H140.c3, rfl⟩, ⟨_, H140.c2, rfl⟩, ?_⟩
       refine H140.rA (by simp) ht2 (fun s143 w144 H144 => ?_)
       refine ⟨⟨_, H144.c3, rfl⟩, ⟨_, H144.c2, rfl⟩, ?_⟩
       refine H144.new _ _ (fun r147 w148 H148 => ?_)
       refine ⟨⟨_, H148.c3, rfl⟩, ⟨_, H148.c2, rfl⟩, ?_⟩
       refine H148.mn (s9 := s143) (by simp) (by simp) hl2 (fun s151 w152 H152 => ?_)
       refine ⟨⟨_, H152.c3, rfl⟩, ?_⟩
       refine H152.mm (a := (n : Int)) (by simp) hl3 (fun s154 w155 H155 => ?_)
       exact fin H155
     ·refine H64.new _ _ (fun r166 w167 H167 => ?_)
      refine ⟨⟨_, H167.c3, rfl⟩, ⟨_, H167.c2, rfl⟩, ?_⟩
      refine H167.new _ _ (fun r170 w171 H171 => ?_)
      refine ⟨⟨_, H171.c3, rfl⟩, ⟨_, H171.c2, rfl⟩, ?_⟩
      refine H171.rA (by simp) ht2 (fun s174 w175 H175 => ?_)
      refine ⟨⟨_, H175.c3, rfl⟩, ⟨_, H175.c2, rfl⟩, ?_⟩
      refine H175.new _ _ (fun r178 w179 H179 => ?_)
      refine ⟨⟨_, H179.c3, rfl⟩, ⟨_, H179.c2, rfl⟩, ?_⟩
      refine H179.mn (s9 := s174) (by simp) (by simp) hl2 (fun s182 w183 H183 => ?_)
      refine ⟨⟨_, H183.c3, rfl⟩, ?_⟩
      refine H183.mm (a := (n : Int)) (by simp) hl3 (fun s185 w186 H186 => ?_)
      exact fin H186
    ·refine H59.new _ _ (fun r197 w198 H198 => ?_)
     refine ⟨⟨_, H198.c3, rfl⟩, ⟨_, H198.c2, rfl⟩, ⟨_, H198.c1, rfl⟩, ?_, ?_⟩
     ·refine H198.xl (a := (an : Int)) (by simp) hl1 (fun s202 w203 H203 => ?_)
      refine ⟨⟨_, H203.c3, rfl⟩, ⟨_, H203.c2, rfl⟩, ?_, ?_⟩
      ·refine H203.rA (by simp) ht2 (fun s206 w207 H207 => ?_)
       refine ⟨⟨_, H207.c3, rfl⟩, ⟨_, H207.c2, rfl⟩, ?_, ?_⟩
       ·refine H207.new _ _ (fun r210 w211 H211 => ?_)
        refine ⟨⟨_, H211.c3, rfl⟩, ⟨_, H211.c2, rfl⟩, ?_, ?_⟩
        ·refine H211.mn (s9 := s206) (by simp) (by simp) hl2 (fun s214 w215 H215 => ?_)
         refine ⟨⟨_, H215.c3, rfl⟩, ?_⟩
         refine H215.new _ _ (fun r217 w218 H218 => ?_)
         refine ⟨⟨_, H218.c3, rfl⟩, ?_⟩
         refine H218.mm (a := (n : Int)) (by simp) hl3 (fun s220 w221 H221 => ?_)
         exact fin H221
        ·refine H211.new _ _ (fun r232 w233 H233 => ?_)
         refine ⟨⟨_, H233.c3, rfl⟩, ⟨_, H233.c2, rfl⟩, ?_⟩
         refine H233.mn (s9 := s206) (by simp) (by simp) hl2 (fun s236 w237 H237 => ?_)
         refine ⟨⟨_, H237.c3, rfl⟩, ?_⟩
         refine H237.mm (a := (n : Int)) (by simp) hl3 (fun s239 w240 H240 => ?_)
         exact fin H240
       ·refine H207.new _ _ (fun r251 w252 H252 => ?_)
        refine ⟨⟨_, H252.c3, rfl⟩, ⟨_, H252.c2, rfl⟩, ?_⟩
        refine H252.new _ _ (fun r255 w256 H256 => ?_)
        refine ⟨⟨_, H256.c3, rfl⟩, ⟨_, H256.c2, rfl⟩, ?_⟩
        refine H256.mn (s9 := s206) (by simp) (by simp) hl2 (fun s259 w260 H260 => ?_)
        refine ⟨⟨_, H260.c3, rfl⟩, ?_⟩
        refine H260.mm (a := (n : Int)) (by simp) hl3 (fun s262 w263 H263 => ?_)
        exact fin H263
      ·refine H203.new _ _ (fun r274 w275 H275 => ?_)
       refine ⟨⟨_, H275.c3, rfl⟩, ⟨_, H275.c2, rfl⟩, ?_⟩
       refine H275.rA (by simp) ht2 (fun s278 w279 H279 => ?_)
       refine ⟨⟨_, H279.c3, rfl⟩, ⟨_, H279.c2, rfl⟩, ?_⟩
       refine H279.new _ _ (fun r282 w283 H283 => ?_)
       refine ⟨⟨_, H283.c3, rfl⟩, ⟨_, H283.c2, rfl⟩, ?_⟩
       refine H283.mn (s9 := s278) (by simp) (by simp) hl2 (fun s286 w287 H287 => ?_)
       refine ⟨⟨_, H287.c3, rfl⟩, ?_⟩
       refine H287.mm (a := (n : Int)) (by simp) hl3 (fun s289 w290 H290 => ?_)
       exact fin H290
     ·refine H198.new _ _ (fun r301 w302 H302 => ?_)
      refine ⟨⟨_, H302.c3, rfl⟩, ⟨_, H302.c2, rfl⟩, ⟨_, H302.c1, rfl⟩, ?_⟩
      refine H302.xl (a := (an : Int)) (by simp) hl1 (fun s306 w307 H307 => ?_)
      refine ⟨⟨_, H307.c3, rfl⟩, ⟨_, H307.c2, rfl⟩, ?_⟩
      refine H307.rA (by simp) ht2 (fun s310 w311 H311 => ?_)
      refine ⟨⟨_, H311.c3, rfl⟩, ⟨_, H311.c2, rfl⟩, ?_⟩
      refine H311.new _ _ (fun r314 w315 H315 => ?_)
      refine ⟨⟨_, H315.c3, rfl⟩, ⟨_, H315.c2, rfl⟩, ?_⟩
      refine H315.mn (s9 := s310) (by simp) (by simp) hl2 (fun s318 w319 H319 => ?_)
      refine ⟨⟨_, H319.c3, rfl⟩, ?_⟩
      refine H319.mm (a := (n : Int)) (by simp) hl3 (fun s321 w322 H322 => ?_)
      exact fin H322
    ·refine H59.new _ _ (fun r333 w334 H334 => ?_)
     refine ⟨⟨_, H334.c3, rfl⟩, ⟨_, H334.c2, rfl⟩, ⟨_, H334.c1, rfl⟩, ?_, ?_⟩
     ·refine H334.xl (a := (an : Int)) (by simp) hl1 (fun s338 w339 H339 => ?_)
      refine ⟨⟨_, H339.c3, rfl⟩, ⟨_, H339.c2, rfl⟩, ?_⟩
      refine H339.new _ _ (fun r342 w343 H343 => ?_)
      refine ⟨⟨_, H343.c3, rfl⟩, ⟨_, H343.c2, rfl⟩, ?_⟩
      refine H343.rA (by simp) ht2 (fun s346 w347 H347 => ?_)
      refine ⟨⟨_, H347.c3, rfl⟩, ⟨_, H347.c2, rfl⟩, ?_⟩
      refine H347.new _ _ (fun r350 w351 H351 => ?_)
      refine ⟨⟨_, H351.c3, rfl⟩, ⟨_, H351.c2, rfl⟩, ?_⟩
      refine H351.mn (s9 := s346) (by simp) (by simp) hl2 (fun s354 w355 H355 => ?_)
      refine ⟨⟨_, H355.c3, rfl⟩, ?_⟩
      refine H355.mm (a := (n : Int)) (by simp) hl3 (fun s357 w358 H358 => ?_)
      exact fin H358
     ·refine H334.new _ _ (fun r369 w370 H370 => ?_)
      refine ⟨⟨_, H370.c3, rfl⟩, ⟨_, H370.c2, rfl⟩, ⟨_, H370.c1, rfl⟩, ?_⟩
      refine H370.xl (a := (an : Int)) (by simp) hl1 (fun s374 w375 H375 => ?_)
      refine ⟨⟨_, H375.c3, rfl⟩, ⟨_, H375.c2, rfl⟩, ?_⟩
      refine H375.rA (by simp) ht2 (fun s378 w379 H379 => ?_)
      refine ⟨⟨_, H379.c3, rfl⟩, ⟨_, H379.c2, rfl⟩, ?_⟩
      refine H379.new _ _ (fun r382 w383 H383 => ?_)
      refine ⟨⟨_, H383.c3, rfl⟩, ⟨_, H383.c2, rfl⟩, ?_⟩
      refine H383.mn (s9 := s378) (by simp) (by simp) hl2 (fun s386 w387 H387 => ?_)
      refine ⟨⟨_, H387.c3, rfl⟩, ?_⟩
      refine H387.mm (a := (n : Int)) (by simp) hl3 (fun s389 w390 H390 => ?_)
      exact fin H390
   ·refine H0.new _ _ (fun r401 w402 H402 => ?_)
    refine ⟨⟨_, H402.c3, rfl⟩, ⟨_, H402.c2, rfl⟩, ⟨_, H402.c1, rfl⟩, ?_, ?_⟩
    ·refine H402.new _ _ (fun r406 w407 H407 => ?_)
     refine ⟨⟨_, H407.c3, rfl⟩, ⟨_, H407.c2, rfl⟩, ⟨_, H407.c1, rfl⟩, ?_, ?_⟩
     ·refine H407.xl (a := (an : Int)) (by simp) hl1 (fun s411 w412 H412 => ?_)
      refine ⟨⟨_, H412.c3, rfl⟩, ⟨_, H412.c2, rfl⟩, ?_, ?_⟩
      ·refine H412.rA (by simp) ht2 (fun s415 w416 H416 => ?_)
       refine ⟨⟨_, H416.c3, rfl⟩, ⟨_, H416.c2, rfl⟩, ?_, ?_⟩
       ·refine H416.new _ _ (fun r419 w420 H420 => ?_)
        refine ⟨⟨_, H420.c3, rfl⟩, ⟨_, H420.c2, rfl⟩, ?_, ?_⟩
        ·refine H420.mn (s9 := s415) (by simp) (by simp) hl2 (fun s423 w424 H424 => ?_)
         refine ⟨⟨_, H424.c3, rfl⟩, ?_⟩
         refine H424.new _ _ (fun r426 w427 H427 => ?_)
         refine ⟨⟨_, H427.c3, rfl⟩, ?_⟩
         refine H427.mm (a := (n : Int)) (by simp) hl3 (fun s429 w430 H430 => ?_)
         exact fin H430
        ·refine H420.new _ _ (fun r441 w442 H442 => ?_)
         refine ⟨⟨_, H442.c3, rfl⟩, ⟨_, H442.c2, rfl⟩, ?_⟩
         refine H442.mn (s9 := s415) (by simp) (by simp) hl2 (fun s445 w446 H446 => ?_)
         refine ⟨⟨_, H446.c3, rfl⟩, ?_⟩
         refine H446.mm (a := (n : Int)) (by simp) hl3 (fun s448 w449 H449 => ?_)
         exact fin H449
       ·refine H416.new _ _ (fun r460 w461 H461 => ?_)
        refine ⟨⟨_, H461.c3, rfl⟩, ⟨_, H461.c2, rfl⟩, ?_⟩
        refine H461.new _ _ (fun r464 w465 H465 => ?_)
        refine ⟨⟨_, H465.c3, rfl⟩, ⟨_, H465.c2, rfl⟩, ?_⟩
        refine H465.mn (s9 := s415) (by simp) (by simp) hl2 (fun s468 w469 H469 => ?_)
        refine ⟨⟨_, H469.c3, rfl⟩, ?_⟩
        refine H469.mm (a := (n : Int)) (by simp) hl3 (fun s471 w472 H472 => ?_)
        exact fin H472
      ·refine H412.new _ _ (fun r483 w484 H484 => ?_)
       refine ⟨⟨_, H484.c3, rfl⟩, ⟨_, H484.c2, rfl⟩, ?_⟩
       refine H484.rA (by simp) ht2 (fun s487 w488 H488 => ?_)
       refine ⟨⟨_, H488.c3, rfl⟩, ⟨_, H488.c2, rfl⟩, ?_⟩
       refine H488.new _ _ (fun r491 w492 H492 => ?_)
       refine ⟨⟨_, H492.c3, rfl⟩, ⟨_, H492.c2, rfl⟩, ?_⟩
       refine H492.mn (s9 := s487) (by simp) (by simp) hl2 (fun s495 w496 H496 => ?_)
       refine ⟨⟨_, H496.c3, rfl⟩, ?_⟩
       refine H496.mm (a := (n : Int)) (by simp) hl3 (fun s498 w499 H499 => ?_)
       exact fin H499
     ·refine H407.new _ _ (fun r510 w511 H511 => ?_)
      refine ⟨⟨_, H511.c3, rfl⟩, ⟨_, H511.c2, rfl⟩, ⟨_, H511.c1, rfl⟩, ?_⟩
      refine H511.xl (a := (an : Int)) (by simp) hl1 (fun s515 w516 H516 => ?_)
      refine ⟨⟨_, H516.c3, rfl⟩, ⟨_, H516.c2, rfl⟩, ?_⟩
      refine H516.rA (by simp) ht2 (fun s519 w520 H520 => ?_)
      refine ⟨⟨_, H520.c3, rfl⟩, ⟨_, H520.c2, rfl⟩, ?_⟩
      refine H520.new _ _ (fun r523 w524 H524 => ?_)
      refine ⟨⟨_, H524.c3, rfl⟩, ⟨_, H524.c2, rfl⟩, ?_⟩
      refine H524.mn (s9 := s519) (by simp) (by simp) hl2 (fun s527 w528 H528 => ?_)
      refine ⟨⟨_, H528.c3, rfl⟩, ?_⟩
      refine H528.mm (a := (n : Int)) (by simp) hl3 (fun s530 w531 H531 => ?_)
      exact fin H531
    ·refine H402.new _ _ (fun r542 w543 H543 => ?_)
     refine ⟨⟨_, H543.c3, rfl⟩, ⟨_, H543.c2, rfl⟩, ⟨_, H543.c1, rfl⟩, ?_⟩
     refine H543.new _ _ (fun r547 w548 H548 => ?_)
     refine ⟨⟨_, H548.c3, rfl⟩, ⟨_, H548.c2, rfl⟩, ⟨_, H548.c1, rfl⟩, ?_⟩
     refine H548.xl (a := (an : Int)) (by simp) hl1 (fun s552 w553 H553 => ?_)
     refine ⟨⟨_, H553.c3, rfl⟩, ⟨_, H553.c2, rfl⟩, ?_⟩
     refine H553.rA (by simp) ht2 (fun s556 w557 H557 => ?_)
     refine ⟨⟨_, H557.c3, rfl⟩, ⟨_, H557.c2, rfl⟩, ?_⟩
     refine H557.new _ _ (fun r560 w561 H561 => ?_)
     refine ⟨⟨_, H561.c3, rfl⟩, ⟨_, H561.c2, rfl⟩, ?_⟩
     refine H561.mn (s9 := s556) (by simp) (by simp) hl2 (fun s564 w565 H565 => ?_)
     refine ⟨⟨_, H565.c3, rfl⟩, ?_⟩
     refine H565.mm (a := (n : Int)) (by simp) hl3 (fun s567 w568 H568 => ?_)
     exact fin H568
   ·refine H0.new _ _ (fun r579 w580 H580 => ?_)
    refine ⟨⟨_, H580.c3, rfl⟩, ⟨_, H580.c2, rfl⟩, ⟨_, H580.c1, rfl⟩, ?_, ?_⟩
    ·refine H580.new _ _ (fun r584 w585 H585 => ?_)
     refine ⟨⟨_, H585.c3, rfl⟩, ⟨_, H585.c2, rfl⟩, ⟨_, H585.c1, rfl⟩, ?_, ?_⟩
     ·refine H585.xl (a := (an : Int)) (by simp) hl1 (fun s589 w590 H590 => ?_)
      refine ⟨⟨_, H590.c3, rfl⟩, ⟨_, H590.c2, rfl⟩, ?_⟩
      refine H590.new _ _ (fun r593 w594 H594 => ?_)
      refine ⟨⟨_, H594.c3, rfl⟩, ⟨_, H594.c2, rfl⟩, ?_⟩
      refine H594.rA (by simp) ht2 (fun s597 w598 H598 => ?_)
      refine ⟨⟨_, H598.c3, rfl⟩, ⟨_, H598.c2, rfl⟩, ?_⟩
      refine H598.new _ _ (fun r601 w602 H602 => ?_)
      refine ⟨⟨_, H602.c3, rfl⟩, ⟨_, H602.c2, rfl⟩, ?_⟩
      refine H602.mn (s9 := s597) (by simp) (by simp) hl2 (fun s605 w606 H606 => ?_)
      refine ⟨⟨_, H606.c3, rfl⟩, ?_⟩
      refine H606.mm (a := (n : Int)) (by simp) hl3 (fun s608 w609 H609 => ?_)
      exact fin H609
     ·refine H585.new _ _ (fun r620 w621 H621 => ?_)
      refine ⟨⟨_, H621.c3, rfl⟩, ⟨_, H621.c2, rfl⟩, ⟨_, H621.c1, rfl⟩, ?_⟩
      refine H621.xl (a := (an : Int)) (by simp) hl1 (fun s625 w626 H626 => ?_)
      refine ⟨⟨_, H626.c3, rfl⟩, ⟨_, H626.c2, rfl⟩, ?_⟩
      refine H626.rA (by simp) ht2 (fun s629 w630 H630 => ?_)
      refine ⟨⟨_, H630.c3, rfl⟩, ⟨_, H630.c2, rfl⟩, ?_⟩
      refine H630.new _ _ (fun r633 w634 H634 => ?_)
      refine ⟨⟨_, H634.c3, rfl⟩, ⟨_, H634.c2, rfl⟩, ?_⟩
      refine H634.mn (s9 := s629) (by simp) (by simp) hl2 (fun s637 w638 H638 => ?_)
      refine ⟨⟨_, H638.c3, rfl⟩, ?_⟩
      refine H638.mm (a := (n : Int)) (by simp) hl3 (fun s640 w641 H641 => ?_)
      exact fin H641
    ·refine H580.new _ _ (fun r652 w653 H653 => ?_)
     refine ⟨⟨_, H653.c3, rfl⟩, ⟨_, H653.c2, rfl⟩, ⟨_, H653.c1, rfl⟩, ?_⟩
     refine H653.new _ _ (fun r657 w658 H658 => ?_)
     refine ⟨⟨_, H658.c3, rfl⟩, ⟨_, H658.c2, rfl⟩, ⟨_, H658.c1, rfl⟩, ?_⟩
     refine H658.xl (a := (an : Int)) (by simp) hl1 (fun s662 w663 H663 => ?_)
     refine ⟨⟨_, H663.c3, rfl⟩, ⟨_, H663.c2, rfl⟩, ?_⟩
     refine H663.rA (by simp) ht2 (fun s666 w667 H667 => ?_)
     refine ⟨⟨_, H667.c3, rfl⟩, ⟨_, H667.c2, rfl⟩, ?_⟩
     refine H667.new _ _ (fun r670 w671 H671 => ?_)
     refine ⟨⟨_, H671.c3, rfl⟩, ⟨_, H671.c2, rfl⟩, ?_⟩
     refine H671.mn (s9 := s666) (by simp) (by simp) hl2 (fun s674 w675 H675 => ?_)
     refine ⟨⟨_, H675.c3, rfl⟩, ?_⟩
     refine H675.mm (a := (n : Int)) (by simp) hl3 (fun s677 w678 H678 => ?_)
     exact fin H678
theorem xn (h : RuS w r k f P top s) (hu : UOk k m s) (hm : m <= 2 ^ 59) (hP : P.length < 2 ^ 20) (epoch a : Int) (b4 : Slc) (t : List UInt8) (hb : ag w b4 t) (ht : t.length <= 2 ^ 20) (hs : ∀ j, ao b4 j -> ¬ RuW r f j) :
  Calls Tryz.prog cZ ⟨[aw r, .int .i64 epoch, .int .i64 a, b4.v]⟩ w fun e w' => e = .returned (.int .i64 (eN (writeP k s epoch a t).1)) /\ ∃ f' P' top', RuS w' r k f' P' top' (writeP k s epoch a t).2 /\ P'.length <= P.length + 1 /\ dD r f f' w w' :=
 jQ _ _ _ _ (Bm h hu hm hP epoch a b4 t hb ht hs (fun w' f' P' top' h1 h2 h3 => ⟨rfl, f', P', top', h1, h2, h3⟩))
end
end Go.D

