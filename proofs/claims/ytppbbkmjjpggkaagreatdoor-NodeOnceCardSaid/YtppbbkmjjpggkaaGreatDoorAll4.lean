/-
  WHAT IS PROVED: contracts of functions, and the plain law, for this proof. No further conditions.
-/
import Derived.Test.YtppbbkmjjpggkaaGreatDoorAll3
import Derived.Test.YtppbbkmjjpggkaaGreatDoorRowsM
import Derived.Test.YtppbbkmjjpggkaaGreatDoorAll2
import Derived.Test.YtppbbkmjjpggkaaGreatDoorVCref04i
import Derived.Test.YtppbbkmjjpggkaaGreatDoorVCref08
import Derived.Test.YtppbbkmjjpggkaaGreatDoorVCref09
set_option linter.unusedVariables false
set_option linter.unusedSimpArgs false
namespace Go.D
open Go Go.Proofs
def ndC (f t : Int) (s : Slc) : List Value := [.int .i64 f, .int .i64 t, s.v]
theorem zp {f t : Int} {s : Slc} {k : Nat} (h : jj (ndC f t s) k) : 0 < s.l /\ au s k := by
 obtain ⟨s', hs, h1, h2⟩ := h
 have : s' = s := by
  obtain ⟨p, l, c⟩ := s
  obtain ⟨p', l', c'⟩ := s'
  simp [ndC, Slc.v] at hs
  obtain ⟨rfl, rfl, rfl⟩ := hs
  rfl
 subst this
 exact ⟨h1, h2⟩
theorem Fm (f t : Int) (s : Slc) : ∀ v ∈ ndC f t s, v.oneCell' = true := by
 intro v hv
 simp [ndC] at hv
 rcases hv with rfl | rfl | rfl <;> rfl
def NdR : uP NdE where
 n := 3
 pos := by omega
 R w x cs := ∃ s : Slc, cs = ndC x.f x.t s /\ ag w s x.msg /\ x.msg.length <= 2 ^ 20
 len := by rintro w x cs ⟨s, rfl, _⟩; rfl
 one := by rintro w x cs ⟨s, rfl, _⟩; exact Fm _ _ _
 ext := by
  rintro M w w' x cs ⟨s, rfl, h, h2⟩ he hm
  exact ⟨s, rfl, aR h he (fun h0 k hk => hm k ⟨s, by simp [ndC], h0, hk⟩), h2⟩
 lt := by
  rintro w x cs ⟨s, rfl, h, _⟩ k hk
  obtain ⟨h0, hk⟩ := zp hk
  exact cX h h0 k hk
structure NdP where
 ts : Slc
 css : List (List Value)
structure lL (w : World) (rn r : Nat) (p : NdP) (L : List NdE) : Prop where
 o : ak w rn [aA r, p.ts.v, .bool false]
 t : Rows NdR w p.ts L p.css
 dn : ¬ au p.ts rn
 df : ∀ k, cc p.css k -> k ≠ rn
def NdM (rn : Nat) (p : NdP) (k : Nat) : Prop := k = rn \/ au p.ts k
def NdF (p : NdP) (k : Nat) : Prop := cc p.css k
section
variable {w w' : World} {n0 rn r rd m m' : Nat} {f f' : UnF} {d d' : aP} {s s' : UnS} {p p' : NdP} {L : List NdE} {T T' : List NdE}
theorem lL.ext {M : Nat -> Prop} (h : lL w rn r p L) (he : Ext M w w') (h1 : ∀ k, NdM rn p k -> ¬ M k) (h2 : ∀ k, NdF p k -> ¬ M k) : lL w' rn r p L :=
 ⟨h.o.ext he (h1 _ (.inl rfl)), h.t.ext he (fun k hk => h1 k (.inr hk)) h2, h.dn, h.df⟩
theorem lL.af (h : lL w rn r p L) (he : ai w w') : lL w' rn r p L := h.ext he (fun _ _ h => h) (fun _ _ h => h)
theorem lL.lt (h : lL w rn r p L) : (∀ k, NdM rn p k -> k < w.heap.size) /\ ∀ k, NdF p k -> k < w.heap.size := by
 refine ⟨?_, h.t.flt⟩
 rintro k (rfl | hk)
 ·exact h.o.lt
 ·exact h.t.lt k hk
theorem lL.c1 (h : lL w rn r p L) : w.cell? ((⟨rn, 0, none⟩ : Addr).add 1) = some p.ts.v := by rw [add_lit]; exact h.o.cell 1 (by simp)
theorem lL.c2 (h : lL w rn r p L) : w.cell? ((⟨rn, 0, none⟩ : Addr).add 2) = some (.bool false) := by rw [add_lit]; exact h.o.cell 2 (by simp)
theorem lL.get (h : lL w rn r p L) {k : Nat} (hk : k < L.length) : ∃ (a : Addr) (s : Slc), p.ts.p = some a /\ rowAt w (Addr.add a (k * 3)) 0 (ndC L[k].f L[k].t s) /\ ag w s L[k].msg /\ L[k].msg.length <= 2 ^ 20 := by
 have hk2 : k < p.css.length := by rw [h.t.len]; exact hk
 obtain ⟨a, ha, hsp, hrow⟩ := h.t.get hk2
 obtain ⟨s, hs, hb, hb2⟩ := h.t.row k hk2 hk
 rw [hs] at hrow
 exact ⟨a, s, ha, hrow, hb, hb2⟩
theorem xK (x : NdE) (s : Slc) (fr t : Int) (b b2 : Nat) (w : World) (hc : w.cell? ⟨b, 0, none⟩ = some (.int .i64 fr)) (hc2 : w.cell? ⟨b2, 0, none⟩ = some (.int .i64 t)) :
  Calls Tryz.prog dy ⟨[.agg ⟨ndC x.f x.t s⟩, aA b, aA b2]⟩ w fun e w' => e = .returned (.bool (decide (x.f = fr /\ x.t = t))) /\ ai w w' := by
 refine nZ _ _ _ _ _ ?_
 unfold ke
 refine aq (fun r6 w7 hr6 hb6 k6 hs6 => ?_)
 have o6 := ak.bO hb6
 refine ⟨x.f, o6.cell 0 (by simp), fr, k6.cell hc, ae (fun h1 => ⟨x.t, o6.cell 1 (by simp), t, k6.cell hc2, ?_, k6⟩) (fun h1 => ⟨?_, k6⟩)⟩
 ·by_cases h2 : x.t = t
  ·rw [decide_eq_true h2, decide_eq_true ⟨h1, h2⟩]
  ·rw [decide_eq_false h2, decide_eq_false (fun h => h2 h.2)]
 ·rw [decide_eq_false (fun h => h1 h.1)]
def G2 (fr t : Int) (L : List NdE) (i : Int) : Prop := (∃ (k : Nat) (hk : k < L.length), i = k /\ (L[k].f = fr /\ L[k].t = t) /\ ∀ j (hj : j < L.length), j < k -> ¬ (L[j].f = fr /\ L[j].t = t)) \/ (i = -1 /\ ∀ j (hj : j < L.length), ¬ (L[j].f = fr /\ L[j].t = t))
theorem pP (h : lL w rn r p L) (fr t : Int) (b b2 : Nat) (hc : w.cell? ⟨b, 0, none⟩ = some (.int .i64 fr)) (hc2 : w.cell? ⟨b2, 0, none⟩ = some (.int .i64 t)) (hl : L.length <= 2 ^ 40) :
  Calls Tryz.prog dJ ⟨[p.ts.v, .func (.func dy) ⟨[]⟩ ⟨[aA b, aA b2]⟩]⟩ w fun e w' => ∃ i, e = .returned (.int .i64 i) /\ G2 fr t L i /\ ai w w' := by
 refine eC _ _ _ ?_
 unfold cD
 have hsl := h.t.sl
 refine ⟨fun i w2 => ∃ k : Nat, i = k /\ k <= L.length /\ ai w w2 /\ ∀ j (hj : j < L.length), j < k -> ¬ (L[j].f = fr /\ L[j].t = t), fun i _ => ((L.length : Int) - i).toNat, ⟨0, rfl, by omega, Ext.refl _ _, fun j _ hj => by omega⟩, ?_⟩
 rintro i w2 ⟨k, rfl, hk, k2, hno⟩
 intros
 refine ae (fun h1 => ?_) (fun h1 => ⟨_, rfl, .inr ⟨rfl, fun j hj => hno j hj (by omega)⟩, k2⟩)
 have hkl : k < L.length := by omega
 obtain ⟨a, s, ha, hrow, hb, _⟩ := (h.af k2).get hkl
 refine aa ha ⟨by omega, h1, _, _, _, by rw [show Int.toNat (k : Int) * 3 = k * 3 by omega]; exact hrow, ?_⟩
 refine (xK L[k] s fr t b b2 w2 (k2.cell hc) (k2.cell hc2)).mono ?_
 rintro e w25 ⟨rfl, k25⟩
 refine ⟨_, rfl, ae (fun h2 => ⟨_, rfl, .inl ⟨k, hkl, rfl, h2, fun j hj => hno j hj⟩, k2.trans k25⟩) (fun h2 => ?_)⟩
 refine ⟨aB (by omega), ⟨k + 1, rfl, hkl, k2.trans k25, fun j hj hjk => ?_⟩, by dsimp only; omega⟩
 by_cases hj2 : j = k
 ·subst hj2; exact h2
 ·exact hno j hj (by omega)
theorem tV {s : Slc} {css : List (List Value)} (h : Rows NdR w s L css) (hi : 0 < css.length) (hl : L.length <= 2 ^ 30) :
  Calls Tryz.prog cA ⟨[s.v, .int .i64 (0 : Int), .int .i64 (1 : Int)]⟩ w fun e w' => e = .returned (Slc.v ⟨s.p, s.l - 1, s.c⟩) /\ Rows NdR w' ⟨s.p, s.l - 1, s.c⟩ (L.eraseIdx 0) (css.eraseIdx 0) /\ Ext (au s) w w' := by
 refine oa _ _ _ ?_
 unfold kf
 have hsl := h.sl
 have hcl := h.len
 have hcap := h.cap
 refine ⟨by omega, by omega, by omega, by omega, ae (fun hh => by omega) (fun _ => ⟨by omega, by omega, by omega, by omega, by omega, by omega, by omega, by omega, ?_⟩)⟩
 have hd := h.af (Ext.drew _ w)
 rw [show Int.toNat (0 : Int) = 0 by omega, show Int.toNat (1 : Int) = 0 + 1 by omega]
 obtain ⟨old, new, c1, c2, c3, c4, c5, c6, c7⟩ := hd.cut (z := ndC 0 0 ⟨none, 0, 0⟩) (E := mE) (K := fun w' => Rows NdR w' ⟨s.p, s.l - 1, s.c⟩ (L.eraseIdx 0) (css.eraseIdx 0) /\ Ext (au s) w.drew w') hi rfl (Fm 0 0 ⟨none, 0, 0⟩) hl (fun w' g1 g2 g3 => ⟨g1, g2⟩)
 refine ⟨old, new, c1, c2, c3, c4, c5, c6, fun s7 w8 hA => ?_⟩
 obtain ⟨rfl, g⟩ := c7 s7 w8 hA
 refine ⟨by omega, ?_, ?_, ?_, ?_⟩
 ·show ((s.l - 1 : Nat) : Int) <= _; omega
 ·show ((s.l : Nat) : Int) <= ((s.c : Nat) : Int); omega
 ·exact Int.le_refl _
 exact g.mono (fun w1 hg => ⟨rfl, hg.1, (Ext.drew _ _).trans hg.2 (fun _ h => h) (fun _ h => .inl h)⟩)
structure cj (w : World) (n0 rn r rd : Nat) (f : UnF) (d : aP) (s : UnS) (m : Nat) (p : NdP) (T : List NdE) : Prop where
 U : UAt w n0 r rd f d s m
 N : lL w rn r p (fe T)
 sm : ∀ k, NdM rn p k -> ¬ UB r rd f k /\ ¬ UnY f.x k
 sf : ∀ k, NdF p k -> ¬ UB r rd f k
 ge : ∀ k, NdM rn p k -> n0 <= k
def NB (rn r rd : Nat) (f : UnF) (p : NdP) (k : Nat) : Prop := UB r rd f k \/ NdM rn p k
def NY (f : UnF) (p : NdP) (k : Nat) : Prop := UnY f.x k \/ NdF p k
def NTo (rn r rd : Nat) (f : UnF) (p : NdP) (f' : UnF) (p' : NdP) (w w' : World) : Prop := bp (NB rn r rd f p) (NB rn r rd f' p') w w' /\ ∀ k, NY f' p' k -> NY f p k \/ w.heap.size <= k
theorem NTo.af (hk : ai w w') : NTo rn r rd f p f p w w' := ⟨⟨hk.mono (fun _ h => h.elim), fun k hk => .inl hk⟩, fun k hk => .inl hk⟩
theorem ai.nto {a b c : World} (h1 : ai a b) (h2 : NTo rn r rd f p f' p' b c) : NTo rn r rd f p f' p' a c := by
 have z := h1.size
 exact ⟨⟨Ext.trans h1 h2.1.1 (fun _ h => h.elim) (fun _ h => .inl h), fun k hk => (h2.1.2 k hk).imp (fun g => g) (fun g => by omega)⟩, fun k hk => (h2.2 k hk).imp (fun g => g) (fun g => by omega)⟩
theorem po {css : List (List Value)} {k : Nat} (h : cc (css.eraseIdx 0) k) : cc css k := by
 obtain ⟨cs, hc, hk⟩ := h
 exact ⟨cs, List.mem_of_mem_eraseIdx hc, hk⟩
theorem cj.ext {M : Nat -> Prop} (h : cj w n0 rn r rd f d s m p T) (he : Ext M w w') (h1 : ∀ k, NB rn r rd f p k -> ¬ M k) (h2 : ∀ k, NY f p k -> ¬ M k) : cj w' n0 rn r rd f d s m p T :=
 ⟨h.U.ext he (fun k hk => h1 k (.inl hk)) (fun k hk => h2 k (.inl hk)), h.N.ext he (fun k hk => h1 k (.inr hk)) (fun k hk => h2 k (.inr hk)), h.sm, h.sf, h.ge⟩
theorem cj.af (h : cj w n0 rn r rd f d s m p T) (he : ai w w') : cj w' n0 rn r rd f d s m p T := h.ext he (fun _ _ h => h) (fun _ _ h => h)
theorem cj.lt (h : cj w n0 rn r rd f d s m p T) : (∀ k, NB rn r rd f p k -> k < w.heap.size) /\ ∀ k, NY f p k -> k < w.heap.size :=
 ⟨fun k hk => hk.elim (h.U.lt.1 k) (h.N.lt.1 k), fun k hk => hk.elim (h.U.lt.2 k) (h.N.lt.2 k)⟩
theorem cj.gB (h : cj w n0 rn r rd f d s m p T) : ∀ k, NB rn r rd f p k -> n0 <= k := fun k hk => hk.elim (h.U.ge k) (h.ge k)
theorem cj.up (h : cj w n0 rn r rd f d s m p T) (hm : m <= m') : cj w n0 rn r rd f d s m' p T := ⟨h.U.up hm, h.N, h.sm, h.sf, h.ge⟩
theorem cj.next {w2 : World} (h : cj w n0 rn r rd f d s m p T) (hn0 : n0 <= w.heap.size) (hU : UAt w' n0 r rd f' d' s' m') (uf : fF r rd f f' w w') (he : Ext (NdM rn p) w' w2) (hN : lL w2 rn r p' (fe T'))
  (hs : ∀ k, au p'.ts k -> au p.ts k \/ w'.heap.size <= k) (hf : ∀ k, cc p'.css k -> cc p.css k \/ w'.heap.size <= k) : cj w2 n0 rn r rd f' d' s' m' p' T' /\ NTo rn r rd f p f' p' w w2 := by
 have lt := h.lt
 have ltU := hU.lt
 have z := uf.1.1.size
 have hM : ∀ k, NdM rn p k -> ¬ UB r rd f' k /\ ¬ UnY f'.x k := fun k hk => ⟨fun hh => (uf.1.2 k hh).elim (h.sm k hk).1 (fun g => by have := lt.1 k (.inr hk); omega), fun hh => (uf.2 k hh).elim (h.sm k hk).2 (fun g => by have := lt.1 k (.inr hk); omega)⟩
 have hF : ∀ k, NdF p k -> ¬ UB r rd f' k := fun k hk hh => (uf.1.2 k hh).elim (h.sf k hk) (fun g => by have := lt.2 k (.inr hk); omega)
 have hM' : ∀ k, NdM rn p' k -> NdM rn p k \/ w'.heap.size <= k := by
  rintro k (hk | hk)
  ·exact .inl (.inl hk)
  ·exact (hs k hk).imp .inr (fun g => g)
 refine ⟨⟨hU.ext he (fun k hk hh => (hM k hh).1 hk) (fun k hk hh => (hM k hh).2 hk), hN, fun k hk => ?_, fun k hk hh => ?_, fun k hk => ?_⟩, ⟨?_, fun k hk => ?_⟩, fun k hk => ?_⟩
 ·rcases hM' k hk with g | g
  ·exact hM k g
  ·exact ⟨fun hh => by have := ltU.1 k hh; omega, fun hh => by have := ltU.2 k hh; omega⟩
 ·rcases hf k hk with g | g
  ·exact hF k g hh
  ·have := ltU.1 k hh; omega
 ·rcases hM' k hk with g | g
  ·exact h.ge k g
  ·omega
 ·exact (uf.1.1.mono (fun k hk => Or.inl hk)).trans he (fun _ h => h) (fun k hk => .inl (.inr hk))
 ·rcases hk with hk | hk
  ·exact (uf.1.2 k hk).imp .inl (fun g => g)
  ·rcases hM' k hk with g | g
   ·exact .inl (.inr g)
   ·exact .inr (by omega)
 ·rcases hk with hk | hk
  ·exact (uf.2 k hk).imp .inl (fun g => g)
  ·rcases hf k hk with g | g
   ·exact .inl (.inr g)
   ·exact .inr (by omega)
end
end Go.D
namespace Go.D
open Go Go.Proofs
theorem vi.Gz {A : Nat -> Addr} {w w' : World} {q p : List Value} {is : Bool} {ev : Value} {R : Except Nat Msg} (h : vi A w w' q p is ev R) :
    ∃ (t k e a : Int) (sq : Slc) (t2 e2 n2 : Int) (sp : Slc), q = pn t k e a sq /\ p = fT t2 e2 n2 sp /\ isI ev /\
      ((isNilI ev = true /\ is = true /\ ∃ d, R = .ok (.ask t k e a d) /\ ag w' sq d /\ sq.l <= sq.c /\ aF w sq) \/
       (isNilI ev = true /\ is = false /\ ∃ d, R = .ok (.tell t2 e2 n2 d) /\ ag w' sp d /\ sp.l <= sp.c /\ aF w sp) \/
       (isNilI ev = false /\ ∃ j, R = .error j)) := by
  cases R with
  | error j =>
    obtain ⟨rfl, rfl, rfl, rfl⟩ := h
    exact ⟨0, 0, 0, 0, ⟨none, 0, 0⟩, 0, 0, 0, ⟨none, 0, 0⟩, rfl, rfl, trivial, .inr (.inr ⟨rfl, j, rfl⟩)⟩
  | ok x =>
    cases x with
    | ask t k e a d =>
      obtain ⟨s, rfl, h1, h2, h3, rfl, rfl, rfl⟩ := h
      exact ⟨t, k, e, a, s, 0, 0, 0, ⟨none, 0, 0⟩, rfl, rfl, trivial, .inl ⟨rfl, rfl, d, rfl, h1, h2, h3⟩⟩
    | tell t e n d =>
      obtain ⟨s, rfl, h1, h2, h3, rfl, rfl, rfl⟩ := h
      exact ⟨0, 0, 0, 0, ⟨none, 0, 0⟩, t, e, n, s, rfl, rfl, trivial, .inr (.inl ⟨rfl, rfl, d, rfl, h1, h2, h3⟩)⟩
theorem Bc {b : List UInt8} {t k e a : Int} {d : List UInt8} (h : readR b = .ok (.ask t k e a d)) : cP t k e a d.length := by
 unfold readR at h
 split at h
 ·cases h
 ·split at h
  ·cases h
  ·dsimp only at h
   split at h
   ·split at h
    ·cases h
    ·cases h
   ·split at h
    ·cases h
    ·split at h
     ·rename_i hh
      injection h with h; injection h with h1 h2 h3 h4 h5
      rw [<- h1, <- h2, <- h3, <- h4, <- h5]; exact hh.2
     ·cases h
theorem aY.up {A : Nat -> Addr} {n0 n1 : Nat} {w : World} (h : aY A n0 w) (hn : n0 <= n1) : aY A n1 w := ⟨h.1, fun g hg => by have := h.2 g hg; omega⟩
def xa : Option NdE -> List UInt8
 | none => []
 | some x => x.msg
theorem CT {x : NdE} (h : gl x.t (eN x.e) x.n x.d.length) : x.msg.length <= 2 ^ 20 := by
 unfold NdE.msg
 rw [bz]
 have := sK h
 omega
def CU (rn r4 r19 rr : Nat) (w83 : World) (K : Value -> World -> Prop) : Prop :=
 ∃ n90 : Int, ∃ n91 : Int, ∃ n92 : Int, ∃ s93 : Slc, rowAt w83 (⟨rr, 0, none⟩ : Addr) 0 [(Value.int .i64 n90), (Value.int .i64 n91), (Value.int .i64 n92), (Slc.v s93)] /\
 Calls Tryz.prog ia ⟨[(Value.agg ⟨[(Value.int .i64 n90), (Value.int .i64 n91), (Value.int .i64 n92), (Slc.v s93)]⟩)]⟩ w83 fun e94 w95 =>
 ∃ s96 : Slc, ∃ e97 : Value, e94 = .returned (Value.tuple ⟨[(Slc.v s96), e97]⟩) /\
 isI e97 /\
 BIf (!isNilI e97) (
  K (Value.tuple ⟨[(Slc.v (⟨none, 0, 0⟩ : Slc)), (Value.bool false)]⟩) w95) (
  needSome (some (⟨rn, 0, none⟩ : Addr)) fun a98 =>
  ∃ s99 : Slc, World.cell? (World.drew w95) (a98.add 1) = some (Slc.v s99) /\
  ∃ n100 : Int, World.cell? (World.drew w95) (⟨r4, 0, none⟩ : Addr) = some (Value.int .i64 n100) /\
  ∃ n101 : Int, World.cell? (World.drew w95) (⟨r19, 0, none⟩ : Addr) = some (Value.int .i64 n101) /\
  aH (World.drew w95) (.cells ⟨[(Value.int .i64 n100), (Value.int .i64 n101), (Slc.v s96)]⟩ mE) fun r102 w103 =>
  (∃ s104 : Slc, World.cell? w103 (a98.add 1) = some (Slc.v s104) /\
  (Slc.v s104) = (Slc.v s99)) /\
  aK 3 mE [(Value.int .i64 (0 : Int)), (Value.int .i64 (0 : Int)), (Slc.v (⟨none, 0, 0⟩ : Slc))] w103 s99 (.slc (⟨(some (⟨r102, 0, none⟩ : Addr)), 1, 1⟩ : Slc)) fun s105 w106 =>
  needSome (some (⟨rn, 0, none⟩ : Addr)) fun a107 =>
  az w106 (a107.add 1) 1 /\ ∀ w108 : World, w108 = World.setCell w106 (a107.add 1) (Slc.v s105) ->
  needSome (some (⟨rn, 0, none⟩ : Addr)) fun a109 =>
  ∃ s110 : Slc, World.cell? w108 (a109.add 1) = some (Slc.v s110) /\
  BIf (decide ((32 : Int) < ((s110.l : Nat) : Int))) (
   needSome (some (⟨rn, 0, none⟩ : Addr)) fun a111 =>
   ∃ s112 : Slc, World.cell? w108 (a111.add 1) = some (Slc.v s112) /\
   Calls Tryz.prog cA ⟨[(Slc.v s112), (Value.int .i64 (0 : Int)), (Value.int .i64 (1 : Int))]⟩ w108 fun e113 w114 =>
   ∃ s115 : Slc, e113 = .returned (Slc.v s115) /\
   needSome (some (⟨rn, 0, none⟩ : Addr)) fun a116 =>
   az w114 (a116.add 1) 1 /\ ∀ w117 : World, w117 = World.setCell w114 (a116.add 1) (Slc.v s115) ->
   Calls Tryz.prog ar ⟨[(Slc.v s96)]⟩ w117 fun e118 w119 =>
   ∃ s120 : Slc, e118 = .returned (Slc.v s120) /\
   K (Value.tuple ⟨[(Slc.v s120), (Value.bool true)]⟩) w119) (
   Calls Tryz.prog ar ⟨[(Slc.v s96)]⟩ w108 fun e121 w122 =>
   ∃ s123 : Slc, e121 = .returned (Slc.v s123) /\
   K (Value.tuple ⟨[(Slc.v s123), (Value.bool true)]⟩) w122))
section
variable {w46 w67 : World} {n0 rn r rd m m' : Nat} {f f' : UnF} {d d' : aP} {s s2 : UnS} {p : NdP} {T : List NdE}
theorem xb (A : Nat -> Addr) (h46 : cj w46 n0 rn r rd f d s m p T) (hn0 : n0 <= w46.heap.size) (hE61 : aY A n0 w67) (hU' : UAt w67 n0 r rd f' d' s2 m') (uf : fF r rd f f' w46 w67) (fr t : Int) (ce : Option Nat) (cn : Int) (cd : List UInt8) (hrp : gl t (eN ce) cn cd.length) (hlen : (fe T).length <= 32)
  (rr r4 r19 : Nat) (w83 : World) (u2 : Slc) (k83 : ai w67 w83) (o83 : ak w83 rr (fT t (eN ce) cn u2)) (hb83 : ag w83 u2 cd) (o4u : ak w67 r4 [.int .i64 fr]) {kd ep a : Int} {sq : Slc} (o19u : ak w67 r19 (pn t kd ep a sq)) {K : Value -> World -> Prop}
  (hK : ∀ (u : Slc) (w' : World) (p' : NdP), ag w' u (NdE.msg ⟨fr, t, ce, cn, cd⟩) -> aF w67 u -> u.l <= u.c -> cj w' n0 rn r rd f' d' s2 m' p' (T ++ [⟨fr, t, ce, cn, cd⟩]) -> NTo rn r rd f p f' p' w46 w' -> (∀ j, au u j -> ¬ NB rn r rd f' p' j) -> K (.tuple ⟨[u.v, .bool true]⟩) w') :
  CU rn r4 r19 rr w83 K := by
 unfold CU
 have N67 : lL w67 rn r p (fe T) := h46.N.ext uf.1.1 (fun k hk hh => (h46.sm k hk).1 hh) (fun k hk hh => h46.sf k hk hh)
 have z61 := uf.1.1.size
 have hE83 := hE61.af k83
 have z83 := k83.size
 refine ⟨_, _, _, _, o83.row, (DN A t (eN ce) cn u2 cd w83 hb83 (hE83.up (by omega))).mono ?_⟩
 rintro e w95 ⟨fu, ev2, rfl, k95, hc95⟩
 rcases hc95 with ⟨_, rfl, ho, hf⟩ | ⟨hno2, _⟩
 rotate_left
 ·exact absurd hrp hno2
 have kd95 := k95.trans (Ext.drew gP w95)
 have kk95 := k83.trans kd95
 have N95 := N67.af kk95
 have ho95 := ho.af (Ext.drew gP w95)
 have z95 := kk95.size
 refine ⟨fu, _, rfl, trivial, ao (fun hh => by cases hh) (fun _ => aa rfl ⟨_, N95.c1, _, (o4u.af kk95).cell 0 (by simp), _, (o19u.af kk95).cell 0 (by simp), aq (fun r102 w103 hr102 hb102 k102 hs102 => ⟨⟨_, (N95.af k102).c1, rfl⟩, ?_⟩)⟩)⟩
 have N103 := N95.af k102
 have ho103 := ho95.af k102
 have l103 := N103.lt
 have z103 := k102.size
 have lfu := kG ho103
 have lrn : rn < w67.heap.size := N67.o.lt
 have lts : ∀ k, au p.ts k -> k < w67.heap.size := fun k hk => N67.lt.1 k (.inr hk)
 have hml : (NdE.msg ⟨fr, t, ce, cn, cd⟩).length <= 2 ^ 20 := CT (x := ⟨fr, t, ce, cn, cd⟩) hrp
 have hx : NdR.R w103 ⟨fr, t, ce, cn, cd⟩ (ndC fr t fu) := ⟨fu, rfl, ho103.bytes, hml⟩
 refine N103.t.snoc (x := ⟨fr, t, ce, cn, cd⟩) (cs := ndC fr t fu) rfl hx (fun k hk hh => ?_) hb102 (.inl (by simp)) (by omega) (fun s105 w106 R106 x106 n106 => aa rfl ?_)
 ·have := hf k (zp hk).2; have := lts k hh; omega
 have o106 := N103.o.ext x106 N103.dn
 rw [add_lit]
 obtain ⟨c1, c2⟩ := o106.aM 1 (by simp) s105.v
 refine ⟨c1, fun w108 hw108 => aa rfl ?_⟩
 obtain ⟨o108, e108, z108⟩ := c2 w108 hw108
 have ownN : ∀ k, au s105 k -> au p.ts k \/ w67.heap.size <= k := fun k hk => (n106 k hk).imp (fun g => g) (fun g => by omega)
 have footN : ∀ k, cc (p.css ++ [ndC fr t fu]) k -> cc p.css k \/ w67.heap.size <= k := by
  rintro k ⟨cs, hcs, hk⟩
  rcases List.mem_append.1 hcs with g | g
  ·exact .inl ⟨cs, g, hk⟩
  ·rw [List.mem_singleton] at g; subst g
   exact .inr (by have := hf k (zp hk).2; omega)
 have dn5 : ¬ au s105 rn := fun hh => (n106 _ hh).elim N67.dn (fun g => by omega)
 have df5 : ∀ k, cc (p.css ++ [ndC fr t fu]) k -> k ≠ rn := fun k hk => (footN k hk).elim (N67.df k) (fun g => by omega)
 have R108 := R106.ext e108 (fun k hk hh => dn5 (hh ▸ hk)) (fun k hk hh => df5 k hk hh)
 have hsl := R108.sl
 have hcl := R108.len
 rw [List.length_append, List.length_singleton] at hsl
 have fu106 : ag w106 fu (NdE.msg ⟨fr, t, ce, cn, cd⟩) := aE ho103.bytes x106 (fun k hk hh => by have := hf k hk; have := lts k hh; omega)
 have fu108 := aE fu106 e108 (fun k hk hh => by have := hf k hk; omega)
 have X108 : Ext (NdM rn p) w67 w108 := (((kk95.trans k102).mono (fun _ h => h.elim)).trans x106 (fun _ h => h) (fun k hk => .inl (.inr hk))).trans e108 (fun _ h => h) (fun k hk => .inl (.inl hk))
 refine ⟨_, by rw [add_lit]; exact o108.cell 1 (by simp), ae (fun h32 => aa rfl ⟨_, by rw [add_lit]; exact o108.cell 1 (by simp), (tV R108 (by rw [List.length_append, List.length_singleton]; omega) (by rw [List.length_append, List.length_singleton]; omega)).mono ?_⟩) (fun h32 => ?_)⟩
 ·rintro e w114 ⟨rfl, R114, x114⟩
  refine ⟨_, rfl, aa rfl ?_⟩
  rw [add_lit]
  obtain ⟨c1, c2⟩ := (o108.ext x114 dn5).aM 1 (by simp) (⟨s105.p, s105.l - 1, s105.c⟩ : Slc).v
  refine ⟨c1, fun w117 hw117 => ?_⟩
  obtain ⟨o117, e117, z117⟩ := c2 w117 hw117
  have fu117 := aE (aE fu108 x114 (fun k hk hh => (n106 k hh).elim (fun g => by have := hf k hk; have := lts k g; omega) (fun g => by have := lfu k hk; omega))) e117 (fun k hk hh => by have := hf k hk; omega)
  have X117 : Ext (NdM rn p) w67 w117 := (X108.trans x114 (fun _ h => h) (fun k hk => (ownN k hk).imp .inr (fun g => g))).trans e117 (fun _ h => h) (fun k hk => .inl (.inl hk))
  have R117 := R114.ext e117 (fun k hk hh => dn5 (hh ▸ hk)) (fun k hk hh => df5 k (po hk) hh)
  have ful : fu.l = (NdE.msg ⟨fr, t, ce, cn, cd⟩).length := fu117.1
  refine (bx fu _ w117 fu117 (by omega)).mono ?_
  rintro e w119 ⟨s120, rfl, ho120, hf120, k119⟩
  have hN : lL w119 rn r ⟨⟨s105.p, s105.l - 1, s105.c⟩, (p.css ++ [ndC fr t fu]).eraseIdx 0⟩ (fe (T ++ [⟨fr, t, ce, cn, cd⟩])) := by
   rw [tU, if_pos (by rw [List.length_append, List.length_singleton]; omega)]
   exact ⟨o117.af k119, R117.af k119, dn5, fun k hk => df5 k (po hk)⟩
  obtain ⟨g1, g2⟩ := h46.next (by omega) hU' uf (X117.trans k119 (fun _ h => h) (fun _ h => h.elim)) hN ownN (fun k hk => footN k (po hk))
  exact ⟨s120, rfl, hK s120 _ _ ho120.bytes (hf120.mono (by have := X117.size; omega)) (ho120.le (by omega)) g1 g2 (fun j hj hh => by
    have q1 := hf120 j hj
    have q2 := X117.size
    rcases hh with hh | rfl | hh
    ·have := hU'.lt.1 j hh; omega
    ·omega
    ·have : j < w117.heap.size := R117.lt j hh
     omega)⟩
 ·have ful : fu.l = (NdE.msg ⟨fr, t, ce, cn, cd⟩).length := fu108.1
  refine (bx fu _ w108 fu108 (by omega)).mono ?_
  rintro e w119 ⟨s120, rfl, ho120, hf120, k119⟩
  have hN : lL w119 rn r ⟨s105, p.css ++ [ndC fr t fu]⟩ (fe (T ++ [⟨fr, t, ce, cn, cd⟩])) := by
   rw [tU, if_neg (by rw [List.length_append, List.length_singleton]; omega)]
   exact ⟨o108.af k119, R108.af k119, dn5, df5⟩
  obtain ⟨g1, g2⟩ := h46.next (by omega) hU' uf (X108.trans k119 (fun _ h => h) (fun _ h => h.elim)) hN ownN footN
  exact ⟨s120, rfl, hK s120 _ _ ho120.bytes (hf120.mono (by have := X108.size; omega)) (ho120.le (by omega)) g1 g2 (fun j hj hh => by
    have q1 := hf120 j hj
    have q2 := X108.size
    rcases hh with hh | rfl | hh
    ·have := hU'.lt.1 j hh; omega
    ·omega
    ·have : j < w108.heap.size := R108.lt j hh
     omega)⟩
end
section
variable {w w' : World} {n0 rn r rd m m' : Nat} {f f' : UnF} {d d' : aP} {s s' : UnS} {p p' : NdP} {T T' : List NdE}
theorem lf (A : Nat -> Addr) (h : cj w n0 rn r rd f d s m p T) (hE : aY A n0 w) (hn0 : n0 <= w.heap.size) (hm : m <= 2 ^ 58) (hst : d.stops = false) (fr : Int) (sl : Slc) (b : List UInt8) (hb : ag w sl b) (hl : sl.l <= 2 ^ 20) (hc : sl.l <= sl.c) :
  Calls Tryz.prog cl ⟨[aA rn, .int .i64 fr, sl.v]⟩ w fun e w' => ∃ (u : Slc), e = .returned (.tuple ⟨[u.v, .bool (ndStep (d.n / 64) s T fr b).1.isSome]⟩) /\ ag w' u (xa (ndStep (d.n / 64) s T fr b).1) /\ aF w u /\ u.l <= u.c /\
   ∃ f' d' p', cj w' n0 rn r rd f' d' (ndStep (d.n / 64) s T fr b).2.1 (m + 1) p' (ndStep (d.n / 64) s T fr b).2.2 /\ d'.n = d.n /\ d'.stops = false /\ NTo rn r rd f p f' p' w w' /\ ∀ j, au u j -> ¬ NB rn r rd f' p' j := by
 refine pN _ _ _ ?_
 unfold l6
 refine aq (fun r4 w5 hr4 hb4 k4 hs4 => ?_)
 have z5 := k4.size
 refine (uJ A sl b w5 (aj hb k4) hl hc ((hE.af k4).up (by omega))).mono ?_
 rintro e w7 ⟨q, pp, is, ev, rfl, hres, k7⟩
 obtain ⟨t, kd, ep, a, sq, t2, e2, n2, sp, rfl, rfl, hev, hcase⟩ := hres.Gz
 refine ⟨_, _, _, _, _, _, _, _, _, _, _, rfl, ?_⟩
 refine aq (fun r19 w20 hr19 hb19 k19 hs19 => aq (fun r21 w22 hr21 hb21 k21 hs21 => ?_))
 obtain ⟨a1, a2⟩ := ((ak.bO hb19).af k21).cx (n := 5) (cs := pn t kd ep a sq) rfl rfl
 refine ⟨a1, fun w23 hw23 => ?_⟩
 obtain ⟨o19, e19, z23⟩ := a2 w23 hw23
 obtain ⟨b1, b2⟩ := ((ak.bO hb21).ext e19 (by omega)).cx (n := 4) (cs := fT t2 e2 n2 sp) rfl rfl
 refine ⟨b1, fun w24 hw24 => ?_⟩
 obtain ⟨o21, e21, z24⟩ := b2 w24 hw24
 have z7 := k7.size
 have z20 := k19.size
 have z22 := k21.size
 have k22 : ai w7 w22 := k19.trans k21
 have k24' : ai w7 w24 := (k22.ext e19 (fun j hj => by omega)).ext e21 (fun j hj => by omega)
 have k24 : ai w w24 := (k4.trans k7).trans k24'
 have o4 : ak w24 r4 [.int .i64 fr] := ((ak.bO hb4).af k7).af k24'
 have o19' := o19.ext e21 (by omega)
 have h24 := h.af k24
 have nilB : ∀ w2, ag w2 (⟨none, 0, 0⟩ : Slc) [] := fun w2 => ⟨rfl, .inl rfl⟩
 have no : (ndStep (d.n / 64) s T fr b) = (none, s, T) -> ∃ (u : Slc), Ending.returned (Value.tuple ⟨[(⟨none, 0, 0⟩ : Slc).v, .bool false]⟩) = .returned (.tuple ⟨[u.v, .bool (ndStep (d.n / 64) s T fr b).1.isSome]⟩) /\ ag w24 u (xa (ndStep (d.n / 64) s T fr b).1) /\ aF w u /\ u.l <= u.c /\
   ∃ f' d' p', cj w24 n0 rn r rd f' d' (ndStep (d.n / 64) s T fr b).2.1 (m + 1) p' (ndStep (d.n / 64) s T fr b).2.2 /\ d'.n = d.n /\ d'.stops = false /\ NTo rn r rd f p f' p' w w24 /\ ∀ j, au u j -> ¬ NB rn r rd f' p' j := fun he => by
  rw [he]
  exact ⟨⟨none, 0, 0⟩, rfl, nilB _, aF.nil _ _ _, Nat.le_refl _, f, d, p, h24.up (by omega), rfl, hst, NTo.af k24, fun j hj => absurd hj (by rintro ⟨x, hx, _⟩; cases hx)⟩
 rcases hcase with ⟨hnil, rfl, db, hR, hbq, hcq, hfq⟩ | ⟨hnil, rfl, db, hR, _⟩ | ⟨hnil, j, hR⟩
 rotate_left
 ·refine ⟨fun _ => False, ⟨hev, ao (fun hh => by rw [hnil] at hh; cases hh) (fun _ => ao (fun _ => no (by unfold ndStep; rw [hR])) (fun hh => by cases hh))⟩, fun _ hh => hh.elim⟩
 ·refine ⟨fun _ => False, ⟨hev, ao (fun _ => no (by unfold ndStep; rw [hR])) (fun hh => by rw [hnil] at hh; cases hh)⟩, fun _ hh => hh.elim⟩
 have hright := Bc hR
 have hlen : (fe T).length <= 32 := by rw [wZ]; omega
 refine ⟨fun w2 => w2 = w24, ⟨hev, ao (fun hh => by rw [hnil] at hh; cases hh) (fun _ => ao (fun hh => by cases hh) (fun _ => aa rfl ⟨_, h24.N.c2, ao (fun hh => by cases hh) (fun _ => rfl)⟩))⟩, ?_⟩
 rintro w28 rfl
 intros
 refine aa rfl ⟨_, h24.N.c1, (pP h24.N fr t r4 r19 (o4.cell 0 (by simp)) (o19'.cell 0 (by simp)) (by omega)).mono ?_⟩
 rintro e w46 ⟨i, rfl, hfound, k46⟩
 have h46 := h24.af k46
 have kk46 := k24.trans k46
 rcases hfound with ⟨k, hk, rfl, hp, hno⟩ | ⟨rfl, hno⟩
 ·have hstep : ndStep (d.n / 64) s T fr b = (some (fe T)[k], s, T) := by
   unfold ndStep; rw [hR]; dsimp only; rw [Cl hk hp (fun j hj hjk => hno j hj hjk)]
  rw [hstep]
  obtain ⟨a, su, ha, hrow, hbu, hbl⟩ := h46.N.get hk
  have hsl := h46.N.t.sl
  have hbul := hbu.1
  refine ⟨_, rfl, ae (fun _ => aa rfl ⟨_, h46.N.c1, aa ha ⟨by omega, by omega, su, ?_, (bx su _ w46 hbu (by omega)).mono ?_⟩⟩) (fun hh => absurd (by omega) hh)⟩
  ·rw [show Int.toNat (k : Int) * 3 = k * 3 by omega]
   exact CH hrow 2 (by simp [ndC])
  rintro e w53 ⟨u, rfl, ho, hf, k53⟩
  exact ⟨u, rfl, u, rfl, ho.bytes, hf.mono (by have := kk46.size; omega), ho.le (by omega), f, d, p, (h46.af k53).up (by omega), rfl, hst, NTo.af (kk46.trans k53), fun j hj hh => by have := hf j hj; have := h46.lt.1 j hh; omega⟩
 -- a new request
 have hfnone : nO fr t T = none := Cm (fun j hj => hno j hj)
 have hstep : ndStep (d.n / 64) s T fr b = (some ⟨fr, t, (dx (d.n / 64) s kd ep a db).1.1, (dx (d.n / 64) s kd ep a db).1.2.1, (dx (d.n / 64) s kd ep a db).1.2.2⟩, (dx (d.n / 64) s kd ep a db).2, T ++ [⟨fr, t, (dx (d.n / 64) s kd ep a db).1.1, (dx (d.n / 64) s kd ep a db).1.2.1, (dx (d.n / 64) s kd ep a db).1.2.2⟩]) := by
  unfold ndStep; rw [hR]; dsimp only; rw [hfnone]
 rw [hstep]
 have o19k := o19'.af k46
 have o4k := o4.af k46
 have hbq46 : ag w46 sq db := aj hbq (k24'.trans k46)
 have ltB := h46.lt
 have ltB0 := h.lt
 have hE46 := hE.af kk46
 have z46 := kk46.size
 have z24 := k24.size
 have z246 := k46.size
 have l4 : r4 = w.heap.size := hr4
 refine ⟨_, rfl, ae (fun hh => absurd hh (by omega)) (fun _ => ⟨_, _, _, _, _, o19k.row, ?_⟩)⟩
 refine (Bb A h46.U hE46 (by omega) hm hst h46.N.o t kd ep a sq db hbq46 (by have := hright.2.2.2.2.1; omega) (fun j hj hh => by have := hfq j hj; have := ltB0.1 j (.inl hh); omega) hright.2.1).mono ?_
 rintro e w61 ⟨n, u, rfl, hsome, hnone, f', d', hU', hn', hs', uf⟩
 have hok : Hw (dx (d.n / 64) s kd ep a db).1 := Fk h46.U.T.1 hU'.T.1
 generalize hcv : (dx (d.n / 64) s kd ep a db) = cs' at hsome hnone hU' hok ⊢
 obtain ⟨⟨ce, cn, cd⟩, s2⟩ := cs'
 dsimp only at hsome hnone hU' ⊢
 obtain ⟨hok1, hok2, hok3, hok4⟩ := hok
 dsimp only at hok1 hok2 hok3 hok4
 have hlt19 : ∀ j, ce = some j -> j < 19 := fun j hj => (hok1 j hj).1
 have hrp : gl t (eN ce) cn cd.length := ⟨hright.1, Hx hlt19, ⟨hok2, hok3⟩, hok4⟩
 have n4 : ¬ UB r rd f r4 := fun hh => by have := ltB0.1 _ (.inl hh); omega
 have n19 : ¬ UB r rd f r19 := fun hh => by have := ltB0.1 _ (.inl hh); omega
 have o4u := o4k.ext uf.1.1 n4
 have o19u := o19k.ext uf.1.1 n19
 have hE61 : aY A n0 w61 := hE46.ext uf.1.1 h46.U.ge
 have z61 := uf.1.1.size
 have ltU' := hU'.lt
 refine ⟨n, u, _, rfl, _, bA.at hE61.1 11 (by omega), (Fl A ce hlt19 11 (by omega) w61 hE61.1).mono ?_⟩
 rintro e w67 ⟨rfl, rfl⟩
 refine ⟨_, rfl, ae (fun hh => absurd rfl (hok1 11 hh).2) (fun _ => ?_)⟩
 have kd67 : ai w67 (World.drew w67) := Ext.drew _ _
 refine ⟨_, (o19u.af kd67).cell 0 (by simp), ?_⟩
 -- what is known when the reply is to be told
 have fillJ : ∀ (w79 : World) (rr : Nat), ai w67 w79 -> w67.heap.size <= rr -> ak w79 rr (fT t (eN ce) 0 ⟨none, 0, 0⟩) -> isI (cF A ce) /\ BIf (isNilI (cF A ce)) (az w79 (⟨rr, 2, none⟩ : Addr) 1 /\ ∀ w81 : World, w81 = World.setCell w79 (⟨rr, 2, none⟩ : Addr) (.int .i64 n) -> az w81 (⟨rr, 3, none⟩ : Addr) 1 /\ ∀ w82 : World, w82 = World.setCell w81 (⟨rr, 3, none⟩ : Addr) u.v -> ∃ u2, ai w67 w82 /\ ak w82 rr (fT t (eN ce) cn u2) /\ ag w82 u2 cd)
   (∃ u2, ai w67 w79 /\ ak w79 rr (fT t (eN ce) cn u2) /\ ag w79 u2 cd) := by
  intro w79 rr k79 hrr o79
  refine ⟨aO A ce, ?_⟩
  cases hce : ce with
  | none =>
   obtain ⟨rfl, hbu⟩ := hsome hce
   refine ao (fun _ => ?_) (fun hh => by cases hh)
   obtain ⟨c1, c2⟩ := o79.aM 2 (by simp) (.int .i64 n)
   refine ⟨c1, fun w81 hw => ?_⟩
   obtain ⟨o81, e81, _⟩ := c2 w81 hw
   obtain ⟨d1, d2⟩ := o81.aM 3 (by simp) u.v
   refine ⟨d1, fun w82 hw2 => ?_⟩
   obtain ⟨o82, e82, _⟩ := d2 w82 hw2
   have k82 : ai w67 w82 := (k79.ext e81 (fun j hj => by omega)).ext e82 (fun j hj => by omega)
   subst hce
   exact ⟨u, k82, o82, aj hbu k82⟩
  | some j =>
   refine ao (fun hh => by cases hh) (fun _ => ?_)
   have h00 := hnone (by rw [hce]; intro hh; cases hh)
   injection h00 with g1 g2
   subst g1 g2
   subst hce
   exact ⟨⟨none, 0, 0⟩, k79, o79, nilB _⟩
 -- the reply is told and kept
 refine ⟨?_, ?_⟩
 ·refine (yr A ce hlt19 _ (hE61.af kd67).1).mono ?_
  rintro e w73 ⟨rfl, k73⟩
  have kd73 := kd67.trans k73
  refine ⟨_, rfl, ⟨_, (o19u.af kd73).cell 0 (by simp), rfl⟩, aq (fun r76 w77 hr76 hb76 k76 hs76 => ⟨⟨_, (o19u.af (kd73.trans k76)).cell 0 (by simp), rfl⟩, ?_⟩)⟩
  obtain ⟨c1, c2⟩ := (ak.bO hb76).cx (n := 4) (cs := fT t (eN ce) 0 ⟨none, 0, 0⟩) rfl rfl
  refine ⟨c1, fun w79 hw79 => ?_⟩
  obtain ⟨o79, e79, _⟩ := c2 w79 hw79
  have z73 := kd73.size
  have k79 : ai w67 w79 := (kd73.trans k76).ext e79 (fun j hj => by omega)
  refine ⟨fun w2 => ∃ u2, ai w67 w2 /\ ak w2 r76 (fT t (eN ce) cn u2) /\ ag w2 u2 cd, fillJ w79 r76 k79 (by omega) o79, ?_⟩
  rintro w83 ⟨u2, k83, o83, hb83⟩
  intros
  show CU rn r4 r19 r76 w83 (fun v w' => ∃ u : Slc, Ending.returned v = .returned (.tuple ⟨[u.v, .bool (some (⟨fr, t, ce, cn, cd⟩ : NdE)).isSome]⟩) /\ ag w' u (xa (some ⟨fr, t, ce, cn, cd⟩)) /\ aF w u /\ u.l <= u.c /\
   ∃ f' d' p', cj w' n0 rn r rd f' d' s2 (m + 1) p' (T ++ [⟨fr, t, ce, cn, cd⟩]) /\ d'.n = d.n /\ d'.stops = false /\ NTo rn r rd f p f' p' w w' /\ ∀ j, au u j -> ¬ NB rn r rd f' p' j)
  exact xb A h46 (by omega) hE61 hU' uf fr t ce cn cd hrp hlen r76 r4 r19 w83 u2 k83 o83 hb83 o4u o19u (fun u w' p' g1 g2 g3 g4 g5 g6 => ⟨u, rfl, g1, g2.mono (by omega), g3, f', d', p', g4, hn', hs', ai.nto kk46 g5, g6⟩)
 ·refine aq (fun r124 w125 hr124 hb124 k124 hs124 => ⟨⟨_, (o19u.af (kd67.trans k124)).cell 0 (by simp), rfl⟩, (yr A ce hlt19 _ (hE61.af (kd67.trans k124)).1).mono ?_⟩)
  rintro e w128 ⟨rfl, k128⟩
  have kd128 := (kd67.trans k124).trans k128
  obtain ⟨c1, c2⟩ := ((ak.bO hb124).af k128).cx (n := 4) (cs := fT t (eN ce) 0 ⟨none, 0, 0⟩) rfl rfl
  refine ⟨_, rfl, ⟨_, (o19u.af kd128).cell 0 (by simp), rfl⟩, c1, fun w131 hw131 => ?_⟩
  obtain ⟨o131, e131, _⟩ := c2 w131 hw131
  have zd67 := kd67.size
  have k131 : ai w67 w131 := kd128.ext e131 (fun j hj => by omega)
  refine ⟨fun w2 => ∃ u2, ai w67 w2 /\ ak w2 r124 (fT t (eN ce) cn u2) /\ ag w2 u2 cd, fillJ w131 r124 k131 (by omega) o131, ?_⟩
  rintro w83 ⟨u2, k83, o83, hb83⟩
  intros
  show CU rn r4 r19 r124 w83 (fun v w' => ∃ u : Slc, Ending.returned v = .returned (.tuple ⟨[u.v, .bool (some (⟨fr, t, ce, cn, cd⟩ : NdE)).isSome]⟩) /\ ag w' u (xa (some ⟨fr, t, ce, cn, cd⟩)) /\ aF w u /\ u.l <= u.c /\
   ∃ f' d' p', cj w' n0 rn r rd f' d' s2 (m + 1) p' (T ++ [⟨fr, t, ce, cn, cd⟩]) /\ d'.n = d.n /\ d'.stops = false /\ NTo rn r rd f p f' p' w w' /\ ∀ j, au u j -> ¬ NB rn r rd f' p' j)
  exact xb A h46 (by omega) hE61 hU' uf fr t ce cn cd hrp hlen r124 r4 r19 w83 u2 k83 o83 hb83 o4u o19u (fun u w' p' g1 g2 g3 g4 g5 g6 => ⟨u, rfl, g1, g2.mono (by omega), g3, f', d', p', g4, hn', hs', ai.nto kk46 g5, g6⟩)
end
end Go.D
namespace Go.D
open Go Go.Proofs
def d8 (bs : List UInt8) (j : Nat) : Nat := (bs.getD j 0).toNat
def valB (bs : List UInt8) : Nat -> Nat
 | 0 => 0
 | k + 1 => valB bs k + (d8 bs k % 128) * 2 ^ (7 * k)
theorem Hy (bs : List UInt8) (j : Nat) : d8 bs j < 256 := (bs.getD j 0).toNat_lt
theorem zq {bs : List UInt8} {k : Nat} (h : k < bs.length) : d8 bs k = bs[k].toNat := by unfold d8; simp [List.getD, h]
theorem vj {w : World} {s : Slc} {bs : List UInt8} (hb : ag w s bs) {i : Nat} (hi : i < bs.length) : ∃ a, s.p = some a /\ w.cell? (a.add i) = some (.int .u8 (d8 bs i : Int)) := by
 obtain ⟨a, ha, hc⟩ := cI hb hi
 exact ⟨a, ha, by rw [hc, zq hi]; rfl⟩
theorem GA (k : Nat) : 2 ^ (7 * (k + 1)) = 128 * 2 ^ (7 * k) := by rw [show 7 * (k + 1) = 7 + 7 * k by omega, Nat.pow_add]
theorem zr (bs : List UInt8) : ∀ k, valB bs k < 2 ^ (7 * k)
 | 0 => by simp [valB]
 | k + 1 => by
  have h := zr bs k
  have hd : (d8 bs k % 128) * 2 ^ (7 * k) <= 127 * 2 ^ (7 * k) := Nat.mul_le_mul_right _ (by omega)
  rw [valB, GA]
  omega
theorem pG (bs : List UInt8) : ∀ k, k <= 8 -> k <= bs.length -> (∀ j, j < k -> 128 <= d8 bs j) -> rawR 0 0 bs = rawR k (valB bs k) (bs.drop k)
 | 0, _, _, _ => by simp [valB]
 | k + 1, h8, hl, h => by
  rw [pG bs k (by omega) (by omega) (fun j hj => h j (by omega))]
  have hkl : k < bs.length := by omega
  have hk := h k (by omega)
  rw [kl hkl, rawR, <- zq hkl, if_pos ⟨hk, by omega⟩]
  rfl
theorem CV (bs : List UInt8) (k : Nat) (h8 : k <= 8) (hc : d8 bs k < 128) : 4611686018427387903 < valB bs (k + 1) ↔ (k = 8 /\ 64 <= d8 bs k) := by
 by_cases e : k = 8
 ·subst e
  have h := zr bs 8
  have e1 : valB bs (8 + 1) = valB bs 8 + (d8 bs 8 % 128) * 2 ^ (7 * 8) := rfl
  rw [e1]
  have e2 : (2 : Nat) ^ (7 * 8) = 72057594037927936 := rfl
  rw [e2] at h ⊢
  omega
 ·have h := zr bs (k + 1)
  have h2 : 2 ^ (7 * (k + 1)) <= 2 ^ 56 := Nat.pow_le_pow_right (by omega) (by omega)
  generalize 2 ^ (7 * (k + 1)) = p at h h2
  omega
def Bd (bs : List UInt8) (k : Nat) : Prop := 128 <= d8 bs k \/ (d8 bs k = 0 /\ 0 < k) \/ (k = 8 /\ 64 <= d8 bs k)
theorem Fo (bs : List UInt8) (k : Nat) (h8 : k <= 8) (hl : k < bs.length) (h : ∀ j, j < k -> 128 <= d8 bs j) (hs : ¬ (128 <= d8 bs k /\ k < 8)) (hb : Bd bs k) : rawR 0 0 bs = .error 3 := by
 rw [pG bs k h8 (by omega) h, kl hl, rawR, <- zq hl, if_neg hs, if_pos]
 rcases hb with g | g | g
 ·exact .inl g
 ·exact .inr (.inl g)
 ·by_cases e : 128 <= d8 bs k
  ·exact .inl e
  ·exact .inr (.inr ((CV bs k h8 (by omega)).2 g))
theorem DQ (bs : List UInt8) (k : Nat) (h8 : k <= 8) (hl : k < bs.length) (h : ∀ j, j < k -> 128 <= d8 bs j) (hb : ¬ Bd bs k) : rawR 0 0 bs = .ok (valB bs (k + 1), bs.drop (k + 1)) /\ valB bs (k + 1) <= 4611686018427387903 := by
 have h128 : d8 bs k < 128 := Nat.lt_of_not_le (fun g => hb (.inl g))
 have hv := CV bs k h8 h128
 refine ⟨?_, Nat.le_of_not_lt (fun g => hb (.inr (.inr (hv.1 g))))⟩
 rw [pG bs k h8 (by omega) h, kl hl, rawR, <- zq hl, if_neg (by omega), if_neg]
 ·rfl
 ·rintro (g | g | g)
  ·omega
  ·exact hb (.inr (.inl g))
  ·exact hb (.inr (.inr (hv.1 g)))
def lg (w : World) (r : Nat) (F : Nat -> Prop) (st : InS) : Prop := ∃ s : Slc, ak w r [s.v, .int .i64 (eN st.2)] /\ ag w s st.1 /\ s.l <= s.c /\ (∀ k, au s k -> F k) /\ ¬ F r
theorem lg.ext {M F : Nat -> Prop} {w w' : World} {r : Nat} {st : InS} (h : lg w r F st) (he : Ext M w w') (h1 : ¬ M r) (h2 : ∀ k, F k -> ¬ M k) : lg w' r F st := by
 obtain ⟨s, g1, g2, g3, g4, g5⟩ := h
 exact ⟨s, g1.ext he h1, aE g2 he (fun k hk => h2 k (g4 k hk)), g3, g4, g5⟩
theorem lg.af {F : Nat -> Prop} {w w' : World} {r : Nat} {st : InS} (h : lg w r F st) (he : ai w w') : lg w' r F st := h.ext he (fun h => h) (fun _ _ h => h)
theorem uL (r : Nat) (F : Nat -> Prop) (st : InS) (most : Int) (w : World) (h : lg w r F st) (hl : st.1.length <= 2 ^ 30) :
  Calls Tryz.prog aG ⟨[.pointer (some ⟨r, 0, none⟩), .int .i64 most]⟩ w fun e w' => e = .returned (.int .i64 (rNum most st).1) /\ lg w' r F (rNum most st).2 /\ Ext (eqB r) w w' := by
 obtain ⟨bs, er⟩ := st
 refine lE _ _ ?_
 unfold iO
 have h0 := h
 obtain ⟨s, ho, hb, hc, hF, hr⟩ := h
 dsimp only at hl hb ho
 have hsl := hb.1
 refine aa rfl ⟨_, by rw [add_lit]; exact ho.cell 1 (by simp), ?_⟩
 cases er with
 | some k =>
  refine bg (fun _ => ⟨rfl, h0, Ext.refl _ _⟩) (fun hh => ?_)
  have : ((k + 1 : Nat) : Int) = 0 := hh
  omega
 | none =>
  refine bg (fun hh => absurd rfl hh) (fun _ => ?_)
  refine ⟨fun i w2 => w2 = w /\ ∃ k : Nat, i = k /\ k <= 8 /\ k <= bs.length /\ (∀ j, j < k -> 128 <= d8 bs j) /\ (k = bs.length \/ ¬ (128 <= d8 bs k /\ k < 8)), ⟨fun i w2 => w2 = w /\ ∃ k : Nat, i = k /\ k <= 8 /\ k <= bs.length /\ (∀ j, j < k -> 128 <= d8 bs j), fun i _ => ((bs.length : Int) - i).toNat, ⟨rfl, 0, rfl, by omega, by omega, fun j hj => by omega⟩, ?_⟩, ?_⟩
  ·rintro i w9 ⟨rfl, k, rfl, hk8, hkl, hge⟩
   intros
   refine aa rfl ⟨s, ho.cell 0 (by simp), ae (fun h1 => ae (fun h2 => aa rfl ⟨s, ho.cell 0 (by simp), ?_⟩) (fun h2 => ⟨rfl, k, rfl, hk8, hkl, hge, .inr (by omega)⟩)) (fun h1 => ⟨rfl, k, rfl, hk8, hkl, hge, .inl (by omega)⟩)⟩
   obtain ⟨a, ha, hcell⟩ := vj hb (i := k) (by omega)
   refine aa ha ⟨by omega, h1, _, by rw [show (Int.toNat (k : Int)) * 1 = k by omega]; exact hcell, ae (fun h3 => ⟨aB (by omega), ⟨rfl, k + 1, rfl, by omega, by omega, fun j hj => ?_⟩, by dsimp only; omega⟩) (fun h3 => ⟨rfl, k, rfl, hk8, hkl, hge, .inr (by omega)⟩)⟩
   by_cases e : j = k
   ·subst e; omega
   ·exact hge j (by omega)
  ·rintro i w40 ⟨rfl, k, rfl, hk8, hkl, hge, hstop⟩
   intros
   have fail : ∀ j : Nat, az w40 ((⟨r, 0, none⟩ : Addr).add 1) 1 /\ ∀ w67 : World, w67 = World.setCell w40 ((⟨r, 0, none⟩ : Addr).add 1) (.int .i64 ((j + 1 : Nat) : Int)) -> lg w67 r F (bs, some j) /\ Ext (eqB r) w40 w67 := by
    intro j
    rw [add_lit]
    obtain ⟨g1, g2⟩ := ho.aM 1 (by simp) (.int .i64 ((j + 1 : Nat) : Int))
    refine ⟨g1, fun w67 hw => ?_⟩
    obtain ⟨o, e, _⟩ := g2 w67 hw
    exact ⟨⟨s, o, aE hb e (fun q hq hh => hr (by have := hF q hq; rw [show q = r from hh] at this; exact this)), hc, hF, hr⟩, e⟩
   refine aa rfl ⟨s, ho.cell 0 (by simp), ae (fun h1 => aa rfl ?_) (fun h1 => ?_)⟩
   ·have hkk : k = bs.length := by omega
    have hraw : rawR 0 0 bs = .error 1 := by
     rw [pG bs k hk8 hkl hge, hkk, List.drop_length, rawR]
    rw [sH most hraw]
    exact ⟨(fail 1).1, fun w67 hw => ⟨rfl, (fail 1).2 w67 hw⟩⟩
   have hkl' : k < bs.length := by omega
   have hst : ¬ (128 <= d8 bs k /\ k < 8) := hstop.resolve_left (by omega)
   have bad : Bd bs k -> rNum most (bs, none) = (0, (bs, some 3)) := fun hb' => sH most (Fo bs k hk8 hkl' hge hst hb')
   obtain ⟨a, ha, hcell0⟩ := vj hb hkl'
   have hcell : w40.cell? (a.add ((Int.toNat (k : Int)) * 1)) = some (.int .u8 (d8 bs k : Int)) := by rw [show (Int.toNat (k : Int)) * 1 = k by omega]; exact hcell0
   have hkk : ((k : Nat) : Int) < ((s.l : Nat) : Int) := by omega
   refine ⟨fun w2 => w2 = w40 /\ ¬ Bd bs k, aa rfl ⟨s, ho.cell 0 (by simp), aa ha ⟨by omega, hkk, _, hcell, ae (fun g => aa rfl ?_) (fun g => aa rfl ⟨s, ho.cell 0 (by simp), aa ha ⟨by omega, hkk, _, hcell, ae (fun g2 => ae (fun g3 => aa rfl ?_) (fun g3 => ae (fun g4 => aa rfl ⟨s, ho.cell 0 (by simp), aa ha ⟨by omega, hkk, _, hcell, ae (fun g5 => aa rfl ?_) (fun g5 => ⟨rfl, ?_⟩)⟩⟩) (fun g4 => ⟨rfl, ?_⟩))) (fun g2 => ae (fun g4 => aa rfl ⟨s, ho.cell 0 (by simp), aa ha ⟨by omega, hkk, _, hcell, ae (fun g5 => aa rfl ?_) (fun g5 => ⟨rfl, ?_⟩)⟩⟩) (fun g4 => ⟨rfl, ?_⟩))⟩⟩)⟩⟩, ?_⟩
   ·rw [bad (.inl (by omega))]
    exact ⟨(fail 3).1, fun w67 hw => ⟨rfl, (fail 3).2 w67 hw⟩⟩
   ·rw [bad (.inr (.inl (by omega)))]
    exact ⟨(fail 3).1, fun w67 hw => ⟨rfl, (fail 3).2 w67 hw⟩⟩
   ·rw [bad (.inr (.inr (by omega)))]
    exact ⟨(fail 3).1, fun w67 hw => ⟨rfl, (fail 3).2 w67 hw⟩⟩
   ·unfold Bd; omega
   ·unfold Bd; omega
   ·rw [bad (.inr (.inr (by omega)))]
    exact ⟨(fail 3).1, fun w67 hw => ⟨rfl, (fail 3).2 w67 hw⟩⟩
   ·unfold Bd; omega
   ·unfold Bd; omega
   rintro w93 ⟨rfl, hgood⟩
   intros
   obtain ⟨hraw, hV⟩ := DQ bs k hk8 hkl' hge hgood
   refine ⟨fun n j w2 => w2 = w93 /\ ∃ m N : Nat, j = (m : Int) - 1 /\ n = (N : Int) /\ m <= k + 1 /\ N * 2 ^ (7 * m) + valB bs m = valB bs (k + 1), fun _ j _ => (j + 1).toNat, ⟨rfl, k + 1, 0, by omega, rfl, by omega, by omega⟩, ?_⟩
   rintro n j w138 ⟨rfl, m, N, rfl, rfl, hm, heq⟩
   intros
   refine ae (fun h2 => ?_) (fun h2 => ?_)
   ·obtain ⟨q, rfl⟩ : ∃ q, m = q + 1 := ⟨m - 1, by omega⟩
    have ej : (((q + 1 : Nat) : Int) - 1) = (q : Int) := by omega
    rw [ej]
    obtain ⟨a, ha, hcq⟩ := vj hb (i := q) (by omega)
    have hd := Hy bs q
    rw [GA, valB] at heq
    have hN : (N * 128 + d8 bs q % 128) * 2 ^ (7 * q) + valB bs q = valB bs (k + 1) := by
     rw [<- heq, Nat.add_mul, Nat.mul_assoc]; omega
    have hpos : 0 < 2 ^ (7 * q) := Nat.pow_pos (by omega)
    have hle : N * 128 + d8 bs q % 128 <= valB bs (k + 1) := by
     have := Nat.le_mul_of_pos_right (N * 128 + d8 bs q % 128) hpos
     omega
    refine ⟨aB (by omega), aa rfl ⟨s, ho.cell 0 (by simp), aa ha ⟨by omega, by omega, _, by rw [show (Int.toNat (q : Int)) * 1 = q by omega]; exact hcq, aB (by omega), by omega, by omega, aB (by omega), aB (by omega), ⟨rfl, q, N * 128 + d8 bs q % 128, rfl, by omega, by omega, hN⟩, by dsimp only; omega⟩⟩⟩
   ·have hm0 : m = 0 := by omega
    subst hm0
    have hN : N = valB bs (k + 1) := by rw [<- heq]; simp [valB]
    subst hN
    have hrest : ag w138 (Slc.sub s 1 (Int.toNat ((k : Int) + 1)) s.l s.c) (bs.drop (k + 1)) := by
     have := bq hb (lo := k + 1) (hi := s.l) (c := s.c) (by omega) (by omega) (by omega)
     rw [show Int.toNat ((k : Int) + 1) = k + 1 by omega]
     rw [hsl, List.take_length] at this
     rw [hsl]; exact this
    have hsc : (Slc.sub s 1 (Int.toNat ((k : Int) + 1)) s.l s.c).l <= (Slc.sub s 1 (Int.toNat ((k : Int) + 1)) s.l s.c).c := by simp only [Slc.sub]; omega
    obtain ⟨c1, c2⟩ := ho.aM 0 (by simp) (Slc.sub s 1 (Int.toNat ((k : Int) + 1)) s.l s.c).v
    have nr : ∀ q, au s q -> ¬ q = r := fun q hq hh => hr (hh ▸ hF q hq)
    refine ae (fun h3 => ?_) (fun h3 => ?_)
    ·rw [wQ hraw h3]
     refine aa rfl ⟨s, ho.cell 0 (by simp), aB (by omega), by omega, by omega, by omega, by omega, aa rfl ⟨c1, fun w163 hw => aa rfl ?_⟩⟩
     obtain ⟨o1, e1, _⟩ := c2 w163 hw
     rw [add_lit]
     obtain ⟨d1, d2⟩ := o1.aM 1 (by simp) (.int .i64 1)
     refine ⟨d1, fun w165 hw2 => ?_⟩
     obtain ⟨o2, e2, _⟩ := d2 w165 hw2
     have e12 : Ext (eqB r) w138 w165 := Ext.trans' e1 e2
     exact ⟨rfl, ⟨_, o2, aE hrest e12 (fun q hq => nr q (iG hq)), hsc, fun q hq => hF q (iG hq), hr⟩, e12⟩
    ·rw [vg hraw h3]
     refine aa rfl ⟨s, ho.cell 0 (by simp), aB (by omega), by omega, by omega, by omega, by omega, aa rfl ⟨c1, fun w163 hw => ?_⟩⟩
     obtain ⟨o1, e1, _⟩ := c2 w163 hw
     exact ⟨rfl, ⟨_, o1, aE hrest e1 (fun q hq => nr q (iG hq)), hsc, fun q hq => hF q (iG hq), hr⟩, e1⟩
theorem zt (r : Nat) (F : Nat -> Prop) (st : InS) (most : Int) (w : World) (h : lg w r F st) (hl : st.1.length <= 2 ^ 30) :
  Calls Tryz.prog bD ⟨[.pointer (some ⟨r, 0, none⟩), .int .i64 most]⟩ w fun e w' => e = .returned (fG (gW most st).1) /\ lg w' r F (gW most st).2 /\ Ext (eqB r) w w' := by
 refine kA _ _ ?_
 unfold iC
 refine (uL r F st most w h hl).mono ?_
 rintro e w4 ⟨rfl, h4, k4⟩
 have hlen := mj most st
 have hnn := uD most st
 unfold gW
 generalize hst : rNum most st = x at h4 hlen hnn ⊢
 obtain ⟨n, bs, er⟩ := x
 obtain ⟨s, ho, hb, hc, hF, hr⟩ := h4
 dsimp only at hlen hnn ho hb ⊢
 have hsl := hb.1
 have nr : ∀ q, au s q -> ¬ q = r := fun q hq hh => hr (hh ▸ hF q hq)
 refine ⟨_, rfl, aa rfl ⟨_, by rw [add_lit]; exact ho.cell 1 (by simp), ?_⟩⟩
 cases er with
 | some j =>
  refine bg (fun _ => ⟨rfl, ⟨s, ho, hb, hc, hF, hr⟩, k4⟩) (fun hh => ?_)
  have : ((j + 1 : Nat) : Int) = 0 := hh
  omega
 | none =>
  refine bg (fun hh => absurd rfl hh) (fun _ => aa rfl ⟨s, ho.cell 0 (by simp), ae (fun h1 => aa rfl ?_) (fun h1 => aa rfl ⟨s, ho.cell 0 (by simp), by omega, by omega, by omega, by omega, ?_⟩)⟩)
  ·rw [jS (by omega), add_lit]
   obtain ⟨d1, d2⟩ := ho.aM 1 (by simp) (.int .i64 2)
   refine ⟨d1, fun w11 hw => ?_⟩
   obtain ⟨o2, e2, _⟩ := d2 w11 hw
   exact ⟨rfl, ⟨s, o2, aE hb e2 nr, hc, hF, hr⟩, Ext.trans' k4 e2⟩
  ·rw [mm (by omega)]
   have ht : ag w4 (Slc.sub s 1 0 (Int.toNat n) s.c) (bs.take n.toNat) := by
    have := bq hb (lo := 0) (hi := n.toNat) (c := s.c) (by omega) (by omega) (by omega)
    simpa using this
   have hrest : ag w4 (Slc.sub s 1 (Int.toNat n) s.l s.c) (bs.drop n.toNat) := by
    have := bq hb (lo := n.toNat) (hi := s.l) (c := s.c) (by omega) (by omega) (by omega)
    rw [hsl, List.take_length] at this
    rw [hsl]; exact this
   have hsc : (Slc.sub s 1 (Int.toNat n) s.l s.c).l <= (Slc.sub s 1 (Int.toNat n) s.l s.c).c := by simp only [Slc.sub]; omega
   obtain ⟨c1, c2⟩ := ho.aM 0 (by simp) (Slc.sub s 1 (Int.toNat n) s.l s.c).v
   refine ⟨_, ht, aa rfl ⟨s, ho.cell 0 (by simp), by omega, by omega, by omega, by omega, aa rfl ⟨c1, fun w20 hw => ?_⟩⟩⟩
   obtain ⟨o1, e1, _⟩ := c2 w20 hw
   exact ⟨rfl, ⟨_, o1, aE hrest e1 (fun q hq => nr q (iG hq)), hsc, fun q hq => hF q (iG hq), hr⟩, Ext.trans' k4 e1⟩
theorem uM (r : Nat) (F : Nat -> Prop) (st : InS) (w : World) (h : lg w r F st) :
  Calls Tryz.prog dL ⟨[.pointer (some ⟨r, 0, none⟩)]⟩ w fun e w' => e = .returned (.int .i64 (eN (lK st))) /\ w' = w := by
 refine lG _ ?_
 unfold iP
 obtain ⟨bs, er⟩ := st
 obtain ⟨s, ho, hb, hc, hF, hr⟩ := h
 dsimp only at hb ho
 have hsl := hb.1
 refine aa rfl ⟨_, by rw [add_lit]; exact ho.cell 1 (by simp), ?_⟩
 cases er with
 | some j =>
  refine ae (fun hh => ?_) (fun _ => aa rfl ⟨_, by rw [add_lit]; exact ho.cell 1 (by simp), rfl, rfl⟩)
  have : ((j + 1 : Nat) : Int) = 0 := hh
  omega
 | none =>
  refine ae (fun _ => aa rfl ⟨s, ho.cell 0 (by simp), ae (fun h1 => ?_) (fun h1 => ?_)⟩) (fun hh => absurd rfl hh)
  ·rw [lK, if_pos (by omega)]; exact ⟨rfl, rfl⟩
  ·rw [lK, if_neg (by omega)]
   exact aa rfl ⟨_, by rw [add_lit]; exact ho.cell 1 (by simp), rfl, rfl⟩
end Go.D
namespace Go.D
open Go Go.Proofs
def G3 (w w' : World) (q p : List Value) (kind e : Int) : Except Nat Msg -> Prop
 | .error k => q = Z5 /\ p = Z4 /\ kind = 0 /\ e = ((k + 1 : Nat) : Int)
 | .ok (.ask t k e' a d) => ∃ s, q = pn t k e' a s /\ ag w' s d /\ s.l <= s.c /\ aF w s /\ p = Z4 /\ kind = 1 /\ e = 0
 | .ok (.tell t e' n d) => ∃ s, p = fT t e' n s /\ ag w' s d /\ s.l <= s.c /\ aF w s /\ q = Z5 /\ kind = 2 /\ e = 0
structure RS0 (w0 w : World) (r2 r4 r6 r8 : Nat) (c6 c8 : List Value) : Prop where
 o2 : ak w r2 Z5
 o4 : ak w r4 Z4
 o6 : ak w r6 c6
 o8 : ak w r8 c8
 kp : ai w0 w
 b : w0.heap.size <= r2 /\ r2 < r4 /\ r4 < r6 /\ r6 < r8
structure RS2 (w0 w : World) (r : Nat) (F : Nat -> Prop) (r2 r4 r6 r8 : Nat) (st : InS) (c6 c8 : List Value) : Prop where
 z : RS0 w0 w r2 r4 r6 r8 c6 c8
 rin : lg w r F st
 len : st.1.length <= 2 ^ 30
 br : r8 < r
 f : ∀ k, F k -> r8 < k /\ k < r
section
variable {w0 w w' : World} {r : Nat} {F : Nat -> Prop} {r2 r4 r6 r8 : Nat} {st st' : InS} {c6 c8 c' : List Value}
theorem RS0.af (h : RS0 w0 w r2 r4 r6 r8 c6 c8) (k : ai w w') : RS0 w0 w' r2 r4 r6 r8 c6 c8 := ⟨h.o2.af k, h.o4.af k, h.o6.af k, h.o8.af k, h.kp.trans k, h.b⟩
theorem RS2.step (h : RS2 w0 w r F r2 r4 r6 r8 st c6 c8) (he : Ext (eqB r) w w') (hi : lg w' r F st') (hl : st'.1.length <= 2 ^ 30) : RS2 w0 w' r F r2 r4 r6 r8 st' c6 c8 := by
 obtain ⟨d1, d2, d3, d4⟩ := h.z.b
 have d5 := h.br
 have ne : ∀ x, x ≠ r -> ¬ eqB r x := fun x hx hh => hx hh
 exact ⟨⟨h.z.o2.ext he (ne _ (by omega)), h.z.o4.ext he (ne _ (by omega)), h.z.o6.ext he (ne _ (by omega)), h.z.o8.ext he (ne _ (by omega)), h.z.kp.ext he (fun k hk => by rw [show k = r from hk]; omega), h.z.b⟩, hi, hl, h.br, h.f⟩
theorem RS2.af (h : RS2 w0 w r F r2 r4 r6 r8 st c6 c8) (k : ai w w') : RS2 w0 w' r F r2 r4 r6 r8 st c6 c8 := ⟨h.z.af k, h.rin.af k, h.len, h.br, h.f⟩
theorem RS2.HR (h : RS2 w0 w r F r2 r4 r6 r8 st c6 c8) (ho : ak w' r6 c') (he : Ext (fun x => x = r6) w w') : RS2 w0 w' r F r2 r4 r6 r8 st c' c8 := by
 obtain ⟨d1, d2, d3, d4⟩ := h.z.b
 have d5 := h.br
 exact ⟨⟨h.z.o2.ext he (by omega), h.z.o4.ext he (by omega), ho, h.z.o8.ext he (by omega), h.z.kp.ext he (fun k hk => by omega), h.z.b⟩, h.rin.ext he (by omega) (fun k hk hh => by have := h.f k hk; omega), h.len, h.br, h.f⟩
theorem RS2.HS (h : RS2 w0 w r F r2 r4 r6 r8 st c6 c8) (ho : ak w' r8 c') (he : Ext (fun x => x = r8) w w') : RS2 w0 w' r F r2 r4 r6 r8 st c6 c' := by
 obtain ⟨d1, d2, d3, d4⟩ := h.z.b
 have d5 := h.br
 exact ⟨⟨h.z.o2.ext he (by omega), h.z.o4.ext he (by omega), h.z.o6.ext he (by omega), ho, h.z.kp.ext he (fun k hk => by omega), h.z.b⟩, h.rin.ext he (by omega) (fun k hk hh => by have := h.f k hk; omega), h.len, h.br, h.f⟩
theorem RS2.Fp (h : RS2 w0 w r F r2 r4 r6 r8 st c6 c8) (k : Nat) (hk : k < c6.length) (v : Value) : az w (⟨r6, k, none⟩ : Addr) 1 /\ ∀ w2 : World, w2 = w.setCell (⟨r6, k, none⟩ : Addr) v -> RS2 w0 w2 r F r2 r4 r6 r8 st (c6.set k v) c8 /\ Ext (fun x => x = r6) w w2 := by
 obtain ⟨g1, g2⟩ := h.z.o6.aM k hk v
 exact ⟨g1, fun w2 hw => by obtain ⟨o, e, _⟩ := g2 w2 hw; exact ⟨h.HR o e, e⟩⟩
theorem RS2.Gj (h : RS2 w0 w r F r2 r4 r6 r8 st c6 c8) (k : Nat) (hk : k < c8.length) (v : Value) : az w (⟨r8, k, none⟩ : Addr) 1 /\ ∀ w2 : World, w2 = w.setCell (⟨r8, k, none⟩ : Addr) v -> RS2 w0 w2 r F r2 r4 r6 r8 st c6 (c8.set k v) /\ Ext (fun x => x = r8) w w2 := by
 obtain ⟨g1, g2⟩ := h.z.o8.aM k hk v
 exact ⟨g1, fun w2 hw => by obtain ⟨o, e, _⟩ := g2 w2 hw; exact ⟨h.HS o e, e⟩⟩
theorem RS2.Num (h : RS2 w0 w r F r2 r4 r6 r8 st c6 c8) (most : Int) :
  Calls Tryz.prog aG ⟨[.pointer (some ⟨r, 0, none⟩), .int .i64 most]⟩ w fun e w' => e = .returned (.int .i64 (rNum most st).1) /\ RS2 w0 w' r F r2 r4 r6 r8 (rNum most st).2 c6 c8 :=
 (uL r F st most w h.rin h.len).mono (by
  rintro e w' ⟨rfl, g1, g2⟩
  exact ⟨rfl, h.step g2 g1 (Nat.le_trans (mj most st) h.len)⟩)
theorem RS2.Text (h : RS2 w0 w r F r2 r4 r6 r8 st c6 c8) (most : Int) :
  Calls Tryz.prog bD ⟨[.pointer (some ⟨r, 0, none⟩), .int .i64 most]⟩ w fun e w' => e = .returned (fG (gW most st).1) /\ RS2 w0 w' r F r2 r4 r6 r8 (gW most st).2 c6 c8 :=
 (zt r F st most w h.rin h.len).mono (by
  rintro e w' ⟨rfl, g1, g2⟩
  refine ⟨rfl, h.step g2 g1 (Nat.le_trans ?_ (Nat.le_trans (mj most st) h.len))⟩
  unfold gW
  generalize rNum most st = x
  obtain ⟨n, bs, er⟩ := x
  cases er with
  | some j => exact Nat.le_refl _
  | none =>
   by_cases hh : (bs.length : Int) < n
   ·rw [jS hh]; exact Nat.le_refl _
   ·rw [mm hh]; simp)
theorem RS0.ret (h : RS0 w0 w r2 r4 r6 r8 c6 c8) {z5 z4 : List Value} (l5 : z5.length = 5) (l4 : z4.length = 4) {K : World -> Prop} (hK : ∀ w3, ai w0 w3 -> Ext (fun j => j = r2 \/ j = r4) w w3 -> ak w3 r2 z5 -> ak w3 r4 z4 -> K w3) :
  az w (⟨r2, 0, none⟩ : Addr) 5 /\ ∀ w1 : World, w1 = setCells w (⟨r2, 0, none⟩ : Addr) 0 z5 -> ak w1 r8 c8 /\ az w1 (⟨r4, 0, none⟩ : Addr) 4 /\ ∀ w2 : World, w2 = setCells w1 (⟨r4, 0, none⟩ : Addr) 0 z4 -> K w2 := by
 obtain ⟨d1, d2, d3, d4⟩ := h.b
 obtain ⟨a1, a2⟩ := h.o2.cx (n := 5) rfl l5
 refine ⟨a1, fun w1 hw => ?_⟩
 obtain ⟨o, e, z⟩ := a2 w1 hw
 obtain ⟨b1, b2⟩ := (h.o4.ext e (by omega)).cx (n := 4) rfl l4
 refine ⟨h.o8.ext e (by omega), b1, fun w2 hw2 => ?_⟩
 obtain ⟨o', e', z'⟩ := b2 w2 hw2
 exact hK w2 ((h.kp.ext e (fun k hk => by omega)).ext e' (fun k hk => by omega)) ((e.mono (fun j hj => Or.inl hj)).trans e' (fun _ h => h) (fun j hj => .inl (.inr hj))) (o.ext e' (by omega)) o'
end
theorem Gk {e : Option Nat} (h : eN e = 0) : e = none := by
 cases e with
 | none => rfl
 | some k => have : ((k + 1 : Nat) : Int) = 0 := h; omega
def yt (w0 w : World) (r : Nat) (F : Nat -> Prop) (r2 r4 r6 r8 : Nat) (st : Int × InS) : Prop :=
 if st.1 = 2 then ∃ s, ag w s (bU st.2).d /\ s.l <= s.c /\ (∀ j, au s j -> r8 < j) /\ RS2 w0 w r F r2 r4 r6 r8 (bU st.2).st Z5 (fT (bU st.2).t (bU st.2).e (bU st.2).n s)
 else ∃ s, ag w s (bB st.2).d /\ s.l <= s.c /\ (∀ j, au s j -> r8 < j) /\ RS2 w0 w r F r2 r4 r6 r8 (bB st.2).st (pn (bB st.2).t (bB st.2).k (bB st.2).e (bB st.2).a s) Z4
theorem xc (s : Slc) (b : List UInt8) (w : World) (hb : ag w s b) (hl : s.l <= 2 ^ 20) (hc : s.l <= s.c) :
  Calls Tryz.prog eL ⟨[s.v]⟩ w fun x w' => ∃ (q p : List Value) (kind e : Int), x = .returned (.tuple ⟨[.agg ⟨q⟩, .agg ⟨p⟩, .int .i64 kind, .int .i64 e]⟩) /\ G3 w w' q p kind e (readR b) /\ ai w w' := by
 refine mL _ ?_
 unfold jH
 refine aq (fun r2 w3 hr2 hb2 k2 hs2 => aq (fun r4 w5 hr4 hb4 k4 hs4 => aq (fun r6 w7 hr6 hb6 k6 hs6 => aq (fun r8 w9 hr8 hb8 k8 hs8 => ?_))))
 obtain ⟨a1, a2⟩ := ((ak.bO hb6).af k8).cx (n := 5) (cs := Z5) rfl rfl
 refine ⟨a1, fun w10 hw10 => ?_⟩
 obtain ⟨o6, e6, z6⟩ := a2 w10 hw10
 obtain ⟨b1, b2⟩ := ((ak.bO hb8).ext e6 (by omega)).cx (n := 4) (cs := Z4) rfl rfl
 refine ⟨b1, fun w11 hw11 => ?_⟩
 obtain ⟨o8, e8, z8⟩ := b2 w11 hw11
 have k9 := ((k2.trans k4).trans k6).trans k8
 have k11 : ai w w11 := (k9.ext e6 (fun j hj => by omega)).ext e8 (fun j hj => by omega)
 have h11 : RS0 w w11 r2 r4 r6 r8 Z5 Z4 := ⟨(((((ak.bO hb2).af k4).af k6).af k8).ext e6 (by omega)).ext e8 (by omega), ((((ak.bO hb4).af k6).af k8).ext e6 (by omega)).ext e8 (by omega), o6.ext e8 (by omega), o8, k11, by omega, by omega, by omega, by omega⟩
 refine (xH s b w11 (aj hb k11) hl hc).mono ?_
 rintro x w13 ⟨s14, s15, rfl, hres, k13⟩
 have h13 := h11.af k13
 refine ⟨s14, s15, _, rfl, ?_⟩
 -- an error is answered
 have bad : ∀ (w19 : World) (j : Nat) (c6 c8 : List Value), RS0 w w19 r2 r4 r6 r8 c6 c8 -> az w19 (⟨r2, 0, none⟩ : Addr) 5 /\ ∀ w1 : World, w1 = setCells w19 (⟨r2, 0, none⟩ : Addr) 0 Z5 -> ak w1 r8 c8 /\ az w1 (⟨r4, 0, none⟩ : Addr) 4 /\ ∀ w2 : World, w2 = setCells w1 (⟨r4, 0, none⟩ : Addr) 0 Z4 -> ai w w2 /\ ak w2 r2 Z5 /\ ak w2 r4 Z4 := fun w19 j c6 c8 h => h.ret rfl rfl (fun w3 kp _ o2 o4 => ⟨kp, o2, o4⟩)
 obtain ⟨er, her, hbad, hgood⟩ : ∃ er : Option Nat, (CS (eI b) = 0 -> (0 : Int) < ((s15.l : Nat) : Int) -> er = some 3) /\ (∀ j, er = some j -> readR b = .error j) /\ (er = none -> ∃ x, eI b = .ok (x, [])) /\ (¬ (CS (eI b) = 0 /\ (0 : Int) < ((s15.l : Nat) : Int)) -> eN er = CS (eI b)) := by
  cases ho : eI b with
  | error k =>
   rw [ho] at hres
   refine ⟨some k, fun h => ?_, fun j hj => ?_, (fun h => by cases h), fun _ => rfl⟩
   ·have : ((k + 1 : Nat) : Int) = 0 := h
    omega
   ·cases hj; unfold readR; rw [ho]
  | ok xy =>
   obtain ⟨x, y⟩ := xy
   rw [ho] at hres
   have hyl := hres.2.1.1
   by_cases hy : 0 < y.length
   ·refine ⟨some 3, fun _ _ => rfl, fun j hj => ?_, (fun h => by cases h), fun h => absurd ⟨rfl, by omega⟩ h⟩
    cases hj; unfold readR; rw [ho]; simp [hy]
   ·have : y = [] := List.eq_nil_of_length_eq_zero (by omega)
    subst this
    refine ⟨none, fun _ h => ?_, (fun j hj => by cases hj), fun _ => ⟨x, rfl⟩, fun _ => rfl⟩
    simp at hyl; omega
 refine ⟨fun e w2 => e = eN er /\ w2 = w13, ae (fun g => ae (fun g2 => ?_) (fun g2 => ?_)) (fun g => ?_), ?_⟩
 ·rw [her g g2]; exact ⟨rfl, rfl⟩
 ·exact ⟨(hgood.2 (fun h => g2 h.2)).symm, rfl⟩
 ·exact ⟨(hgood.2 (fun h => g h.1)).symm, rfl⟩
 rintro e18 w19 ⟨rfl, rfl⟩
 intros
 refine bg (fun g => ?_) (fun g => ?_)
 ·obtain ⟨j, rfl⟩ : ∃ j, er = some j := by
   cases er with
   | none => exact absurd rfl g
   | some j => exact ⟨j, rfl⟩
  rw [hbad j rfl]
  have hd := h13.af (Ext.drew gP w19)
  obtain ⟨g1, g2⟩ := bad _ j _ _ hd
  refine ⟨_, _, _, _, _, hd.o6.row, _, _, _, _, hd.o8.row, g1, fun w36 hw => ?_⟩
  obtain ⟨o8', g3, g4⟩ := g2 w36 hw
  refine ⟨⟨_, _, _, _, o8'.row, rfl⟩, g3, fun w41 hw2 => ?_⟩
  obtain ⟨kp, o2', o4'⟩ := g4 w41 hw2
  exact ⟨_, _, _, _, _, o2'.row, _, _, _, _, o4'.row, Z5, Z4, 0, _, rfl, ⟨rfl, rfl, rfl, rfl⟩, kp⟩
 have hen := Gk g
 subst hen
 obtain ⟨x, ho⟩ := hgood.1 rfl
 rw [ho] at hres
 obtain ⟨hx, _, hxf, _, hxc, hxlt⟩ := hres
 refine aq (fun r51 w52 hr51 hb51 k51 hs51 => ?_)
 have z11 := k13.size
 have hz : r8 < w11.heap.size := h11.o8.lt
 have hxl : x.length <= 2 ^ 30 := by
  have e1 := hx.1
  have hxb : x.length <= b.length := by
   rw [eI] at ho
   split at ho; ·cases ho
   split at ho; ·cases ho
   split at ho; ·cases ho
   split at ho
   ·injection ho with ho'; injection ho' with h1 h2; rw [<- h1]; simp [iH]; omega
   ·cases ho
  have := hb.1
  omega
 have S52 : RS2 w w52 r51 (au s14) r2 r4 r6 r8 (x, none) Z5 Z4 := ⟨h13.af k51, ⟨s14, ak.bO hb51, aj hx k51, hxc, fun _ h => h, fun hh => by have := hxlt _ hh; omega⟩, hxl, by omega, fun k hk => ⟨by have := hxf k hk; omega, by have := hxlt k hk; omega⟩⟩
 refine (S52.Num 2).mono ?_
 rintro e w54 ⟨rfl, S54⟩
 have hrd : readR b = (let st := rNum 2 (x, none); if st.1 = 2 then match lK (bU st.2).st with
   | some j => .error j
   | none => .ok (.tell (bU st.2).t (bU st.2).e (bU st.2).n (bU st.2).d)
  else match lK (bB st.2).st with
   | some j => .error j
   | none => if st.1 = 1 /\ cP (bB st.2).t (bB st.2).k (bB st.2).e (bB st.2).a (bB st.2).d.length then .ok (.ask (bB st.2).t (bB st.2).k (bB st.2).e (bB st.2).a (bB st.2).d) else .error 3) := by
  rw [readR, ho]; dsimp only; first | (rw [if_neg (by simp)]; done) | (rw [if_neg (by simp)]; rfl)
 rw [hrd]
 generalize hst : rNum 2 (x, none) = st at S54 ⊢
 dsimp only
 refine ⟨_, rfl, fun w2 => yt w w2 r51 (au s14) r2 r4 r6 r8 st, ae (fun g2 => ?_) (fun g2 => ?_), ?_⟩
 ·refine (S54.Num 1073741824).mono ?_
  rintro e w58 ⟨rfl, S58⟩
  obtain ⟨c1, c2⟩ := S58.Gj 0 (by simp) (.int .i64 (rNum 1073741824 st.2).1)
  refine ⟨_, rfl, c1, fun w60 hw => ?_⟩
  obtain ⟨S60, _⟩ := c2 w60 hw
  refine (S60.Num 19).mono ?_
  rintro e w62 ⟨rfl, S62⟩
  obtain ⟨c1, c2⟩ := S62.Gj 1 (by simp) (.int .i64 (rNum 19 (rNum 1073741824 st.2).2).1)
  refine ⟨_, rfl, c1, fun w64 hw => ?_⟩
  obtain ⟨S64, _⟩ := c2 w64 hw
  refine (S64.Num 4096).mono ?_
  rintro e w66 ⟨rfl, S66⟩
  obtain ⟨c1, c2⟩ := S66.Gj 2 (by simp) (.int .i64 (rNum 4096 (rNum 19 (rNum 1073741824 st.2).2).2).1)
  refine ⟨_, rfl, c1, fun w68 hw => ?_⟩
  obtain ⟨S68, _⟩ := c2 w68 hw
  refine (S68.Text 2000).mono ?_
  rintro e w70 ⟨rfl, S70⟩
  refine ⟨_, rfl, lR (fun s72 w73 hb72 hc72 hf72 k73 => ?_)⟩
  have S73 := S70.af k73
  obtain ⟨c1, c2⟩ := S73.Gj 3 (by simp) s72.v
  refine ⟨c1, fun w74 hw => ?_⟩
  obtain ⟨S74, e74⟩ := c2 w74 hw
  have hlt : r8 < w70.heap.size := S70.z.o8.lt
  show yt _ _ _ _ _ _ _ _ _
  unfold yt
  rw [if_pos g2]
  exact ⟨s72, aE hb72 e74 (fun j hj hh => by have := hf72 j hj; omega), hc72, fun j hj => by have := hf72 j hj; omega, S74⟩
 ·refine (S54.Num 1073741824).mono ?_
  rintro e w58 ⟨rfl, S58⟩
  obtain ⟨c1, c2⟩ := S58.Fp 0 (by simp) (.int .i64 (rNum 1073741824 st.2).1)
  refine ⟨_, rfl, c1, fun w60 hw => ?_⟩
  obtain ⟨S60, _⟩ := c2 w60 hw
  refine (S60.Num 5).mono ?_
  rintro e w62 ⟨rfl, S62⟩
  obtain ⟨c1, c2⟩ := S62.Fp 1 (by simp) (.int .i64 (rNum 5 (rNum 1073741824 st.2).2).1)
  refine ⟨_, rfl, c1, fun w64 hw => ?_⟩
  obtain ⟨S64, _⟩ := c2 w64 hw
  refine (S64.Num 1073741824).mono ?_
  rintro e w66 ⟨rfl, S66⟩
  obtain ⟨c1, c2⟩ := S66.Fp 2 (by simp) (.int .i64 (rNum 1073741824 (rNum 5 (rNum 1073741824 st.2).2).2).1)
  refine ⟨_, rfl, c1, fun w68 hw => ?_⟩
  obtain ⟨S68, _⟩ := c2 w68 hw
  refine (S68.Num 4096).mono ?_
  rintro e w70 ⟨rfl, S70⟩
  obtain ⟨c1, c2⟩ := S70.Fp 3 (by simp) (.int .i64 (rNum 4096 (rNum 1073741824 (rNum 5 (rNum 1073741824 st.2).2).2).2).1)
  refine ⟨_, rfl, c1, fun w72 hw => ?_⟩
  obtain ⟨S72, _⟩ := c2 w72 hw
  refine (S72.Text 2000).mono ?_
  rintro e w92 ⟨rfl, S92⟩
  refine ⟨_, rfl, lR (fun s94 w95 hb94 hc94 hf94 k95 => ?_)⟩
  have S95 := S92.af k95
  obtain ⟨c1, c2⟩ := S95.Fp 4 (by simp) s94.v
  refine ⟨c1, fun w96 hw => ?_⟩
  obtain ⟨S96, e96⟩ := c2 w96 hw
  have hlt : r8 < w92.heap.size := S92.z.o8.lt
  have h68 := S92.z.b
  show yt _ _ _ _ _ _ _ _ _
  unfold yt
  rw [if_neg g2]
  exact ⟨s94, aE hb94 e96 (fun j hj hh => by have := hf94 j hj; omega), hc94, fun j hj => by have := hf94 j hj; omega, S96⟩
 ·rintro w97 hM
  intros
  unfold yt at hM
  have d := h13.b
  have nf : ∀ {t : Slc}, (∀ j, au t j -> r8 < j) -> aF w t := fun h j hj => by have := h j hj; omega
  have nb : ∀ {t : Slc} {bb : List UInt8} {wa wb : World}, (∀ j, au t j -> r8 < j) -> Ext (fun j => j = r2 \/ j = r4) wa wb -> ag wa t bb -> ag wb t bb := fun h e hb => aE hb e (fun j hj hh => by have := h j hj; omega)
  by_cases h2 : st.1 = 2
  ·rw [if_pos h2] at hM ⊢
   obtain ⟨t, htb, htc, htj, S⟩ := hM
   refine (uM _ _ _ _ S.rin).mono ?_
   rintro e w130 ⟨rfl, rfl⟩
   refine ⟨_, rfl, fun e w2 => e = eN (lK (bU st.2).st) /\ w2 = w130, ae (fun _ => bg (fun hh => absurd h2 hh) (fun _ => ⟨rfl, rfl⟩)) (fun _ => ⟨rfl, rfl⟩), ?_⟩
   rintro e141 w142 ⟨rfl, rfl⟩
   intros
   cases hre : lK (bU st.2).st with
   | some j =>
    refine bg (fun _ => ?_) (fun hh => by have : ((j + 1 : Nat) : Int) = 0 := hh; omega)
    obtain ⟨g1, g2⟩ := bad _ j _ _ S.z
    refine ⟨g1, fun w36 hw => ?_⟩
    obtain ⟨o8', g3, g4⟩ := g2 w36 hw
    refine ⟨g3, fun w41 hw2 => ?_⟩
    obtain ⟨kp, o2', o4'⟩ := g4 w41 hw2
    exact ⟨_, _, _, _, _, o2'.row, _, _, _, _, o4'.row, Z5, Z4, 0, _, rfl, ⟨rfl, rfl, rfl, rfl⟩, kp⟩
   | none =>
    refine bg (fun hh => absurd rfl hh) (fun _ => ?_)
    have Sd := S.af (Ext.drew gP w142)
    obtain ⟨g1, g2⟩ := Sd.z.ret (z5 := Z5) (z4 := fT (bU st.2).t (bU st.2).e (bU st.2).n t) (K := fun w3 => ai w w3 /\ ak w3 r2 Z5 /\ ak w3 r4 (fT (bU st.2).t (bU st.2).e (bU st.2).n t) /\ ag w3 t (bU st.2).d) rfl rfl (fun w3 kp e o2 o4 => ⟨kp, o2, o4, nb htj e (aj htb (Ext.drew gP w142))⟩)
    refine ⟨_, _, _, _, _, Sd.z.o6.row, _, _, _, _, Sd.z.o8.row, g1, fun w36 hw => ?_⟩
    obtain ⟨o8', g3, g4⟩ := g2 w36 hw
    refine ⟨⟨_, _, _, _, o8'.row, rfl⟩, g3, fun w41 hw2 => ?_⟩
    obtain ⟨kp, o2', o4', hbt⟩ := g4 w41 hw2
    exact ⟨_, _, _, _, _, o2'.row, _, _, _, _, o4'.row, Z5, _, _, 0, rfl, ⟨t, rfl, hbt, htc, nf htj, rfl, h2, rfl⟩, kp⟩
  ·rw [if_neg h2] at hM ⊢
   obtain ⟨t, htb, htc, htj, S⟩ := hM
   refine (uM _ _ _ _ S.rin).mono ?_
   rintro e w130 ⟨rfl, rfl⟩
   have htl := htb.1
   refine ⟨_, rfl, fun e w2 => e = eN (match lK (bB st.2).st with | some j => some j | none => if st.1 = 1 /\ cP (bB st.2).t (bB st.2).k (bB st.2).e (bB st.2).a (bB st.2).d.length then none else some 3) /\ ai w130 w2, ?_, ?_⟩
   ·cases hre : lK (bB st.2).st with
    | some j => exact ae (fun hh => by have : ((j + 1 : Nat) : Int) = 0 := hh; omega) (fun _ => ⟨rfl, Ext.refl _ _⟩)
    | none =>
     refine ae (fun _ => bg (fun _ => bg (fun g => ?_) (fun g => ⟨_, _, _, _, _, S.z.o6.row, (xI _ _ _ _ t w130).mono ?_⟩)) (fun hh => absurd hh h2)) (fun hh => absurd rfl hh)
     ·rw [if_neg (fun h => g h.1)]; exact ⟨rfl, Ext.refl _ _⟩
     ·rintro e w139 ⟨rfl, k139⟩
      rw [htl]
      refine ⟨_, rfl, bg (fun gg => ?_) (fun gg => ?_)⟩
      ·rw [if_neg (fun h => gg h.2)]; exact ⟨rfl, k139⟩
      ·rw [if_pos ⟨g, gg⟩]; exact ⟨rfl, k139⟩
   rintro e141 w142 ⟨rfl, k142⟩
   intros
   have S142 := S.af k142
   have htb142 := aj htb k142
   cases hre : lK (bB st.2).st with
   | some j =>
    refine bg (fun _ => ?_) (fun hh => by have : ((j + 1 : Nat) : Int) = 0 := hh; omega)
    obtain ⟨g1, g2⟩ := bad _ j _ _ S142.z
    refine ⟨g1, fun w36 hw => ?_⟩
    obtain ⟨o8', g3, g4⟩ := g2 w36 hw
    refine ⟨g3, fun w41 hw2 => ?_⟩
    obtain ⟨kp, o2', o4'⟩ := g4 w41 hw2
    exact ⟨_, _, _, _, _, o2'.row, _, _, _, _, o4'.row, Z5, Z4, 0, _, rfl, ⟨rfl, rfl, rfl, rfl⟩, kp⟩
   | none =>
    dsimp only
    by_cases hq : st.1 = 1 /\ cP (bB st.2).t (bB st.2).k (bB st.2).e (bB st.2).a (bB st.2).d.length
    ·rw [if_pos hq, if_pos hq]
     refine bg (fun hh => absurd rfl hh) (fun _ => ?_)
     have Sd := S142.af (Ext.drew gP w142)
     obtain ⟨g1, g2⟩ := Sd.z.ret (z5 := pn (bB st.2).t (bB st.2).k (bB st.2).e (bB st.2).a t) (z4 := Z4) (K := fun w3 => ai w w3 /\ ak w3 r2 (pn (bB st.2).t (bB st.2).k (bB st.2).e (bB st.2).a t) /\ ak w3 r4 Z4 /\ ag w3 t (bB st.2).d) rfl rfl (fun w3 kp e o2 o4 => ⟨kp, o2, o4, nb htj e (aj htb142 (Ext.drew gP w142))⟩)
     refine ⟨_, _, _, _, _, Sd.z.o6.row, _, _, _, _, Sd.z.o8.row, g1, fun w36 hw => ?_⟩
     obtain ⟨o8', g3, g4⟩ := g2 w36 hw
     refine ⟨⟨_, _, _, _, o8'.row, rfl⟩, g3, fun w41 hw2 => ?_⟩
     obtain ⟨kp, o2', o4', hbt⟩ := g4 w41 hw2
     exact ⟨_, _, _, _, _, o2'.row, _, _, _, _, o4'.row, _, Z4, _, 0, rfl, ⟨t, rfl, hbt, htc, nf htj, rfl, hq.1, rfl⟩, kp⟩
    ·rw [if_neg hq, if_neg hq]
     refine bg (fun _ => ?_) (fun hh => absurd hh (by decide))
     obtain ⟨g1, g2⟩ := bad _ 3 _ _ S142.z
     refine ⟨g1, fun w36 hw => ?_⟩
     obtain ⟨o8', g3, g4⟩ := g2 w36 hw
     refine ⟨g3, fun w41 hw2 => ?_⟩
     obtain ⟨kp, o2', o4'⟩ := g4 w41 hw2
     exact ⟨_, _, _, _, _, o2'.row, _, _, _, _, o4'.row, Z5, Z4, 0, _, rfl, ⟨rfl, rfl, rfl, rfl⟩, kp⟩
end Go.D
namespace Go.D
open Go Go.Proofs
structure Rz where
 g : aL
 n : Int
 s : Slc
 c : List (List Value)
def rzC (z : Rz) : List Value := [.int .i64 (z.g.place : Int), .int .i64 (z.g.num : Int), .int .i64 z.n, z.s.v]
theorem CW {z : Rz} {k : Nat} (h : jj (rzC z) k) : 0 < z.s.l /\ au z.s k := by
 obtain ⟨s', hs, h1, h2⟩ := h
 have : s' = z.s := by
  obtain ⟨g, n, ⟨p, l, c⟩, c2⟩ := z
  obtain ⟨p', l', c'⟩ := s'
  simp [rzC, Slc.v] at hs
  obtain ⟨rfl, rfl, rfl⟩ := hs
  rfl
 subst this
 exact ⟨h1, h2⟩
def RzR : uP Rz where
 n := 4
 pos := by omega
 R w z cs := cs = rzC z /\ ∀ k, au z.s k -> k < w.heap.size
 len h := by rw [h.1]; rfl
 one h := by rw [h.1]; intro v hv; simp [rzC] at hv; rcases hv with rfl | rfl | rfl | rfl <;> rfl
 ext h he _ := ⟨h.1, fun k hk => Nat.lt_of_lt_of_le (h.2 k hk) he.size⟩
 lt h := by rw [h.1]; intro k hk; exact h.2 k (CW hk).2
abbrev gL (zs : List Rz) : List aL := zs.map (·.g)
structure vb (w : World) (r k : Nat) (sl : Slc) (zs : List Rz) : Prop where
 o : ak w r [.int .i64 (k : Int), sl.v]
 s : Rows RzR w sl zs (zs.map rzC)
 b : ∀ z ∈ zs, Rows wy w z.s z.g.cV z.c
 n : ∀ z ∈ zs, z.n = (sumN z.g.cV : Int)
 sep : zs.Pairwise fun x y => ∀ k, au x.s k -> ¬ au y.s k
 nr : ¬ au sl r
 ds : ∀ z ∈ zs, ∀ k, au z.s k -> k ≠ r /\ ¬ au sl k
 bt : ∀ z ∈ zs, ∀ k, cc z.c k -> k ≠ r /\ ¬ au sl k /\ ∀ y ∈ zs, ¬ au y.s k
def RfW (r : Nat) (sl : Slc) (zs : List Rz) (k : Nat) : Prop := k = r \/ au sl k \/ ∃ z ∈ zs, au z.s k
def RfY (zs : List Rz) (k : Nat) : Prop := ∃ z ∈ zs, cc z.c k
section
variable {w w' : World} {r k : Nat} {sl : Slc} {zs : List Rz}
theorem vb.ext {M : Nat -> Prop} (h : vb w r k sl zs) (he : Ext M w w') (h1 : ∀ j, RfW r sl zs j -> ¬ M j) (h2 : ∀ j, RfY zs j -> ¬ M j) : vb w' r k sl zs := by
 refine ⟨h.o.ext he (h1 _ (.inl rfl)), h.s.ext he (fun j hj => h1 j (.inr (.inl hj))) (fun j hj => ?_), fun z hz => (h.b z hz).ext he (fun j hj => h1 j (.inr (.inr ⟨z, hz, hj⟩))) (fun j hj => h2 j ⟨z, hz, hj⟩), h.n, h.sep, h.nr, h.ds, h.bt⟩
 obtain ⟨cs, hc, hk⟩ := hj
 obtain ⟨z, hz, rfl⟩ := List.mem_map.1 hc
 exact h1 j (.inr (.inr ⟨z, hz, (CW hk).2⟩))
theorem vb.lt (h : vb w r k sl zs) : (∀ j, RfW r sl zs j -> j < w.heap.size) /\ ∀ j, RfY zs j -> j < w.heap.size := by
 refine ⟨?_, ?_⟩
 ·rintro j (rfl | hj | ⟨z, hz, hj⟩)
  ·exact h.o.lt
  ·exact h.s.lt j hj
  ·exact (h.b z hz).lt j hj
 ·rintro j ⟨z, hz, hj⟩
  exact (h.b z hz).flt j hj
theorem vb.at (h : vb w r k sl zs) {i : Nat} (hi : i < zs.length) : ∃ a : Addr, sl.p = some a /\ rowAt w (a.add (i * 4)) 0 (rzC zs[i]) := by
 obtain ⟨a, ha, _, hrow⟩ := h.s.get (i := i) (by simpa using hi)
 rw [List.getElem_map] at hrow
 exact ⟨a, ha, hrow⟩
end
end Go.D
namespace Go.D
open Go Go.Proofs
section
variable {w w' : World} {r k : Nat} {sl : Slc} {M zs : List Rz} {z z' : Rz}
def Fq (r : Nat) (sl sl' : Slc) (zs zs' : List Rz) (w w' : World) : Prop := Ext (RfW r sl zs) w w' /\ (∀ j, RfW r sl' zs' j -> RfW r sl zs j \/ w.heap.size <= j) /\ ∀ j, RfY zs' j -> RfY zs j \/ w.heap.size <= j
theorem Fq.trans {sl1 sl2 sl3 : Slc} {z1 z2 z3 : List Rz} {a b c : World} (h1 : Fq r sl1 sl2 z1 z2 a b) (h2 : Fq r sl2 sl3 z2 z3 b c) : Fq r sl1 sl3 z1 z3 a c :=
 ⟨h1.1.trans h2.1 (fun _ h => h) (fun j hj => h1.2.1 j hj), fun j hj => (h2.2.1 j hj).elim (h1.2.1 j) (fun h => .inr (Nat.le_trans h1.1.size h)), fun j hj => (h2.2.2 j hj).elim (h1.2.2 j) (fun h => .inr (Nat.le_trans h1.1.size h))⟩
end
end Go.D
namespace Go.D
open Go Go.Proofs
section
variable {w w' : World} {r k : Nat} {sl sl' : Slc} {zs zs' : List Rz}
theorem vb.sub (h : vb w r k sl zs) (hsub : zs'.Sublist zs) (he : Ext (fun j => j = r) w w') (ho : ak w' r [.int .i64 (k : Int), sl'.v]) (hs : Rows RzR w' sl' zs' (zs'.map rzC)) (hf : ∀ j, au sl' j -> w.heap.size <= j) :
  vb w' r k sl' zs' /\ Fq r sl sl' zs zs' w w' := by
 have lt := h.lt
 have mem : ∀ z ∈ zs', z ∈ zs := fun z hz => hsub.subset hz
 refine ⟨⟨ho, hs, fun z hz => (h.b z (mem z hz)).ext he (fun j hj hh => (h.ds z (mem z hz) j hj).1 hh) (fun j hj hh => (h.bt z (mem z hz) j hj).1 hh), fun z hz => h.n z (mem z hz), h.sep.sublist hsub, fun hh => ?_, fun z hz j hj => ⟨(h.ds z (mem z hz) j hj).1, fun hh => ?_⟩, fun z hz j hj => ?_⟩, he.mono (fun j hj => .inl hj), ?_, ?_⟩
 ·have := hf r hh; have := h.o.lt; omega
 ·have := hf j hh; have := lt.1 j (.inr (.inr ⟨z, mem z hz, hj⟩)); omega
 ·obtain ⟨v1, v2, v3⟩ := h.bt z (mem z hz) j hj
  exact ⟨v1, fun hh => by have := hf j hh; have := lt.2 j ⟨z, mem z hz, hj⟩; omega, fun y hy => v3 y (mem y hy)⟩
 ·rintro j (hj | hj | ⟨z, hz, hj⟩)
  ·exact .inl (.inl hj)
  ·exact .inr (hf j hj)
  ·exact .inl (.inr (.inr ⟨z, mem z hz, hj⟩))
 ·rintro j ⟨z, hz, hj⟩
  exact .inl ⟨z, mem z hz, hj⟩
end
end Go.D
namespace Go.D
open Go Go.Proofs
end Go.D
namespace Go.D
open Go Go.Proofs
structure RuE where
 a : Nat
 t : List UInt8
 n : Nat
structure RuF where
 rs : Nat
 sl : Slc
 zs : List Rz
 sa : Slc
 sp : Slc
 si : Slc
 css : List (List Value)
def RuW (r : Nat) (f : RuF) (j : Nat) : Prop := j = r \/ RfW f.rs f.sl f.zs j \/ au f.sa j \/ au f.sp j \/ au f.si j
def RuY (f : RuF) (j : Nat) : Prop := RfY f.zs j \/ cc f.css j
structure RuC (r : Nat) (f : RuF) (c : Nat -> Nat) : Prop where
 cr : c r = 0
 cf : ∀ j, RfW f.rs f.sl f.zs j -> c j = 1
 ca : ∀ j, au f.sa j -> c j = 2
 cp : ∀ j, au f.sp j -> c j = 3
 ci : ∀ j, au f.si j -> c j = 4
 cy : ∀ j, RuY f j -> c j = 5
structure zu (w : World) (r k : Nat) (f : RuF) (P : List RuE) (tr ep top : Int) : Prop where
 o : ak w r [aA f.rs, f.sa.v, f.sp.v, f.si.v, .int .i64 tr, .int .i64 ep, .int .i64 top]
 R : vb w f.rs k f.sl f.zs
 a : bC w f.sa (P.map fun e => (e.a : Int))
 p : Rows wy w f.sp (P.map (·.t)) f.css
 i : bC w f.si (P.map fun e => (e.n : Int))
 c : ∃ c, RuC r f c
section
variable {w w' : World} {r k : Nat} {f : RuF} {P : List RuE} {tr ep top : Int}
theorem zu.ext {M : Nat -> Prop} (h : zu w r k f P tr ep top) (he : Ext M w w') (h1 : ∀ j, RuW r f j -> ¬ M j) (h2 : ∀ j, RuY f j -> ¬ M j) : zu w' r k f P tr ep top :=
 ⟨h.o.ext he (h1 _ (.inl rfl)), h.R.ext he (fun j hj => h1 j (.inr (.inl hj))) (fun j hj => h2 j (.inl hj)), h.a.ext he (fun j hj => h1 j (.inr (.inr (.inl hj)))), h.p.ext he (fun j hj => h1 j (.inr (.inr (.inr (.inl hj))))) (fun j hj => h2 j (.inr hj)),
  h.i.ext he (fun j hj => h1 j (.inr (.inr (.inr (.inr hj))))), h.c⟩
theorem zu.af (h : zu w r k f P tr ep top) (he : ai w w') : zu w' r k f P tr ep top := h.ext he (fun _ _ h => h) (fun _ _ h => h)
theorem zu.lt (h : zu w r k f P tr ep top) : (∀ j, RuW r f j -> j < w.heap.size) /\ ∀ j, RuY f j -> j < w.heap.size := by
 refine ⟨?_, ?_⟩
 ·rintro j (rfl | hj | hj | hj | hj)
  ·exact h.o.lt
  ·exact h.R.lt.1 j hj
  ·exact Rows.lt h.a j hj
  ·exact h.p.lt j hj
  ·exact Rows.lt h.i j hj
 ·rintro j (hj | hj)
  ·exact h.R.lt.2 j hj
  ·exact h.p.flt j hj
end
end Go.D
namespace Go.D
open Go Go.Proofs
section
variable {w0 w : World} {r k : Nat} {f : RuF} {tr ep top : Int} {b4 : Slc} {t : List UInt8} {sa sp si : Slc} {la li : List Int} {lp : List (List UInt8)} {css : List (List Value)} {X : List (Nat × List Value)} {B : List Slc}
def Gl (r : Nat) (f f' : RuF) (w w' : World) : Prop := Ext (RuW r f) w w' /\ (∀ j, RuW r f' j -> RuW r f j \/ w.heap.size <= j) /\ ∀ j, RuY f' j -> RuY f j \/ w.heap.size <= j
theorem Gl.trans {r : Nat} {f1 f2 f3 : RuF} {a b c : World} (h1 : Gl r f1 f2 a b) (h2 : Gl r f2 f3 b c) : Gl r f1 f3 a c :=
 ⟨h1.1.trans h2.1 (fun _ h => h) (fun j hj => h1.2.1 j hj), fun j hj => (h2.2.1 j hj).elim (h1.2.1 j) (fun h => .inr (Nat.le_trans h1.1.size h)), fun j hj => (h2.2.2 j hj).elim (h1.2.2 j) (fun h => .inr (Nat.le_trans h1.1.size h))⟩
end
end Go.D
namespace Go.D
open Go
structure CX (P : List RuE) (top : Int) (s : UnS) : Prop where
 ok : ∀ e ∈ P, e.a < 4096 /\ e.t.length <= 2048
 fd : ∀ a : Nat, s.tr <= a -> (P.find? (fun e => decide ((e.a : Int) = (a : Int)))).map (·.t) = dD (pgU s.U) a
 t : 0 <= top /\ max top (s.tr : Int) = s.T
 nn : ∀ e ∈ P, e.n < iR (sU s.U)
 ins : ∀ g ∈ s.U, ∀ a : Nat, (∃ e ∈ P, e.n = g.num /\ e.a = a) ↔ ∃ y ∈ pagesOf g.rs, y.1 = a
section
variable {P : List RuE} {top : Int} {s : UnS}
theorem CX.nil : CX [] 0 ⟨[], 0, 0, 0⟩ := ⟨by simp, fun a _ => rfl, by simp, by simp, by simp⟩
end
end Go.D
set_option maxRecDepth 4000
namespace Go.D
open Go Go.Proofs
structure RuS (w : World) (r k : Nat) (f : RuF) (P : List RuE) (top : Int) (s : UnS) : Prop where
 A : zu w r k f P s.tr s.ep top
 z : gL f.zs = sU s.U
 K : CX P top s
theorem RuS.af {w w' : World} {r k : Nat} {f : RuF} {P : List RuE} {top : Int} {s : UnS} (h : RuS w r k f P top s) (he : ai w w') : RuS w' r k f P top s := ⟨h.A.af he, h.z, h.K⟩
section
variable {w w' : World} {r k m : Nat} {f : RuF} {P : List RuE} {top : Int} {s : UnS}
end
end Go.D

