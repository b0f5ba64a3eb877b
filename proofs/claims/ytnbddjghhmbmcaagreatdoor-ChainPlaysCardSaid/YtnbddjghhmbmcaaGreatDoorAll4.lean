/-
  WHAT IS PROVED: contracts of functions, and the plain law, for this proof. No further conditions.
-/
import Derived.Test.YtnbddjghhmbmcaaGreatDoorAll3
import Derived.Test.YtnbddjghhmbmcaaGreatDoorVCpage
import Derived.Test.YtnbddjghhmbmcaaGreatDoorVClaw14
import Derived.Test.YtnbddjghhmbmcaaGreatDoorRowsM
import Derived.Test.YtnbddjghhmbmcaaGreatDoorObjM
import Derived.Test.YtnbddjghhmbmcaaGreatDoorFlat
import Derived.Test.YtnbddjghhmbmcaaGreatDoorVCin
import Derived.Test.YtnbddjghhmbmcaaGreatDoorRd
import Derived.Test.YtnbddjghhmbmcaaGreatDoorVCref10
import Derived.Test.YtnbddjghhmbmcaaGreatDoorVCref14
import Derived.Test.YtnbddjghhmbmcaaGreatDoorVClaw14p
set_option linter.unusedVariables false
set_option linter.unusedSimpArgs false
namespace Go.D
open Go Go.Proofs
def wrA (N : Nat) (up : Nat -> Bool) (ep : Int) (cs : List (List Int)) (a : Int) (t : List UInt8) (S : Nat -> UnS) : Option Nat × (Nat -> UnS) :=
 if plE ep cs a = none then Gf N up ep (a / (cs.length : Int)) t (iM cs a) S else (plE ep cs a, S)
def rdA (N : Nat) (up : Nat -> Bool) (ep : Int) (cs : List (List Int)) (a : Int) (S : Nat -> UnS) : Cr :=
 if plE ep cs a = none then DP N up ep (a / (cs.length : Int)) (iM cs a) S else (plE ep cs a, [], S)
def flA (N : Nat) (up : Nat -> Bool) (ep : Int) (cs : List (List Int)) (a : Int) (S : Nat -> UnS) : Cr :=
 if plE ep cs a = none then Cs N up ep (a / (cs.length : Int)) (iM cs a) S else (plE ep cs a, [], S)
structure ObF (w : World) (F : Nat -> Prop) (o : Nat) (cs : List Value) : Prop where
 ob : aq w o cs
 f : ¬ F o
section
variable {A : Nat -> Addr} {w w' : World} {n0 N m m' : Nat} {r rd : Nat -> Nat} {f f' f'' : Nat -> UnF} {d d' : Nat -> aK} {S S' : Nat -> UnS} {us : Slc} {up : Nat -> Bool} {s sc : Slc} {cs : List (List Int)} {c : List Int} {o : Nat} {vs : List Value}
theorem ObF.to (h : ObF w (FB N r rd f) o vs) (ht : FTo N r rd f f' w w') : ObF w' (FB N r rd f') o vs :=
 ⟨h.ob.ext ht.1 h.f, fun hh => (ht.2.1 _ hh).elim h.f (fun g => by have := h.ob.lt; omega)⟩
theorem ObF.ae {F : Nat -> Prop} (h : ObF w F o vs) (hk : ah w w') : ObF w' F o vs := ⟨h.ob.ae hk, h.f⟩
theorem ChU.obj (h : ChU A w n0 N m r rd f d S us up) {T : TypeId} {w1 : World} (hk : ah w w1) (ho : o = w.heap.size) (hb : w1.heap[o]? = some (.cells ⟨vs⟩ T)) : ObF w1 (FB N r rd f) o vs :=
 ⟨aq.eS hb, fun hh => by have := h.F.lt.1 o hh; omega⟩
theorem lv {ep a : Int} (h : plE ep cs a = none) : (iM cs a).length <= 3 /\ cs.length <= 3 := by
 obtain ⟨hr, _⟩ := HJ h
 obtain ⟨i, hi, _, e2, hok, _⟩ := A6 hr (a := a)
 rw [e2]
 exact ⟨hok.2.1, hr.2.1.2⟩
theorem ChP.lift (h : ChP A w n0 N m r rd f us up S w') (hm : m <= m') : ChP A w n0 N m' r rd f us up S w' := by
 obtain ⟨f3, d3, g1, g2⟩ := h
 exact ⟨f3, d3, g1.lift hm, g2⟩
theorem yM (h : ChU A w n0 N m r rd f d S us up) (hm : m <= 2 ^ 56) (ep a : Int) (hP : PlF w (FB N r rd f) s cs) (hcl : cs.length <= 2 ^ 40) (b : Slc) (t : List UInt8) (hb : Txt w (FB N r rd f) b t) :
  Calls Tryz.prog dP ⟨[us.v, .agg ⟨[.int .i64 ep, s.v]⟩, .int .i64 a, b.v]⟩ w fun x w' => zy A w n0 N (m + 4) r rd f us up (wrA N up ep cs a t S) x w' := by
 refine xE _ _ _ _ _ ?_
 unfold vq
 refine ao (fun r6 w7 hr6 hb6 k6 hs6 => ?_)
 have o7 := h.obj k6 hr6 hb6
 refine ⟨ep, s, o7.ob.row, (pr ep a (hP.ae k6) hcl (h.F.E.ae k6)).mono ?_⟩
 rintro e w11 ⟨k11, ⟨j, hj, rfl⟩ | ⟨hn, sc, rfl, hI⟩⟩
 ·refine ⟨_, _, _, rfl, aF A _, aj (fun _ => ?_) (fun g => by cases g)⟩
  unfold wrA
  rw [hj, if_neg (by simp)]
  exact ⟨rfl, f, d, (h.ae (k6.trans k11)).lift (by omega), FTo.ae (k6.trans k11)⟩
 have kd : ah w (World.drew w11) := (k6.trans k11).drew
 have hd := h.ae kd
 have od := (o7.ae k11).ae (Ext.drew _ _)
 have hId : gQ (World.drew w11) (FB N r rd f) sc (iM cs a) := hI.ae (Ext.drew _ _)
 obtain ⟨a15, ha15, hc15⟩ := hId.first
 have hlen := lv hn
 unfold wrA
 rw [if_pos hn]
 unfold Gf
 have hsl := hId.sl
 have hne := hId.ne
 refine ⟨_, _, _, rfl, trivial, aj (fun g => by cases g) (fun _ => aa ha15 ⟨by omega, by omega, _, hc15, _, od.ob.cell 0 (by simp), ?_⟩)⟩
 refine (mV hd (by omega) _ ep (a / (cs.length : Int)) true b t (hb.ae kd)).mono ?_
 rintro x w19 ⟨rfl, f3, d3, h19, ft3⟩
 have ft19 : FTo N r rd f f3 w w19 := (FTo.ae kd).trans ft3
 have o19 := od.to ft3
 generalize hp : putP N up true ep (a / (cs.length : Int)) t ((iM cs a).getD 0 0) S = p at h19 ⊢
 refine ⟨_, rfl, aF A _, ?_⟩
 cases hp1 : p.1 with
 | some x =>
  refine aj (fun _ => ?_) (fun g => by cases g)
  rw [if_neg (by simp)]
  exact ⟨by rw [hp1], f3, d3, h19.lift (by omega), ft19⟩
 | none =>
  refine aj (fun g => by cases g) (fun _ => ⟨_, o19.ob.cell 0 (by simp), ?_⟩)
  rw [if_pos rfl]
  refine (mW h19 (by omega) ep _ (hId.to ft3) hlen.1 b t ((hb.ae kd).to ft3)).mono ?_
  rintro x w23 ⟨rfl, hx⟩
  exact ⟨_, rfl, rfl, (ChP.from ft19 hx).lift (by omega)⟩
theorem Txt.mono {F F' : Nat -> Prop} {b : Slc} {t : List UInt8} (h : Txt w F b t) (hf : ∀ k, F' k -> F k) : Txt w F' b t := ⟨h.tb, fun k hk => ⟨(h.s k hk).1, fun hh => (h.s k hk).2 (hf k hh)⟩, h.l⟩
theorem yN (h : ChU A w n0 N m r rd f d S us up) {e a : Int} {t : List UInt8} {c : List Int} {x : Ending} {b : Slc} {wz : World} (hfr : aN wz b) (hb : Txt w (FB N r rd f) b t) {w2 : World} (ftz : FTo N r rd f'' f wz w) (hx : zy A w n0 N m' r rd f us up (othP N up e a t c S) x w2) :
  ∃ e58 : Value, x = .returned e58 /\ isI e58 /\ BIf (!isNilI e58) (Gl A wz n0 N m' r rd f'' us up (sQ N up e a t c S) (.returned (.tuple ⟨[(⟨none, 0, 0⟩ : Slc).v, e58]⟩)) w2) (Gl A wz n0 N m' r rd f'' us up (sQ N up e a t c S) (.returned (.tuple ⟨[b.v, .nilIface]⟩)) w2) := by
 obtain ⟨rfl, f3, d3, h3, ft3⟩ := hx
 refine ⟨_, rfl, aF A _, ?_⟩
 unfold sQ
 cases hp : (othP N up e a t c S).1 with
 | some x =>
  refine aj (fun _ => ?_) (fun g => by cases g)
  rw [if_neg (by simp)]
  exact ⟨_, rfl, jt _, aN.nil _ _ _, f3, d3, h3, ftz.trans ft3⟩
 | none =>
  refine aj (fun g => by cases g) (fun _ => ?_)
  rw [if_pos rfl]
  exact ⟨b, rfl, (hb.to ft3).tb, hfr, f3, d3, h3, ftz.trans ft3⟩
theorem EK (h : ChU A w n0 N m r rd f d S us up) (hm : m <= 2 ^ 56) (ep a : Int) (hP : PlF w (FB N r rd f) s cs) (hcl : cs.length <= 2 ^ 40) :
  Calls Tryz.prog nf ⟨[us.v, .agg ⟨[.int .i64 ep, s.v]⟩, .int .i64 a]⟩ w fun x w' => Gl A w n0 N (m + 4) r rd f us up (rdA N up ep cs a S) x w' := by
 refine zc _ _ _ _ ?_
 unfold xF
 refine ao (fun r5 w6 hr5 hb5 k5 hs5 => ?_)
 have o6 := h.obj k5 hr5 hb5
 refine ⟨ep, s, o6.ob.row, (pr ep a (hP.ae k5) hcl (h.F.E.ae k5)).mono ?_⟩
 rintro e w10 ⟨k10', ⟨j, hj, rfl⟩ | ⟨hn, sc, rfl, hI⟩⟩
 ·refine ⟨_, _, _, rfl, aF A _, aj (fun _ => ?_) (fun g => by cases g)⟩
  unfold rdA
  rw [hj, if_neg (by simp)]
  exact ⟨_, rfl, jt _, aN.nil _ _ _, f, d, (h.ae (k5.trans k10')).lift (by omega), FTo.ae (k5.trans k10')⟩
 have k10 : ah w w10 := k5.trans k10'
 have h10 := h.ae k10
 have o10 := o6.ae k10'
 have hlen := lv hn
 have hsl := hI.sl
 have hne := hI.ne
 unfold rdA
 rw [if_pos hn]
 generalize a / (cs.length : Int) = at_ 
 generalize hcc : iM cs a = c at hI hlen hsl hne ⊢
 have stay : ∀ {w2 : World} {u : Slc} {e' : Option Nat} {t : List UInt8}, ah w w2 -> au w2 u t -> aN w u -> Gl A w n0 N (m + 4) r rd f us up (e', t, S) (.returned (.tuple ⟨[u.v, cm A e']⟩)) w2 := fun {w2 u e' t} hk hb hf => ⟨u, rfl, hb, hf, f, d, (h.ae hk).lift (by omega), FTo.ae hk⟩
 obtain ⟨a14, ha14, hc14⟩ := hI.cell (i := c.length - 1) (by omega)
 have hlast : c.getD (c.length - 1) 0 = c[c.length - 1]'(by omega) := by rw [List.getD_eq_getElem?_getD, List.getElem?_eq_getElem (by omega), Option.getD_some]
 rw [<- hlast] at hc14
 refine ⟨_, _, _, rfl, trivial, aj (fun g => by cases g) (fun _ => ⟨ar (by omega), aa ha14 ⟨by omega, by omega, _, by rw [show Int.toNat (((sc.l : Nat) : Int) - 1) = c.length - 1 by omega]; exact hc14, ?_⟩⟩)⟩
 unfold DP
 refine (oz h10 (c.getD (c.length - 1) 0)).mono ?_
 rintro x w17 ⟨k17', ⟨hu, hi, rfl⟩ | ⟨hu, rfl⟩⟩
 rotate_left
 ·rw [hu, if_neg (by decide)]
  exact ⟨_, _, rfl, aF A _, aj (fun _ => stay (k10.trans k17') (jt _) (aN.nil _ _ _)) (fun g => by cases g)⟩
 rw [if_pos hu]
 have k17 := k10.trans k17'
 have h17 := h.ae k17
 generalize hin : (c.getD (c.length - 1) 0).toNat = i at hi ⊢
 refine ⟨_, _, rfl, trivial, aj (fun g => by cases g) (fun _ => ⟨_, (o10.ae k17').ob.cell 0 (by simp), ?_⟩)⟩
 refine (nB h17 hi ep at_).mono ?_
 rintro x w22 ⟨u, rfl, hu22, hf22, k22'⟩
 have k22 := k17.trans k22'
 have h22 := h.ae k22
 have frz : aN w u := hf22.mono k17.size
 have hlt : ∀ j, rdE (S i) ep at_ = some j -> j < 19 := qM
 refine ⟨u, _, rfl, fun w2 => ah w22 w2 /\ rdE (S i) ep at_ = some 9 /\ c.length ≠ 1, ⟨_, cP.at h22.F.E.1 9 (by omega), (uZ A _ hlt 9 (by omega) w22 h22.F.E.1).mono ?_⟩, ?_⟩
 ·rintro x w28 ⟨rfl, rfl⟩
  refine ⟨_, rfl, aT (fun h1 => ?_) (fun h1 => af (fun h2 => ?_) (fun h2 => ⟨Ext.refl _ _, h1, by omega⟩))⟩
  ·by_cases h0 : rdE (S i) ep at_ = none
   ·rw [if_pos h0] at hu22 ⊢
    rw [h0]
    exact stay (e' := none) k22 hu22.tb frz
   ·rw [if_neg h0] at hu22 ⊢
    rw [if_pos (.inl h1)]
    exact stay k22 hu22.tb frz
  ·rw [if_neg (by rw [h1]; simp)] at hu22 ⊢
   rw [if_pos (.inr (by omega))]
   exact stay k22 hu22.tb frz
 rintro w30 ⟨k30', h9, hc1⟩
 intros
 have k30 := k22.trans k30'
 have h30 := h.ae k30
 have kk : ah w10 w30 := k17'.trans (k22'.trans k30')
 obtain ⟨a44, ha44, hc44⟩ := (hI.ae kk).first
 rw [if_neg (by rw [h9]; simp), if_neg (fun hh => hh.elim (fun g => g h9) hc1)]
 refine aa ha44 ⟨by omega, by omega, _, hc44, (oz h30 (c.getD 0 0)).mono ?_⟩
 rintro x w47 ⟨k47', ⟨hu2, hi2, rfl⟩ | ⟨hu2, rfl⟩⟩
 rotate_left
 ·rw [hu2, if_neg (by decide)]
  exact ⟨_, _, rfl, aF A _, aj (fun _ => stay (k30.trans k47') (jt _) (aN.nil _ _ _)) (fun g => by cases g)⟩
 rw [if_pos hu2]
 have k47 := k30.trans k47'
 have h47 := h.ae k47
 have o47 := (o10.ae kk).ae k47'
 generalize hin2 : (c.getD 0 0).toNat = i2 at hi2 ⊢
 refine ⟨_, _, rfl, trivial, aj (fun g => by cases g) (fun _ => ⟨_, o47.ob.cell 0 (by simp), ?_⟩)⟩
 refine (nB h47 hi2 ep at_).mono ?_
 rintro x w52 ⟨u2, rfl, hu52, hf52, k52'⟩
 have k52 := k47.trans k52'
 have h52 := h.ae k52
 have frz2 : aN w u2 := hf52.mono k47.size
 refine ⟨u2, _, rfl, aF A _, ?_⟩
 cases hr : rdE (S i2) ep at_ with
 | some x =>
  rw [if_neg (by simp)]
  exact aj (fun _ => stay k52 (jt _) (aN.nil _ _ _)) (fun g => by cases g)
 | none =>
  rw [hr] at hu52
  rw [if_pos rfl] at hu52 ⊢
  refine aj (fun g => by cases g) (fun _ => ⟨_, (o47.ae k52').ob.cell 0 (by simp), ?_⟩)
  refine (mW h52 (by omega) ep at_ (((hI.ae kk).ae k47').ae k52') hlen.1 u2 _ hu52).mono ?_
  rintro x w57 hx
  exact yN h52 frz2 hu52 (FTo.ae k52) ⟨hx.1, hx.2.lift (by omega)⟩
theorem EL (w : World) : Calls Tryz.prog oL ⟨[]⟩ w fun x w' => ∃ u : Slc, x = .returned u.v /\ au w' u [0] /\ aN w u /\ (∀ k, ai u k -> k < w'.heap.size) /\ ah w w' := by
 refine AK ?_
 unfold zX
 refine ao (fun r1 w2 hr1 hb1 k1 hs1 => ?_)
 rintro w4 rfl
 obtain ⟨hm1, hm2⟩ := xk hb1
 have ho : Own (markW w2 r1) ⟨some ⟨r1, 0, none⟩, 1, 1⟩ 1 (([0] : List UInt8).map aS) := Own.new (sz := 1) (n := 1) hm1 (xl _) rfl
 exact ⟨_, rfl, ho.bytes, aN.at (by omega), cD ho, k1.step (r := r1) (by omega) hm2⟩
end
end Go.D
namespace Go.D
open Go Go.Proofs
def stA (N : Nat) (up : Nat -> Bool) (ep : Int) (cs : List (List Int)) (a k : Int) (t : List UInt8) (S : Nat -> UnS) : Option Nat × (Nat -> UnS) :=
 if plE ep cs a = none then (if k < 0 \/ ((iM cs a).length : Int) <= k then (some 0, S) else putP N up (decide (k = 0)) ep (a / (cs.length : Int)) t ((iM cs a).getD k.toNat 0) S) else (plE ep cs a, S)
def trA (N : Nat) (up : Nat -> Bool) (ep : Int) (cs : List (List Int)) (to : Int) (S : Nat -> UnS) : Option Nat × (Nat -> UnS) :=
 if ¬ bo ep cs then (some 3, S) else if to < 0 \/ 4096 < to then (some 0, S) else A0 N up ep to cs.length 0 cs S
def tlA (N : Nat) (up : Nat -> Bool) (ep : Int) (cs : List (List Int)) (S : Nat -> UnS) : Option Nat × Int :=
 if ¬ bo ep cs then (some 3, 0) else match tailsP N up S cs with
  | none => (some 11, 0)
  | some l => (none, tl cs.length l (min cs.length l.length))
section
variable {A : Nat -> Addr} {w w' : World} {n0 N m m' : Nat} {r rd : Nat -> Nat} {f f' f'' : Nat -> UnF} {d d' : Nat -> aK} {S S' : Nat -> UnS} {us : Slc} {up : Nat -> Bool} {s sc : Slc} {cs : List (List Int)} {c : List Int} {o : Nat} {vs : List Value}
theorem EM (h : ChU A w n0 N m r rd f d S us up) (hm : m <= 2 ^ 56) (ep a k : Int) (hP : PlF w (FB N r rd f) s cs) (hcl : cs.length <= 2 ^ 40) (b : Slc) (t : List UInt8) (hb : Txt w (FB N r rd f) b t) :
  Calls Tryz.prog fV ⟨[us.v, .agg ⟨[.int .i64 ep, s.v]⟩, .int .i64 a, .int .i64 k, b.v]⟩ w fun x w' => zy A w n0 N (m + 4) r rd f us up (stA N up ep cs a k t S) x w' := by
 refine y9 _ _ _ _ _ _ ?_
 unfold xD
 refine ao (fun r6 w7 hr6 hb6 k6 hs6 => ?_)
 have o7 := h.obj k6 hr6 hb6
 refine ⟨ep, s, o7.ob.row, (pr ep a (hP.ae k6) hcl (h.F.E.ae k6)).mono ?_⟩
 rintro e w11 ⟨k11, ⟨j, hj, rfl⟩ | ⟨hn, sc, rfl, hI⟩⟩
 ·refine ⟨_, _, _, rfl, aF A _, aj (fun _ => ?_) (fun g => by cases g)⟩
  unfold stA
  rw [hj, if_neg (by simp)]
  exact ⟨rfl, f, d, (h.ae (k6.trans k11)).lift (by omega), FTo.ae (k6.trans k11)⟩
 have kk := k6.trans k11
 have kd : ah w (World.drew w11) := kk.drew
 have h11 := h.ae kk
 have hd := h.ae kd
 have od := (o7.ae k11).ae (Ext.drew _ _)
 have hId : gQ (World.drew w11) (FB N r rd f) sc (iM cs a) := hI.ae (Ext.drew _ _)
 have hsl := hI.sl
 unfold stA
 rw [if_pos hn]
 have bad : (k < 0 \/ ((iM cs a).length : Int) <= k) -> ∀ {x : Value}, x = cm A (some 0) -> zy A w n0 N (m + 4) r rd f us up (if k < 0 \/ ((iM cs a).length : Int) <= k then (some 0, S) else putP N up (decide (k = 0)) ep (a / (cs.length : Int)) t ((iM cs a).getD k.toNat 0) S) (.returned x) w11 := fun hb x hx => by
  rw [if_pos hb, hx]
  exact ⟨rfl, f, d, h11.lift (by omega), FTo.ae kk⟩
 refine ⟨_, _, _, rfl, trivial, aj (fun g => by cases g) (fun _ => af (fun h1 => ⟨_, cP.at h11.F.E.1 0 (by omega), bad (.inl h1) rfl⟩) (fun h1 => af (fun h2 => ⟨_, cP.at h11.F.E.1 0 (by omega), bad (.inr (by omega)) rfl⟩) (fun h2 => ?_)))⟩
 have hk : k.toNat < (iM cs a).length := by omega
 obtain ⟨a18, ha18, hc18⟩ := hId.cell hk
 rw [if_neg (by omega)]
 have e9 : (iM cs a).getD k.toNat 0 = (iM cs a)[k.toNat] := by rw [List.getD_eq_getElem?_getD, List.getElem?_eq_getElem hk, Option.getD_some]
 rw [e9]
 refine aa ha18 ⟨by omega, by omega, _, hc18, _, od.ob.cell 0 (by simp), ?_⟩
 refine (mV hd (by omega) _ ep (a / (cs.length : Int)) (decide (k = 0)) b t (hb.ae kd)).mono ?_
 rintro x w19 ⟨rfl, hx⟩
 exact ⟨_, rfl, rfl, (ChP.from (FTo.ae kd) hx).lift (by omega)⟩
theorem Gm {first : Bool} {e a : Int} {t : List UInt8} {n : Int} (h : (putP N up first e a t n S).1 = some 8) : upB N up n = true := by
 unfold putP at h
 split at h
 ·assumption
 ·cases h
theorem Ai (h : ChU A w n0 N m r rd f d S us up) (hm : m <= 2 ^ 56) (ep a : Int) (hP : PlF w (FB N r rd f) s cs) (hcl : cs.length <= 2 ^ 40) :
  Calls Tryz.prog jQ ⟨[us.v, .agg ⟨[.int .i64 ep, s.v]⟩, .int .i64 a]⟩ w fun x w' => Gl A w n0 N (m + 4) r rd f us up (flA N up ep cs a S) x w' := by
 refine zd _ _ _ _ ?_
 unfold xG
 refine ao (fun r5 w6 hr5 hb5 k5 hs5 => ?_)
 have o6 := h.obj k5 hr5 hb5
 refine ⟨ep, s, o6.ob.row, (pr ep a (hP.ae k5) hcl (h.F.E.ae k5)).mono ?_⟩
 rintro e w10 ⟨k10', ⟨j, hj, rfl⟩ | ⟨hn, sc, rfl, hI⟩⟩
 ·refine ⟨_, _, _, rfl, aF A _, aj (fun _ => ?_) (fun g => by cases g)⟩
  unfold flA
  rw [hj, if_neg (by simp)]
  exact ⟨_, rfl, jt _, aN.nil _ _ _, f, d, (h.ae (k5.trans k10')).lift (by omega), FTo.ae (k5.trans k10')⟩
 have k10 : ah w w10 := k5.trans k10'
 have h10 := h.ae k10
 have o10 := o6.ae k10'
 have hlen := lv hn
 have hsl := hI.sl
 have hne := hI.ne
 unfold flA
 rw [if_pos hn]
 generalize a / (cs.length : Int) = at_
 generalize hcc : iM cs a = c at hI hlen hsl hne ⊢
 refine ⟨_, _, _, rfl, trivial, aj (fun g => by cases g) (fun _ => (EL w10).mono ?_)⟩
 rintro x w15 ⟨s16, rfl, hb16, hf16, hl16, k15⟩
 have kd : ah w10 (World.drew w15) := k15.drew
 have kdd := k10.trans kd
 have hd := h.ae kdd
 have od := o10.ae kd
 have hId := hI.ae kd
 have frz : aN w s16 := hf16.mono k10.size
 have b16 : Txt (World.drew w15) (FB N r rd f) s16 [0] := ⟨aG hb16 (Ext.drew _ _), fun k hk => ⟨hl16 k hk, fun hh => by have := frz k hk; have := h.F.lt.1 k hh; omega⟩, by simp⟩
 obtain ⟨a17, ha17, hc17⟩ := hId.first
 refine ⟨s16, rfl, aa ha17 ⟨by omega, by omega, _, hc17, _, od.ob.cell 0 (by simp), ?_⟩⟩
 refine (mV hd (by omega) (c.getD 0 0) ep at_ true s16 [0] b16).mono ?_
 rintro x w21 ⟨rfl, f3, d3, h21, ft3⟩
 have ft21 : FTo N r rd f f3 w w21 := (FTo.ae kdd).trans ft3
 have o21 := od.to ft3
 have hI21 := hId.to ft3
 have b21 := b16.to ft3
 have hupq : (putP N up true ep at_ [0] (c.getD 0 0) S).1 = some 8 -> upB N up (c.getD 0 0) = true := Gm
 have hltq := mf (N := N) (up := up) (S := S) trivial true ep at_ [0] (c.getD 0 0)
 unfold Cs
 generalize hq : putP N up true ep at_ [0] (c.getD 0 0) S = q at h21 hupq hltq ⊢
 refine ⟨_, rfl, fun err b w2 => ∃ (e' : Option Nat) (t' : List UInt8), err = cm A e' /\ aN w b /\ ObF w2 (FB N r rd f3) r5 [.int .i64 ep, s.v] /\ gQ w2 (FB N r rd f3) sc c /\ ChU A w2 n0 N (m + 1) r rd f3 d3 q.2 us up /\ FTo N r rd f f3 w w2 /\ (e' = none -> Txt w2 (FB N r rd f3) b t') /\
   rI N up ep at_ c q = (if e' = none then sQ N up ep at_ t' c.tail q.2 else (e', [], q.2)), ⟨_, cP.at h21.F.E.1 8 (by omega), (uZ A _ hltq 8 (by omega) w21 h21.F.E.1).mono ?_⟩, ?_⟩
 ·rintro x w26 ⟨rfl, rfl⟩
  refine ⟨_, rfl, af (fun h1 => ?_) (fun h1 => ⟨q.1, [0], rfl, frz, o21, hI21, h21, ft21, fun _ => b21, ?_⟩)⟩
  ·have kd26 : ah w26 (World.drew w26) := Ext.drew _ _
   obtain ⟨a28, ha28, hc28⟩ := (hI21.ae kd26).first
   obtain ⟨⟨hu1, hu2⟩, hu3⟩ := re.1 (hupq h1)
   have hi : (c.getD 0 0).toNat < N := by omega
   have hdd := h21.ae kd26
   obtain ⟨a30, ha30, hc30⟩ := hdd.get hi
   rw [hu3, if_pos rfl] at hc30
   have husl := hdd.sl
   refine aa ha28 ⟨by omega, by omega, _, hc28, aa ha30 ⟨by omega, by omega, _, by rw [Nat.mul_one]; exact hc30, _, (o21.ae kd26).ob.cell 0 (by simp), ?_⟩⟩
   refine (nB hdd hi ep at_).mono ?_
   rintro x w34 ⟨u, rfl, hu34, hf34, k34'⟩
   have k34 := kd26.trans k34'
   refine ⟨u, _, rfl, rdE (q.2 (c.getD 0 0).toNat) ep at_, pgD (q.2 (c.getD 0 0).toNat) at_, rfl, hf34.mono (by have := ft21.1.size; exact this), o21.ae k34, hI21.ae k34, h21.ae k34, ft21.trans (FTo.ae k34), fun h0 => by rw [if_pos h0] at hu34; exact hu34, ?_⟩
   unfold rI
   rw [if_neg (by rw [h1]; simp), if_pos h1]
  ·unfold rI
   rw [if_neg h1]
 rintro err b w39 ⟨e', t', rfl, hfb, o39, hI39, h39, ft39, hb39, heq⟩
 intros
 rw [heq]
 refine ⟨aF A _, ?_⟩
 cases e' with
 | some x =>
  refine aj (fun _ => ?_) (fun g => by cases g)
  rw [if_neg (by simp)]
  exact ⟨_, rfl, jt _, aN.nil _ _ _, f3, d3, h39.lift (by omega), ft39⟩
 | none =>
  refine aj (fun g => by cases g) (fun _ => ⟨_, o39.ob.cell 0 (by simp), ?_⟩)
  rw [if_pos rfl]
  refine (mW h39 (by omega) ep at_ hI39 hlen.1 b t' (hb39 rfl)).mono ?_
  rintro x w58 hx
  exact yN h39 hfb (hb39 rfl) ft39 ⟨hx.1, hx.2.lift (by omega)⟩
theorem va (e own : Int) (n : Int) (l : List Int) : uy N up e own (n :: l) S = if upB N up n then (if (jo 2 (S n.toNat) e own).1 = none then uy N up e own l (bk S n.toNat (jo 2 (S n.toNat) e own).2) else ((jo 2 (S n.toNat) e own).1, bk S n.toNat (jo 2 (S n.toNat) e own).2)) else (some 11, S) := rfl
theorem vb (e to : Int) (n k : Nat) (l : List Int) (q : List (List Int)) : A0 N up e to n k (l :: q) S = if (uy N up e (pn n k to) l S).1 = none then A0 N up e to n (k + 1) q (uy N up e (pn n k to) l S).2 else uy N up e (pn n k to) l S := rfl
theorem A7 (to : Int) (k n : Nat) (ht : 0 <= to /\ to <= 4096) (hk : k < n) (hn : n <= 3) (w : World) :
  Calls Tryz.prog lD ⟨[.int .i64 to, .int .i64 (k : Int), .int .i64 (n : Int)]⟩ w fun x w' => ∃ v : Int, x = .returned (.int .i64 v) /\ w' = w /\ (if v > 0 then v else 0) = pn n k to := by
 refine xH _ _ _ ?_
 unfold vr
 refine ⟨ar (by omega), ar (by omega), ar (by omega), by omega, by omega, ar (by omega), _, rfl, rfl, ?_⟩
 unfold pn
 split <;> omega
theorem EN (h : ChU A w n0 N m r rd f d S us up) (hm : m <= 2 ^ 56) (ep to : Int) (hP : PlF w (FB N r rd f) s cs) (hcl : cs.length <= 2 ^ 40) :
  Calls Tryz.prog ng ⟨[us.v, .agg ⟨[.int .i64 ep, s.v]⟩, .int .i64 to]⟩ w fun x w' => zy A w n0 N (m + 9) r rd f us up (trA N up ep cs to S) x w' := by
 refine ze _ _ _ _ ?_
 unfold xI
 refine ao (fun r5 w6 hr5 hb5 k5 hs5 => ?_)
 have o6 := h.obj k5 hr5 hb5
 refine ⟨fun w2 => ah w6 w2 /\ bo ep cs /\ 0 <= to /\ to <= 4096, ⟨ep, s, o6.ob.row, (jP ep s cs w6 (hP.ae k5).chs hcl).mono ?_⟩, ?_⟩
 ·rintro e w11 ⟨b, rfl, hb, k11'⟩
  have k11 := k5.trans k11'
  have h11 := h.ae k11
  refine ⟨b, rfl, aj (fun h1 => ?_) (fun h1 => ?_)⟩
  ·have hn : ¬ bo ep cs := fun hh => by rw [hb.2 hh] at h1; cases h1
   refine ⟨_, cP.at h11.F.E.1 3 (by omega), ?_⟩
   unfold trA
   rw [if_pos hn]
   exact ⟨rfl, f, d, h11.lift (by omega), FTo.ae k11⟩
  have hr : bo ep cs := hb.1 (by simpa using h1)
  have bad : (to < 0 \/ 4096 < to) -> zy A w n0 N (m + 9) r rd f us up (trA N up ep cs to S) (.returned (cm A (some 0))) w11 := fun hb => by
   unfold trA
   rw [if_neg (by simpa using hr), if_pos hb]
   exact ⟨rfl, f, d, h11.lift (by omega), FTo.ae k11⟩
  exact af (fun h2 => ⟨_, cP.at h11.F.E.1 0 (by omega), bad (.inl h2)⟩) (fun h2 => af (fun h3 => ⟨_, cP.at h11.F.E.1 0 (by omega), bad (.inr h3)⟩) (fun h3 => ⟨k11', hr, by omega⟩))
 rintro w16 ⟨k16', hr, ht⟩
 intros
 have k16 := k5.trans k16'
 have h16 := h.ae k16
 have o16 := o6.ae k16'
 have hP16 := hP.ae k16
 have hl3 := hr.2.1
 have hsl := hP.l
 unfold trA
 rw [if_neg (by simpa using hr), if_neg (by omega)]
 refine ⟨s, o16.ob.cell 1 (by simp), fun i w2 => ∃ (j : Nat) (f2 : Nat -> UnF) (d2 : Nat -> aK) (S2 : Nat -> UnS), i = j /\ j <= cs.length /\ ChU A w2 n0 N (m + 3 * j) r rd f2 d2 S2 us up /\ FTo N r rd f f2 w w2 /\ ObF w2 (FB N r rd f2) r5 [.int .i64 ep, s.v] /\ PlF w2 (FB N r rd f2) s cs /\
   A0 N up ep to cs.length 0 cs S = A0 N up ep to cs.length j (cs.drop j) S2, fun i _ => ((cs.length : Int) - i).toNat, ⟨0, f, d, S, rfl, by omega, h16, FTo.ae k16, o16, hP16, rfl⟩, ?_⟩
 rintro i w35 ⟨j, f2, d2, S2, rfl, hj, h35, ft35, o35, hP35, heq⟩
 intros
 refine af (fun h1 => ?_) (fun h1 => ?_)
 ·have hjl : j < cs.length := by omega
  obtain ⟨hc1, hc3, hcu⟩ := hr.2.2.1 _ (List.getElem_mem hjl)
  obtain ⟨a80, sl, ha80, hcell, hI⟩ := hP35.at hjl hc1
  have hisl := hI.sl
  refine aa ha80 ⟨by omega, by omega, sl, by rw [Int.toNat_natCast]; exact hcell, s, o35.ob.cell 1 (by simp), ?_⟩
  rw [hsl]
  refine (A7 to j cs.length ht hjl hl3.2 w35).mono ?_
  rintro x w84 ⟨v, rfl, rfl, hv⟩
  rw [List.drop_eq_getElem_cons hjl, vb] at heq
  refine ⟨v, rfl, fun i w2 => ∃ (q : Nat) (f4 : Nat -> UnF) (d4 : Nat -> aK) (S4 : Nat -> UnS), i = q /\ q <= cs[j].length /\ ChU A w2 n0 N (m + 3 * j + q) r rd f4 d4 S4 us up /\ FTo N r rd f f4 w w2 /\ ObF w2 (FB N r rd f4) r5 [.int .i64 ep, s.v] /\ PlF w2 (FB N r rd f4) s cs /\ gQ w2 (FB N r rd f4) sl cs[j] /\
   uy N up ep (pn cs.length j to) cs[j] S2 = uy N up ep (pn cs.length j to) (cs[j].drop q) S4, fun i _ => ((cs[j].length : Int) - i).toNat, ⟨0, f2, d2, S2, rfl, by omega, h35, ft35, o35, hP35, hI, rfl⟩, ?_⟩
  rintro i w89 ⟨q, f4, d4, S4, rfl, hq, h89, ft89, o89, hP89, hI89, heq2⟩
  intros
  refine af (fun h2 => ?_) (fun h2 => ?_)
  ·have hql : q < cs[j].length := by omega
   obtain ⟨a116, ha116, hc116⟩ := hI89.cell hql
   refine aa ha116 ⟨by omega, h2, _, by rw [Int.toNat_natCast]; exact hc116, (oz h89 cs[j][q]).mono ?_⟩
   rw [List.drop_eq_getElem_cons hql, va] at heq2
   rintro x w119 ⟨k119, ⟨hu, hi, rfl⟩ | ⟨hu, rfl⟩⟩
   rotate_left
   ·refine ⟨_, _, rfl, aF A _, aj (fun _ => ?_) (fun g => by cases g)⟩
    rw [hu, if_neg (by decide)] at heq2
    rw [heq2, if_neg (by simp)] at heq
    rw [heq]
    exact ⟨rfl, f4, d4, (h89.ae k119).lift (by omega), ft89.trans (FTo.ae k119)⟩
   rw [hu, if_pos rfl] at heq2
   have h119 := h89.ae k119
   generalize hin : (cs[j][q]).toNat = i at hi heq2 ⊢
   refine ⟨_, _, rfl, trivial, aj (fun g => by cases g) (fun _ => ⟨_, (o89.ae k119).ob.cell 0 (by simp), ?_⟩)⟩
   rw [hv]
   refine (Dk A (h119.F.U i hi) h119.F.E (by omega) ep (pn cs.length j to)).mono ?_
   rintro x w124 ⟨e', rfl, hout⟩
   obtain ⟨rfl, f1, d1, hU1, hn1, hs1, uf⟩ := hout.live (h119.F.k i hi).2
   rw [(h119.F.k i hi).1] at hU1 ⊢
   obtain ⟨hF124, ftn⟩ := h119.F.step hi hU1 (by omega) hn1 hs1 uf
   have h124 := h119.to hF124 ftn
   have ft124 := (ft89.trans (FTo.ae k119)).trans ftn
   refine ⟨_, rfl, aF A _, ?_⟩
   generalize hp : jo 2 (S4 i) ep (pn cs.length j to) = p at h124 heq2 ⊢
   cases hp1 : p.1 with
   | some x =>
    refine aj (fun _ => ?_) (fun g => by cases g)
    rw [hp1, if_neg (by simp)] at heq2
    rw [heq2, if_neg (by simp)] at heq
    rw [heq]
    exact ⟨rfl, _, _, h124.lift (by omega), ft124⟩
   | none =>
    rw [hp1, if_pos rfl] at heq2
    exact aj (fun g => by cases g) (fun _ => ⟨ar (by omega), ⟨q + 1, _, _, _, rfl, hql, h124.lift (by omega), ft124, (o89.ae k119).to ftn, (hP89.ae k119).to ftn, (hI89.ae k119).to ftn, heq2⟩, by dsimp only; omega⟩)
  ·have hqe : q = cs[j].length := by omega
   rw [hqe, List.drop_length] at heq2
   rw [heq2] at heq
   exact ⟨ar (by omega), ⟨j + 1, f4, d4, S4, rfl, hjl, h89.lift (by omega), ft89, o89, hP89, heq⟩, by dsimp only; omega⟩
 ·have hjl : j = cs.length := by omega
  rw [hjl, List.drop_length] at heq
  rw [heq]
  exact ⟨rfl, f2, d2, h35.lift (by omega), ft35⟩
end
end Go.D
namespace Go.D
open Go Go.Proofs
section
variable {w w' : World} {r k m : Nat} {f : RuF} {P : List RuE} {top : Int} {s : UnS}
theorem jO.Ci {tr ep tr' ep' : Int} (h : jO w r k f P tr ep top) (he : Ext (fun j => j = r) w w') (ho : aq w' r [av f.rs, f.sa.v, f.sp.v, f.si.v, .int .i64 tr', .int .i64 ep', .int .i64 top]) : jO w' r k f P tr' ep' top := by
 obtain ⟨c, hc⟩ := h.c
 have no : ∀ j, c j ≠ 0 -> ¬ j = r := fun j h1 h2 => h1 (by rw [h2]; exact hc.cr)
 exact ⟨ho, h.R.ext he (fun j hj => no j (by rw [hc.cf j hj]; omega)) (fun j hj => no j (by rw [hc.cy j (.inl hj)]; omega)), h.a.ext he (fun j hj => no j (by rw [hc.ca j hj]; omega)), h.p.ext he (fun j hj => no j (by rw [hc.cp j hj]; omega)) (fun j hj => no j (by rw [hc.cy j (.inr hj)]; omega)),
  h.i.ext he (fun j hj => no j (by rw [hc.ci j hj]; omega)), c, hc⟩
theorem ec.Ig (he : Ext (fun j => j = r) w w') : ec r f f w w' := ⟨he.mono (fun j hj => .inl hj), fun j hj => .inl hj, fun j hj => .inl hj⟩
theorem yO (h : RuS w r k f P top s) (hP : P.length <= 2 ^ 20) (epoch a : Int) :
  Calls Tryz.prog aU ⟨[av r, .int .i64 epoch, .int .i64 a]⟩ w fun e w' => ∃ t : Slc, e = .returned (.tuple ⟨[t.v, .int .i64 (eN (readE s.tr s.ep (pgM s.U s.tr) epoch a))]⟩) /\ au w' t (if (readE s.tr s.ep (pgM s.U s.tr) epoch a).isNone then (pgM s.U s.tr a).getD [] else []) /\ ah w w' /\ aN w t := by
 refine lb _ _ _ ?_
 unfold ib
 have nilB : ∀ w2, au w2 (⟨none, 0, 0⟩ : Slc) [] := fun w2 => (show Own w2 ⟨none, 0, 0⟩ 1 (([] : List UInt8).map aS) from Own.nil _ _).bytes
 refine (me h.A epoch a 4095).mono ?_
 rintro e w5 ⟨rfl, rfl⟩
 unfold readE
 cases hc : eu s.ep epoch a 4095 with
 | some c =>
  have : eN (some c) ≠ 0 := by show ((c + 1 : Nat) : Int) ≠ 0; omega
  exact ⟨_, rfl, aj (fun _ => ⟨_, rfl, nilB _, Ext.refl _ _, aN.nil _ _ _⟩) (fun hh => by simp [this] at hh)⟩
 | none =>
  have ha : 0 <= a /\ a <= 4095 := by
   unfold eu at hc
   split at hc
   ·cases hc
   ·split at hc
    ·cases hc
    ·omega
  obtain ⟨an, rfl⟩ : ∃ an : Nat, a = an := ⟨a.toNat, by omega⟩
  dsimp only
  refine ⟨_, rfl, aj (fun hh => by simp [eN] at hh) (fun _ => aa rfl ⟨_, h.A.cs.2.2.2.2.1, af (fun h1 => ?_) (fun h1 => ?_)⟩)⟩
  ·rw [if_pos h1]
   exact ⟨_, rfl, nilB _, Ext.refl _ _, aN.nil _ _ _⟩
  rw [if_neg h1]
  refine (yD h.A hP (an : Int)).mono ?_
  rintro e w10 ⟨rfl, rfl⟩
  refine ⟨_, rfl, ?_⟩
  rcases h.K.get an with ⟨g1, g2⟩ | ⟨i, hi, g1, g2⟩
  ·rw [g1, g2]
   exact af (fun _ => ⟨_, rfl, nilB _, Ext.refl _ _, aN.nil _ _ _⟩) (fun hh => absurd (by omega) hh)
  ·rw [g1, g2]
   refine af (fun hh => absurd hh (by omega)) (fun _ => ao (fun r12 w13 hr12 hb12 k12 hs12 => ?_))
   have hA := h.A.ae k12
   have hic : i < f.css.length := by rw [hA.p.len, List.length_map]; exact hi
   obtain ⟨a16, ha16, _, hrow⟩ := hA.p.get (i := i) hic
   obtain ⟨s17, hcs, hb17⟩ := hA.p.row i hic (by simpa using hi)
   rw [hcs] at hrow
   rw [List.getElem_map] at hb17
   have hsl := hA.p.sl
   rw [List.length_map] at hsl
   have hok := (h.K.ok _ (List.getElem_mem hi)).2
   have hbl := hb17.1
   refine aa rfl ⟨_, hA.cs.2.2.1, aa ha16 ⟨by omega, by omega, s17, by rw [Int.toNat_natCast]; exact jk hrow 0 (by simp), ?_⟩⟩
   refine fx (vs := []) (w0 := w10) (Own.new (sz := 1) (n := 0) hb12 (.inl (by simp)) rfl) rfl (aN.at (by omega)) k12 (eD hb17) (by simp only [Src.n]; omega) (fun s' w' q1 q2 q3 q4 => ?_)
   exact ⟨s', rfl, Own.bytes (by simpa using q1), q2, q3⟩
theorem zD (h : RuS w r k f P top s) (hu : UOk k m s) (hm : m <= 2 ^ 59) (epoch : Int) :
  Calls Tryz.prog dF ⟨[av r, .int .i64 epoch]⟩ w fun e w' => e = .returned (.tuple ⟨[.int .i64 (if (gZ k s epoch).1 = none then ((gZ k s epoch).2.T : Int) else 0), .int .i64 (eN (gZ k s epoch).1)]⟩) /\ ∃ f', RuS w' r k f' P top (gZ k s epoch).2 /\ ec r f f' w w' := by
 refine lf _ _ ?_
 unfold ie
 have hep := hu.t.2
 have htt := h.K.t
 refine ⟨fun w2 => ¬ (epoch < 0 \/ 1073741824 < epoch) /\ w2 = w, af (fun h0 => ?_) (fun h0 => af (fun h1 => ?_) (fun h1 => ⟨by omega, rfl⟩)), ?_⟩
 ·have hq : gZ k s epoch = (some 13, s) := by unfold gZ; rw [if_pos (.inl h0)]
  rw [hq]
  exact ⟨rfl, f, h, ec.refl _ _ _⟩
 ·have hq : gZ k s epoch = (some 13, s) := by unfold gZ; rw [if_pos (.inr h1)]
  rw [hq]
  exact ⟨rfl, f, h, ec.refl _ _ _⟩
 rintro w4 ⟨h0, rfl⟩
 intros
 refine aa rfl ⟨_, h.A.cs.2.2.2.2.2.1, af (fun h1 => ?_) (fun h1 => aa rfl ⟨_, h.A.cs.2.2.2.2.2.1, ?_⟩)⟩
 ·have hq : gZ k s epoch = (some 7, s) := by unfold gZ; rw [if_neg h0, if_pos h1]
  rw [hq]
  exact ⟨rfl, f, h, ec.refl _ _ _⟩
 refine af (fun h2 => ?_) (fun h2 => ?_)
 ·obtain ⟨en, rfl⟩ : ∃ en : Nat, epoch = en := ⟨epoch.toNat, by omega⟩
  have hq : gZ k s (en : Int) = match appU k s.U (.shut en) with | none => (some 12, s) | some (n, V) => (none, ⟨V, s.tr, en, s.T⟩) := by
   unfold gZ; rw [if_neg h0, if_neg h1, if_neg (by omega), Int.toNat_natCast]; try rfl
  rw [hq]
  have hok : okR (.shut en) := show en <= 2 ^ 30 by omega
  have kd : ah w4 (World.drew w4) := Ext.drew _ _
  have lt := h.A.lt
  have cell0 : ∀ {w3}, ah w4 w3 -> World.cell? w3 (⟨r, 0, none⟩ : Addr) = some (Value.pointer (some ⟨f.rs, 0, none⟩)) := fun hk => (h.A.ae hk).cs.1
  refine aa rfl ⟨_, cell0 kd, (dg 3 _ (by omega)).mono ?_⟩
  rintro e w28 ⟨s29, rfl, o29, f29, k29⟩
  have k28 := kd.trans k29
  refine ⟨s29, rfl, ⟨_, cell0 k28, rfl⟩, (dg en _ (by omega)).mono ?_⟩
  rintro e w33 ⟨s34, rfl, o34, f34, k34⟩
  have k33 := k28.trans k34
  refine ⟨s34, rfl, ⟨_, cell0 k33, rfl⟩, ao (fun r41 w42 hr41 hb41 k42 hs42 => ⟨⟨_, cell0 (k33.trans k42), rfl⟩, ?_⟩)⟩
  have k42' := k33.trans k42
  have z42 := k42.size
  have b29 : ∀ j, ai s29 j -> j < w33.heap.size := cD (o29.ae k34)
  have b34 : ∀ j, ai s34 j -> j < w33.heap.size := cD o34
  have hrows := yE (w := w42) [s29, s34] [bQ 3, bQ en] hb41 rfl (fun i h h' => by
   match i, h with
   | 0, _ => exact ((o29.ae k34).ae k42).bytes
   | 1, _ => exact (o34.ae k42).bytes) (fun x hx j hj => by
   simp only [List.mem_cons, List.not_mem_nil, or_false] at hx
   rcases hx with rfl | rfl
   ·have := b29 j hj; omega
   ·have := b34 j hj; omega)
  have hel := j9 hok
  have henc : [bQ 3, bQ en].flatten = encR (.shut en) := by simp [encR, pf]
  have hlens : ∀ b ∈ [bQ 3, bQ en], b.length <= 2 ^ 20 := fun b hb9 => by
   have hle : b.length <= ([bQ 3, bQ en].flatten).length := by
    rw [List.length_flatten]
    exact wy (List.mem_map.2 ⟨b, hb9, rfl⟩)
   rw [henc] at hle; omega
  refine (uX _ _ _ hrows (by simp) hlens).mono ?_
  rintro e w45 ⟨s46, rfl, o46, f46, k46⟩
  rw [henc] at o46
  have k45 := k42'.trans k46
  have h45 := h.ae k45
  refine ⟨s46, rfl, ⟨_, cell0 k45, rfl⟩, (pk h45 hu hm (.shut en) hok s46 o46.bytes (fun j hj hh => ?_)).mono ?_⟩
  ·have := f46 j hj
   have := lt.1 j hh
   have := k42'.size
   omega
  rintro e w49 (⟨ha1, ⟨n, rfl⟩, sl', zs', hS', hto⟩ | ⟨n, V, ha1, rfl, sl', zs', hg', hA', hto⟩)
  ·rw [ha1]
   exact ⟨_, _, rfl, aj (fun _ => ⟨rfl, _, hS', (ec.ae k45).trans hto⟩) (fun hh => by simp at hh)⟩
  ·rw [ha1]
   refine ⟨_, _, rfl, aj (fun hh => by simp at hh) (fun _ => aa rfl ?_)⟩
   obtain ⟨c1, c2⟩ := hA'.o.bf 5 (by simp) (.int .i64 (en : Int))
   rw [add_lit]
   refine ⟨c1, fun w39 hw39 => ?_⟩
   obtain ⟨o39, e39, _⟩ := c2 w39 hw39
   have hA9 := hA'.Ci e39 o39
   refine (nv hA9).mono ?_
   rintro e w41 ⟨rfl, k41⟩
   refine ⟨_, rfl, ?_, _, ⟨hA9.ae k41, hg', h.K.note ha1 hu.so (fun _ _ hh => by cases hh) (Nat.le_refl _) htt.2⟩, (((ec.ae k45).trans hto).trans (ec.Ig e39)).trans (ec.ae k41)⟩
   rw [htt.2]; rfl
 ·have hq : gZ k s epoch = (none, s) := by unfold gZ; rw [if_neg h0, if_neg h1, if_pos (by omega)]
  rw [hq]
  refine (nv h.A).mono ?_
  rintro e w44 ⟨rfl, k44⟩
  refine ⟨_, rfl, ?_, f, h.ae k44, ec.ae k44⟩
  rw [htt.2]; rfl
def muT (r : Nat) (w2 : World) : Nat := match w2.cell? ⟨r, 0, none⟩ with | some (.pointer (some a)) => (match w2.cell? (a.add 1) with | some (.slice _ l _) => l | _ => 0) | _ => 0
theorem zE (h : RuS w r k f P top s) (hu : UOk k m s) (hm : m <= 2 ^ 59) (hP : P.length <= 2 ^ 20) (epoch to : Int) :
  Calls Tryz.prog dG ⟨[av r, .int .i64 epoch, .int .i64 to]⟩ w fun e w' => e = .returned (.int .i64 (eN (jo k s epoch to).1)) /\ ∃ f', RuS w' r k f' P top (jo k s epoch to).2 /\ ec r f f' w w' := by
 refine ld _ _ _ ?_
 unfold ic
 have hep := hu.t.2
 have htt := h.K.t
 refine (me h.A epoch to 4096).mono ?_
 rintro e w5 ⟨rfl, rfl⟩
 unfold jo
 cases hc : eu s.ep epoch to 4096 with
 | some c =>
  have : eN (some c) ≠ 0 := by show ((c + 1 : Nat) : Int) ≠ 0; omega
  exact ⟨_, rfl, aj (fun _ => ⟨rfl, f, h, ec.refl _ _ _⟩) (fun hh => by simp [this] at hh)⟩
 | none =>
  have ha : 0 <= to /\ to <= 4096 := by
   unfold eu at hc
   split at hc
   ·cases hc
   ·split at hc
    ·cases hc
    ·omega
  obtain ⟨tn, rfl⟩ : ∃ tn : Nat, to = tn := ⟨to.toNat, by omega⟩
  dsimp only
  refine ⟨_, rfl, aj (fun hh => by simp [eN] at hh) (fun _ => aa rfl ⟨_, h.A.cs.2.2.2.2.1, af (fun h1 => ?_) (fun h1 => ?_)⟩)⟩
  ·rw [if_pos h1]
   exact ⟨rfl, f, h, ec.refl _ _ _⟩
  rw [if_neg h1, Int.toNat_natCast]
  have hok : okR (.trim tn s.ep) := ⟨by omega, by omega⟩
  have kd : ah w5 (World.drew w5) := Ext.drew _ _
  have lt := h.A.lt
  have cell0 : ∀ {w3}, ah w5 w3 -> World.cell? w3 (⟨r, 0, none⟩ : Addr) = some (Value.pointer (some ⟨f.rs, 0, none⟩)) := fun hk => (h.A.ae hk).cs.1
  have cell5 : ∀ {w3}, ah w5 w3 -> World.cell? w3 ((⟨r, 0, none⟩ : Addr).add 5) = some (Value.int .i64 (s.ep : Int)) := fun hk => (h.A.ae hk).cs.2.2.2.2.2.1
  refine aa rfl ⟨_, cell0 kd, aa rfl ⟨_, cell5 kd, (dg 2 _ (by omega)).mono ?_⟩⟩
  rintro e w28 ⟨s29, rfl, o29, f29, k29⟩
  have k28 := kd.trans k29
  refine ⟨s29, rfl, ⟨_, cell5 k28, rfl⟩, ⟨_, cell0 k28, rfl⟩, (dg tn _ (by omega)).mono ?_⟩
  rintro e w33 ⟨s34, rfl, o34, f34, k34⟩
  have k33 := k28.trans k34
  refine ⟨s34, rfl, ⟨_, cell5 k33, rfl⟩, ⟨_, cell0 k33, rfl⟩, (dg s.ep _ (by omega)).mono ?_⟩
  rintro e w38 ⟨s39, rfl, o39, f39, k39⟩
  have k38 := k33.trans k39
  refine ⟨s39, rfl, ⟨_, cell0 k38, rfl⟩, ao (fun r41 w42 hr41 hb41 k42 hs42 => ⟨⟨_, cell0 (k38.trans k42), rfl⟩, ?_⟩)⟩
  have k42' := k38.trans k42
  have z42 := k42.size
  have b29 : ∀ j, ai s29 j -> j < w38.heap.size := cD (o29.ae (k34.trans k39))
  have b34 : ∀ j, ai s34 j -> j < w38.heap.size := cD (o34.ae k39)
  have b39 : ∀ j, ai s39 j -> j < w38.heap.size := cD o39
  have hrows := yE (w := w42) [s29, s34, s39] [bQ 2, bQ tn, bQ s.ep] hb41 rfl (fun i h h' => by
   match i, h with
   | 0, _ => exact ((o29.ae (k34.trans k39)).ae k42).bytes
   | 1, _ => exact ((o34.ae k39).ae k42).bytes
   | 2, _ => exact (o39.ae k42).bytes) (fun x hx j hj => by
   simp only [List.mem_cons, List.not_mem_nil, or_false] at hx
   rcases hx with rfl | rfl | rfl
   ·have := b29 j hj; omega
   ·have := b34 j hj; omega
   ·have := b39 j hj; omega)
  have hel := j9 hok
  have henc : [bQ 2, bQ tn, bQ s.ep].flatten = encR (.trim tn s.ep) := by simp [encR, pf]
  have hlens : ∀ b ∈ [bQ 2, bQ tn, bQ s.ep], b.length <= 2 ^ 20 := fun b hb9 => by
   have hle : b.length <= ([bQ 2, bQ tn, bQ s.ep].flatten).length := by
    rw [List.length_flatten]
    exact wy (List.mem_map.2 ⟨b, hb9, rfl⟩)
   rw [henc] at hle; omega
  refine (uX _ _ _ hrows (by simp) hlens).mono ?_
  rintro e w45 ⟨s46, rfl, o46, f46, k46⟩
  rw [henc] at o46
  have k45 := k42'.trans k46
  have h45 := h.ae k45
  refine ⟨s46, rfl, ⟨_, cell0 k45, rfl⟩, (pk h45 hu hm (.trim tn s.ep) hok s46 o46.bytes (fun j hj hh => ?_)).mono ?_⟩
  ·have := f46 j hj
   have := lt.1 j hh
   have := k42'.size
   omega
  rintro e w49 (⟨ha1, ⟨n, rfl⟩, sl', zs', hS', hto⟩ | ⟨n, V, ha1, rfl, sl', zs', hg', hA', hto⟩)
  ·rw [ha1]
   exact ⟨_, _, rfl, aj (fun _ => ⟨rfl, _, hS', (ec.ae k45).trans hto⟩) (fun hh => by simp at hh)⟩
  rw [ha1]
  refine ⟨_, _, rfl, aj (fun hh => by simp at hh) (fun _ => aa rfl ?_)⟩
  obtain ⟨c1, c2⟩ := hA'.o.bf 4 (by simp) (.int .i64 (tn : Int))
  rw [add_lit]
  refine ⟨c1, fun w39 hw39 => ?_⟩
  obtain ⟨o39', e39, _⟩ := c2 w39 hw39
  have hA9 := hA'.Ci e39 o39'
  have hto9 := ((ec.ae k45).trans hto).trans (ec.Ig e39)
  have hK9 : iV P top ⟨V, tn, s.ep, max s.T tn⟩ := h.K.note ha1 hu.so (fun _ _ hh => by cases hh) (by omega) (by omega)
  -- what is left to be given back
  refine ⟨fun w2 => ∃ (f2 : RuF) (U2 : List aO), RuS w2 r k f2 P top ⟨U2, tn, s.ep, max s.T tn⟩ /\ dC tn U2 = dC tn V /\ ec r f f2 w5 w2 /\ U2.length <= 2 ^ 20, muT r,
   ⟨_, V, ⟨hA9, hg', hK9⟩, rfl, hto9, ?_⟩, ?_⟩
  ·obtain ⟨M, g, hV, hM⟩ := (gk ha1).2.2
   have hl := hu.l
   rcases hM with e | ⟨p, _, e, _⟩
   ·have : V.length = s.U.length := by rw [hV, <- e]; simp
    omega
   ·have : V.length = s.U.length + 1 := by rw [hV, e]; simp
    omega
  rintro w42 ⟨f2, U2, hS2, hrec, hto2, hl2⟩
  intros
  have hzl : f2.zs.length = U2.length := by
   have := congrArg List.length hS2.z
   simpa using this
  have hsl := hS2.A.R.s.sl
  have mu : ∀ {w9 : World} {f9 : RuF} {U9 : List aO}, RuS w9 r k f9 P top ⟨U9, tn, s.ep, max s.T tn⟩ -> muT r w9 = U9.length := by
   intro w9 f9 U9 h9
   have hz9 : f9.zs.length = U9.length := by
    have := congrArg List.length h9.z
    simpa using this
   unfold muT
   rw [h9.A.cs.1]
   simp only
   rw [h9.A.R.c1]
   simp only [Slc.v]
   rw [h9.A.R.s.sl, hz9]
  refine aa rfl ⟨_, hS2.A.cs.1, aa rfl ⟨_, hS2.A.R.c1, af (fun h2 => ?_) (fun h2 => ?_)⟩⟩
  ·obtain ⟨g, g', t', rfl⟩ : ∃ g g' t', U2 = g :: g' :: t' := by
    match U2, hzl with
    | [], e => simp at e; rw [e] at hsl; simp at hsl; omega
    | [g], e => simp at e; omega
    | g :: g' :: t', _ => exact ⟨g, g', t', rfl⟩
   have h0z : 0 < f2.zs.length := by rw [hzl]; simp
   obtain ⟨a105, ha105, hrow⟩ := hS2.A.R.at h0z
   have hz0 : f2.zs[0].g = g.s := by
    have e0 : (gL f2.zs)[0]'(by simpa using h0z) = f2.zs[0].g := List.getElem_map _
    have e1 : (gL f2.zs)[0]'(by simpa using h0z) = (sU (g :: g' :: t'))[0]'(by simp) := by simp only [hS2.z]
    rw [<- e0, e1]; rfl
   have hc105 := jk hrow 1 (by simp [rzC])
   have e105 : (a105.add (0 * 4)).add 1 = a105.add 1 := by
    rw [Nat.zero_mul]
    have : a105.add 0 = a105 := by simp [Addr.add]
    rw [this]
   rw [e105] at hc105
   have hv : (rzC f2.zs[0])[1]'(by simp [rzC]) = .int .i64 (g.num : Int) := by simp [rzC, hz0, aO.s]
   rw [hv] at hc105
   have hsi := Rows.sl hS2.A.i
   have hsa := Rows.sl hS2.A.a
   rw [List.length_map] at hsi hsa
   have hall := hS2.K.all (U := g' :: t') tn
   refine aa rfl ⟨_, hS2.A.cs.1, aa rfl ⟨_, hS2.A.R.c1, aa ha105 ⟨by omega, by omega, _, hc105, aa rfl ⟨_, hS2.A.cs.2.2.2.1, fun i w2 => ∃ n : Nat, i = n /\ n <= P.length /\ (∀ j (hj : j < P.length), j < n -> P[j].n = g.num -> P[j].a < tn) /\ w2 = w42, fun i _ => ((P.length : Int) - i).toNat, ⟨0, rfl, by omega, fun j _ hj => by omega, rfl⟩, ?_⟩⟩⟩⟩
   rintro i w112 ⟨n9, rfl, hn, hno, rfl⟩
   intros
   refine af (fun h3 => ?_) (fun h3 => ?_)
   ·have hnl : n9 < P.length := by omega
    obtain ⟨a135, ha135, hc135⟩ := hS2.A.i.get (i := n9) (by simpa using hnl)
    obtain ⟨a139, ha139, hc139⟩ := hS2.A.a.get (i := n9) (by simpa using hnl)
    rw [List.getElem_map] at hc135 hc139
    have step : (P[n9].n = g.num -> P[n9].a < tn) -> ∀ j (hj : j < P.length), j < n9 + 1 -> P[j].n = g.num -> P[j].a < tn := fun hs j hj hjn => by
     by_cases e : j = n9
     ·subst e; exact hs
     ·exact hno j hj (by omega)
    refine aa ha135 ⟨by omega, h3, _, by rw [Int.toNat_natCast]; exact hc135, af (fun h4 => aa rfl ⟨_, hS2.A.cs.2.1, aa ha139 ⟨by omega, by omega, _, by rw [Int.toNat_natCast]; exact hc139, af (fun h5 => ?_) (fun h5 => ?_)⟩⟩) (fun h4 => ?_)⟩
    ·refine ⟨rfl, f2, ?_, hto2⟩
     have hf : (pagesOf g.rs).all (fun y => decide (y.1 < tn)) = false := by
      rw [hall, Bool.eq_false_iff]
      intro hh
      have := List.all_eq_true.1 hh _ (List.getElem_mem hnl)
      rw [decide_eq_true_eq] at this
      have := this (by omega)
      omega
     have : dC tn V = g :: g' :: t' := by
      rw [<- hrec]
      show (if _ then _ else _) = _
      rw [hf, if_neg (by simp)]
     simp only
     rw [this]; exact hS2
    ·exact ⟨ar (by omega), ⟨n9 + 1, rfl, hnl, step (fun _ => by omega), rfl⟩, by dsimp only; omega⟩
    ·exact ⟨ar (by omega), ⟨n9 + 1, rfl, hnl, step (fun hh => absurd (by omega) h4), rfl⟩, by dsimp only; omega⟩
   ·have hnn : n9 = P.length := by omega
    subst hnn
    have hf : (pagesOf g.rs).all (fun y => decide (y.1 < tn)) = true := by
     rw [hall, List.all_eq_true]
     intro e he
     obtain ⟨j, hj, rfl⟩ := List.getElem_of_mem he
     rw [decide_eq_true_eq]
     exact hno j hj hj
    refine aa rfl ⟨_, hS2.A.cs.1, (zu hS2.A.R (by omega) (g.num : Int)).mono ?_⟩
    rintro e w144 ⟨rfl, sl', zs', hg3, hR3, ht3⟩
    have hz2 : gL f2.zs = sU (g :: g' :: t') := hS2.z
    rw [hz2, yA] at hg3 ⊢
    have hS3 : RuS w144 r k { f2 with sl := sl', zs := zs' } P top ⟨g' :: t', tn, s.ep, max s.T tn⟩ := ⟨hS2.A.store hR3 ht3, hg3, hS2.K.drop (fun a ha => by
     have hp : pgU (g :: g' :: t') = pagesOf g.rs ++ pgU (g' :: t') := by unfold pgU; rw [show fo (g :: g' :: t') = g.rs ++ fo (g' :: t') by simp [fo], aR]
     rw [hp, rG (fun x hx => by
      have := List.all_eq_true.1 hf x hx
      rw [decide_eq_true_eq] at this
      omega)])⟩
    refine ⟨_, rfl, ⟨_, g' :: t', hS3, ?_, hto2.trans (ec.store ht3), by simp at hl2 ⊢; omega⟩, ?_⟩
    ·rw [<- hrec]
     show _ = (if _ then _ else _)
     rw [hf, if_pos rfl]
    ·rw [mu hS3, mu hS2]; simp
  ·refine ⟨rfl, f2, ?_, hto2⟩
   have : dC tn U2 = U2 := by
    match U2, hzl with
    | [], _ => rfl
    | [g], _ => rfl
    | g :: g' :: t', e => simp at e; omega
   simp only
   rw [<- hrec, this]; exact hS2
end
end Go.D
namespace Go.D
open Go Go.Proofs
section
variable {w w' : World} {r k m : Nat} {f : RuF} {P : List RuE} {top : Int} {s : UnS}
theorem A8 (w : World) (k : Nat) :
  Calls Tryz.prog fX ⟨[.int .i64 (k : Int)]⟩ w fun e w' => ∃ r f, e = .returned (av r) /\ RuS w' r k f [] 0 ⟨[], 0, 0, 0⟩ /\ (∀ j, RuW r f j -> w.heap.size <= j) /\ (∀ j, ¬ RuY f j) /\ ah w w' := by
 refine pT _ ?_
 unfold lM
 refine ao (fun r2 w3 hr2 hb2 k2 hs2 => ao (fun r4 w5 hr4 hb4 k4 hs4 => ?_))
 have nob : ∀ j, ¬ ai (⟨none, 0, 0⟩ : Slc) j := by rintro j ⟨a, ha, _⟩; cases ha
 have R0 : gP w5 r2 k ⟨none, 0, 0⟩ [] := ⟨(aq.eS hb2).ae k4, Rows.nil _ _, by simp, by simp, List.Pairwise.nil, nob _, by simp, by simp⟩
 have noW : ∀ j, RfW r2 ⟨none, 0, 0⟩ [] j -> j = r2 := by
  rintro j (hj | hj | ⟨z, hz, _⟩)
  ·exact hj
  ·exact (nob j hj).elim
  ·simp at hz
 have noY : ∀ j, ¬ RuY ⟨r2, ⟨none, 0, 0⟩, [], ⟨none, 0, 0⟩, ⟨none, 0, 0⟩, ⟨none, 0, 0⟩, []⟩ j := by
  rintro j (⟨z, hz, _⟩ | ⟨cs, hc, _⟩)
  ·simp at hz
  ·simp at hc
 have z2 := k2.size
 refine ⟨r4, ⟨r2, ⟨none, 0, 0⟩, [], ⟨none, 0, 0⟩, ⟨none, 0, 0⟩, ⟨none, 0, 0⟩, []⟩, rfl, ⟨⟨aq.eS hb4, R0, aB.nil _, Rows.nil _ _, aB.nil _, fun j => if j = r4 then 0 else 1, ?_, fun j hj => ?_, fun j hj => (nob j hj).elim, fun j hj => (nob j hj).elim, fun j hj => (nob j hj).elim, fun j hj => (noY j hj).elim⟩, rfl, iV.nil⟩, ?_, noY, k2.trans k4⟩
 ·rw [if_pos rfl]
 ·have := noW j hj
  rw [if_neg (by omega)]
 ·rintro j (hj | hj | hj | hj | hj)
  ·omega
  ·have := noW j hj; omega
  ·exact (nob j hj).elim
  ·exact (nob j hj).elim
  ·exact (nob j hj).elim
end
end Go.D
namespace Go.D
open Go Go.Proofs
def RB (N : Nat) (r : Nat -> Nat) (f : Nat -> RuF) (b : Nat) : Prop := ∃ i, i < N /\ RuW (r i) (f i) b
def RY (N : Nat) (f : Nat -> RuF) (b : Nat) : Prop := ∃ i, i < N /\ RuY (f i) b
structure pt (w : World) (N m : Nat) (r : Nat -> Nat) (f : Nat -> RuF) (P : Nat -> List RuE) (top : Nat -> Int) (S : Nat -> UnS) : Prop where
 R : ∀ i, i < N -> RuS w (r i) 2 (f i) (P i) (top i) (S i)
 pl : ∀ i, i < N -> (P i).length <= m /\ UPl 2 m (S i)
 sep : ∀ i j, i < N -> j < N -> i ≠ j -> ∀ b, RuW (r i) (f i) b -> ¬ RuW (r j) (f j) b /\ ¬ RuY (f j) b
def RTo (N : Nat) (r : Nat -> Nat) (f f' : Nat -> RuF) (w w' : World) : Prop :=
 Ext (RB N r f) w w' /\ (∀ b, RB N r f' b -> RB N r f b \/ w.heap.size <= b) /\ ∀ b, RY N f' b -> RY N f b \/ w.heap.size <= b
section
variable {w w' : World} {N m m' : Nat} {r : Nat -> Nat} {f f' f'' : Nat -> RuF} {P P' : Nat -> List RuE} {top top' : Nat -> Int} {S S' : Nat -> UnS} {us : Slc} {up : Nat -> Bool}
theorem RTo.ae (hk : ah w w') : RTo N r f f w w' := ⟨hk.mono (fun _ h => h.elim), fun b h => .inl h, fun b h => .inl h⟩
theorem RTo.trans {w'' : World} (h1 : RTo N r f f' w w') (h2 : RTo N r f' f'' w' w'') : RTo N r f f'' w w'' := by
 have z := h1.1.size
 refine ⟨h1.1.trans h2.1 (fun _ h => h) (fun b hb => h1.2.1 b hb), fun b hb => ?_, fun b hb => ?_⟩
 ·exact (h2.2.1 b hb).elim (h1.2.1 b) (fun g => .inr (by omega))
 ·exact (h2.2.2 b hb).elim (h1.2.2 b) (fun g => .inr (by omega))
theorem pt.lt (h : pt w N m r f P top S) : (∀ b, RB N r f b -> b < w.heap.size) /\ ∀ b, RY N f b -> b < w.heap.size :=
 ⟨fun b ⟨i, hi, hb⟩ => (h.R i hi).A.lt.1 b hb, fun b ⟨i, hi, hb⟩ => (h.R i hi).A.lt.2 b hb⟩
theorem RuS.ext {M : Nat -> Prop} {r k : Nat} {f : RuF} {P : List RuE} {top : Int} {s : UnS} (h : RuS w r k f P top s) (he : Ext M w w') (h1 : ∀ j, RuW r f j -> ¬ M j) (h2 : ∀ j, RuY f j -> ¬ M j) : RuS w' r k f P top s := ⟨h.A.ext he h1 h2, h.z, h.K⟩
theorem pt.ext {M : Nat -> Prop} (h : pt w N m r f P top S) (he : Ext M w w') (h1 : ∀ b, RB N r f b -> ¬ M b) (h2 : ∀ b, RY N f b -> ¬ M b) : pt w' N m r f P top S :=
 ⟨fun i hi => (h.R i hi).ext he (fun b hb => h1 b ⟨i, hi, hb⟩) (fun b hb => h2 b ⟨i, hi, hb⟩), h.pl, h.sep⟩
theorem pt.ae (h : pt w N m r f P top S) (hk : ah w w') : pt w' N m r f P top S := h.ext hk (fun _ _ h => h) (fun _ _ h => h)
theorem pt.lift (h : pt w N m r f P top S) (hm : m <= m') : pt w N m' r f P top S := ⟨h.R, fun i hi => ⟨by have := (h.pl i hi).1; omega, (h.pl i hi).2.up hm⟩, h.sep⟩
theorem pt.step (h : pt w N m r f P top S) {i : Nat} (hi : i < N) {f1 : RuF} {P1 : List RuE} {t1 : Int} {s1 : UnS} (hR : RuS w' (r i) 2 f1 P1 t1 s1) (hm : m <= m') (hP : P1.length <= m') (hs : UPl 2 m' s1) (ht : ec (r i) (f i) f1 w w') :
  pt w' N m' r (bk f i f1) (bk P i P1) (bk top i t1) (bk S i s1) /\ RTo N r f (bk f i f1) w w' := by
 have lt := fun j hj => (h.R j hj).A.lt
 have yw := fun j hj => (h.R j hj).A.HI
 refine ⟨⟨fun j hj => ?_, fun j hj => ?_, fun j k hj hk hne b hb => ?_⟩, ⟨ht.1.mono (fun b hb => ⟨i, hi, hb⟩), ?_, ?_⟩⟩
 ·by_cases e : j = i
  ·subst e; rw [aE, aE, aE, aE]; exact hR
  ·rw [aM e, aM e, aM e, aM e]
   exact (h.R j hj).ext ht.1 (fun b hb => (h.sep j i hj hi e b hb).1) (fun b hb hh => (h.sep i j hi hj (fun g => e g.symm) b hh).2 hb)
 ·by_cases e : j = i
  ·subst e; rw [aE, aE]; exact ⟨hP, hs⟩
  ·rw [aM e, aM e]; exact ⟨by have := (h.pl j hj).1; omega, (h.pl j hj).2.up hm⟩
 ·by_cases e : j = i
  ·subst e
   rw [aE] at hb
   rw [aM (fun g => hne g.symm)]
   rcases ht.2.1 b hb with g | g
   ·exact h.sep j k hj hk hne b g
   ·exact ⟨fun hh => by have := (lt k hk).1 b hh; omega, fun hh => by have := (lt k hk).2 b hh; omega⟩
  ·rw [aM e] at hb
   by_cases e2 : k = i
   ·subst e2
    rw [aE]
    have hs := h.sep j k hj hk hne b hb
    have hl := (lt j hj).1 b hb
    exact ⟨fun hh => (ht.2.1 b hh).elim hs.1 (fun g => by omega), fun hh => (ht.2.2 b hh).elim hs.2 (fun g => by omega)⟩
   ·rw [aM e2]; exact h.sep j k hj hk hne b hb
 ·rintro b ⟨j, hj, hb⟩
  by_cases e : j = i
  ·subst e; rw [aE] at hb; exact (ht.2.1 b hb).imp (fun g => ⟨j, hj, g⟩) (fun g => g)
  ·rw [aM e] at hb; exact .inl ⟨j, hj, hb⟩
 ·rintro b ⟨j, hj, hb⟩
  by_cases e : j = i
  ·subst e; rw [aE] at hb; exact (ht.2.2 b hb).imp (fun g => ⟨j, hj, g⟩) (fun g => g)
  ·rw [aM e] at hb; exact .inl ⟨j, hj, hb⟩
structure ChR (w : World) (N m : Nat) (r : Nat -> Nat) (f : Nat -> RuF) (P : Nat -> List RuE) (top : Nat -> Int) (S : Nat -> UnS) (us : Slc) (up : Nat -> Bool) : Prop where
 F : pt w N m r f P top S
 uo : Own w us 1 (usL N up r)
 ub : ∀ b, ai us b -> ¬ RB N r f b
theorem ChR.to (h : ChR w N m r f P top S us up) (hF : pt w' N m' r f' P' top' S') (ht : RTo N r f f' w w') : ChR w' N m' r f' P' top' S' us up :=
 ⟨hF, h.uo.ext ht.1 h.ub, fun b hb hh => (ht.2.1 b hh).elim (h.ub b hb) (fun g => by have := cD h.uo b hb; omega)⟩
theorem ChR.ae (h : ChR w N m r f P top S us up) (hk : ah w w') : ChR w' N m r f P top S us up := h.to (h.F.ae hk) (RTo.ae hk)
theorem ChR.lift (h : ChR w N m r f P top S us up) (hm : m <= m') : ChR w N m' r f P top S us up := ⟨h.F.lift hm, h.uo, h.ub⟩
theorem ChR.sl (h : ChR w N m r f P top S us up) : us.l = N := by
 have := h.uo.1
 rw [bO] at this; omega
theorem ChR.get (h : ChR w N m r f P top S us up) {i : Nat} (hi : i < N) : ∃ a, us.p = some a /\ w.cell? (a.add i) = some (if up i then av (r i) else .pointer none) := by
 obtain ⟨a, ha, hc⟩ := bc h.uo.cells (i := i) (by rw [bO]; exact hi)
 exact ⟨a, ha, by rw [hc, ll]⟩
end
structure Uns (A : Nat -> Addr) (w : World) (n0 N m : Nat) (r rd r2 : Nat -> Nat) (f : Nat -> UnF) (d : Nat -> aK) (fr : Nat -> RuF) (P : Nat -> List RuE) (top : Nat -> Int) (S : Nat -> UnS) (us ws : Slc) (up : Nat -> Bool) : Prop where
 U : ChU A w n0 N m r rd f d S us up
 R : ChR w N m r2 fr P top S ws up
 rb : ∀ b, RB N r2 fr b -> ¬ FB N r rd f b /\ ¬ FY N f b
 ry : ∀ b, RY N fr b -> ¬ FB N r rd f b
 ub : ∀ b, ai us b -> ¬ FY N f b /\ ¬ RB N r2 fr b /\ ¬ RY N fr b /\ ¬ ai ws b
 wb : ∀ b, ai ws b -> ¬ FB N r rd f b /\ ¬ FY N f b /\ ¬ RY N fr b
 rn : ∀ b, RB N r2 fr b -> n0 <= b
 z : n0 <= w.heap.size
def qa (N : Nat) (r rd r2 : Nat -> Nat) (f : Nat -> UnF) (fr : Nat -> RuF) (b : Nat) : Prop := FB N r rd f b \/ FY N f b \/ RB N r2 fr b \/ RY N fr b
section
variable {A : Nat -> Addr} {w w' : World} {n0 N m m' : Nat} {r rd r2 : Nat -> Nat} {f f' : Nat -> UnF} {d d' : Nat -> aK} {fr fr' : Nat -> RuF} {P P' : Nat -> List RuE} {top top' : Nat -> Int} {S S' : Nat -> UnS} {us ws : Slc} {up : Nat -> Bool}
theorem Uns.lt (h : Uns A w n0 N m r rd r2 f d fr P top S us ws up) : ∀ b, qa N r rd r2 f fr b -> b < w.heap.size := by
 rintro b (hb | hb | hb | hb)
 ·exact h.U.F.lt.1 b hb
 ·exact h.U.F.lt.2 b hb
 ·exact h.R.F.lt.1 b hb
 ·exact h.R.F.lt.2 b hb
theorem Uns.ae (h : Uns A w n0 N m r rd r2 f d fr P top S us ws up) (hk : ah w w') : Uns A w' n0 N m r rd r2 f d fr P top S us ws up :=
 ⟨h.U.ae hk, h.R.ae hk, h.rb, h.ry, h.ub, h.wb, h.rn, Nat.le_trans h.z hk.size⟩
theorem Uns.step (h : Uns A w n0 N m r rd r2 f d fr P top S us ws up) (hU : ChU A w' n0 N m' r rd f' d' S' us up) (ft : FTo N r rd f f' w w') {w2 w3 : World} (hk : ah w' w2) (hR : ChR w3 N m' r2 fr' P' top' S' ws up) (rt : RTo N r2 fr fr' w2 w3) :
  Uns A w3 n0 N m' r rd r2 f' d' fr' P' top' S' us ws up := by
 have z1 := ft.1.size
 have z2 := hk.size
 have z3 := rt.1.size
 have hn := h.rn
 have z0 := h.z
 have lF := h.U.F.lt
 have lR := h.R.F.lt
 have lF' := hU.F.lt
 have lu := cD h.U.uo
 have lw := cD h.R.uo
 -- blocks of before keep apart from what has moved on
 have nFB : ∀ b, b < w.heap.size -> ¬ FB N r rd f b -> ¬ FB N r rd f' b := fun b h1 h2 hh => (ft.2.1 b hh).elim h2 (fun g => by omega)
 have nFY : ∀ b, b < w.heap.size -> ¬ FY N f b -> ¬ FY N f' b := fun b h1 h2 hh => (ft.2.2 b hh).elim h2 (fun g => by omega)
 have nRB : ∀ b, b < w2.heap.size -> ¬ RB N r2 fr b -> ¬ RB N r2 fr' b := fun b h1 h2 hh => (rt.2.1 b hh).elim h2 (fun g => by omega)
 have nRY : ∀ b, b < w2.heap.size -> ¬ RY N fr b -> ¬ RY N fr' b := fun b h1 h2 hh => (rt.2.2 b hh).elim h2 (fun g => by omega)
 have rbF : ∀ b, RB N r2 fr b -> ¬ FB N r rd f' b /\ ¬ FY N f' b := fun b hb => ⟨nFB b (lR.1 b hb) (h.rb b hb).1, nFY b (lR.1 b hb) (h.rb b hb).2⟩
 have ryF : ∀ b, RY N fr b -> ¬ FB N r rd f' b := fun b hb => nFB b (lR.2 b hb) (h.ry b hb)
 have hU3 : ChU A w3 n0 N m' r rd f' d' S' us up := by
  have hU2 := hU.ae hk
  refine ⟨hU2.F.ext rt.1 (fun b hb hh => (rbF b hh).1 hb) (fun b hb hh => (rbF b hh).2 hb) hn, hU2.uo.ext rt.1 (fun b hb => (h.ub b hb).2.1), hU2.ub⟩
 refine ⟨hU3, hR, fun b hb => ?_, fun b hb => ?_, fun b hb => ?_, fun b hb => ?_, fun b hb => (rt.2.1 b hb).elim (hn b) (fun g => by omega), by omega⟩
 ·rcases rt.2.1 b hb with g | g
  ·exact rbF b g
  ·exact ⟨fun hh => by have := lF'.1 b hh; omega, fun hh => by have := lF'.2 b hh; omega⟩
 ·rcases rt.2.2 b hb with g | g
  ·exact ryF b g
  ·exact fun hh => by have := lF'.1 b hh; omega
 ·obtain ⟨g1, g2, g3, g4⟩ := h.ub b hb
  have hl := lu b hb
  exact ⟨nFY b hl g1, nRB b (by omega) g2, nRY b (by omega) g3, g4⟩
 ·obtain ⟨g1, g2, g3⟩ := h.wb b hb
  have hl := lw b hb
  exact ⟨nFB b hl g1, nFY b hl g2, nRY b (by omega) g3⟩
end
end Go.D
namespace Go.D
open Go Go.Proofs
abbrev s00 : UnS := ⟨[], 0, 0, 0⟩
abbrev dN : Nat -> Bool := fun _ => true
section
variable {A : Nat -> Addr} {w w' : World} {n0 N m m' z : Nat} {r rd r2 : Nat -> Nat} {f f' : Nat -> UnF} {d d' : Nat -> aK} {fr fr' : Nat -> RuF} {P P' : Nat -> List RuE} {top top' : Nat -> Int} {S S' : Nat -> UnS} {us ws : Slc} {up : Nat -> Bool}
theorem G8 {r1 rd1 : Nat} {f1 : UnF} {b : Nat} : FB (N + 1) (bk r N r1) (bk rd N rd1) (bk f N f1) b ↔ FB N r rd f b \/ UB r1 rd1 f1 b := by
 constructor
 ·rintro ⟨i, hi, hb⟩
  by_cases e : i = N
  ·subst e; rw [aE, aE, aE] at hb; exact .inr hb
  ·rw [aM e, aM e, aM e] at hb; exact .inl ⟨i, by omega, hb⟩
 ·rintro (⟨i, hi, hb⟩ | hb)
  ·exact ⟨i, by omega, by rw [aM (by omega), aM (by omega), aM (by omega)]; exact hb⟩
  ·exact ⟨N, by omega, by rw [aE, aE, aE]; exact hb⟩
theorem G9 {f1 : UnF} {b : Nat} : FY (N + 1) (bk f N f1) b ↔ FY N f b \/ UnY f1.x b := by
 constructor
 ·rintro ⟨i, hi, hb⟩
  by_cases e : i = N
  ·subst e; rw [aE] at hb; exact .inr hb
  ·rw [aM e] at hb; exact .inl ⟨i, by omega, hb⟩
 ·rintro (⟨i, hi, hb⟩ | hb)
  ·exact ⟨i, by omega, by rw [aM (by omega)]; exact hb⟩
  ·exact ⟨N, by omega, by rw [aE]; exact hb⟩
theorem Ha {r1 : Nat} {f1 : RuF} {b : Nat} : RB (N + 1) (bk r2 N r1) (bk fr N f1) b ↔ RB N r2 fr b \/ RuW r1 f1 b := by
 constructor
 ·rintro ⟨i, hi, hb⟩
  by_cases e : i = N
  ·subst e; rw [aE, aE] at hb; exact .inr hb
  ·rw [aM e, aM e] at hb; exact .inl ⟨i, by omega, hb⟩
 ·rintro (⟨i, hi, hb⟩ | hb)
  ·exact ⟨i, by omega, by rw [aM (by omega), aM (by omega)]; exact hb⟩
  ·exact ⟨N, by omega, by rw [aE, aE]; exact hb⟩
theorem Hb {f1 : RuF} {b : Nat} : RY (N + 1) (bk fr N f1) b ↔ RY N fr b \/ RuY f1 b := by
 constructor
 ·rintro ⟨i, hi, hb⟩
  by_cases e : i = N
  ·subst e; rw [aE] at hb; exact .inr hb
  ·rw [aM e] at hb; exact .inl ⟨i, by omega, hb⟩
 ·rintro (⟨i, hi, hb⟩ | hb)
  ·exact ⟨i, by omega, by rw [aM (by omega)]; exact hb⟩
  ·exact ⟨N, by omega, by rw [aE]; exact hb⟩
theorem nz.push (h : nz A w n0 N m r rd f d S) {r1 rd1 : Nat} {f1 : UnF} {d1 : aK} {s1 : UnS} (hU : UAt w n0 r1 rd1 f1 d1 s1 m) (hk : d1.n / 64 = 2 /\ d1.stops = false) (hlt : ∀ b, FB N r rd f b \/ FY N f b -> b < z) (hnew : ∀ b, UB r1 rd1 f1 b \/ UnY f1.x b -> z <= b) :
  nz A w n0 (N + 1) m (bk r N r1) (bk rd N rd1) (bk f N f1) (bk d N d1) (bk S N s1) := by
 refine ⟨h.E, fun i hi => ?_, fun i hi => ?_, fun i j hi hj hne b hb => ?_⟩
 ·by_cases e : i = N
  ·subst e; simp only [aE]; exact hU
  ·simp only [aM e]; exact h.U i (by omega)
 ·by_cases e : i = N
  ·subst e; simp only [aE]; exact hk
  ·simp only [aM e]; exact h.k i (by omega)
 ·by_cases e : i = N
  ·subst e
   have e2 : j ≠ i := fun g => hne g.symm
   simp only [aE] at hb
   simp only [aM e2]
   have := hnew b (.inl hb)
   exact ⟨fun hh => by have := hlt b (.inl ⟨j, by omega, hh⟩); omega, fun hh => by have := hlt b (.inr ⟨j, by omega, hh⟩); omega⟩
  ·simp only [aM e] at hb
   have hl := hlt b (.inl ⟨i, by omega, hb⟩)
   by_cases e2 : j = N
   ·subst e2
    simp only [aE]
    exact ⟨fun hh => by have := hnew b (.inl hh); omega, fun hh => by have := hnew b (.inr hh); omega⟩
   ·simp only [aM e2]; exact h.sep i j (by omega) (by omega) hne b hb
theorem pt.push (h : pt w N m r2 fr P top S) {r1 : Nat} {f1 : RuF} {P1 : List RuE} {t1 : Int} {s1 : UnS} (hR : RuS w r1 2 f1 P1 t1 s1) (hP : P1.length <= m) (hs : UPl 2 m s1) (hlt : ∀ b, RB N r2 fr b \/ RY N fr b -> b < z) (hnew : ∀ b, RuW r1 f1 b \/ RuY f1 b -> z <= b) :
  pt w (N + 1) m (bk r2 N r1) (bk fr N f1) (bk P N P1) (bk top N t1) (bk S N s1) := by
 refine ⟨fun i hi => ?_, fun i hi => ?_, fun i j hi hj hne b hb => ?_⟩
 ·by_cases e : i = N
  ·subst e; simp only [aE]; exact hR
  ·simp only [aM e]; exact h.R i (by omega)
 ·by_cases e : i = N
  ·subst e; simp only [aE]; exact ⟨hP, hs⟩
  ·simp only [aM e]; exact h.pl i (by omega)
 ·by_cases e : i = N
  ·subst e
   have e2 : j ≠ i := fun g => hne g.symm
   simp only [aE] at hb
   simp only [aM e2]
   have := hnew b (.inl hb)
   exact ⟨fun hh => by have := hlt b (.inl ⟨j, by omega, hh⟩); omega, fun hh => by have := hlt b (.inr ⟨j, by omega, hh⟩); omega⟩
  ·simp only [aM e] at hb
   have hl := hlt b (.inl ⟨i, by omega, hb⟩)
   by_cases e2 : j = N
   ·subst e2
    simp only [aE]
    exact ⟨fun hh => by have := hnew b (.inl hh); omega, fun hh => by have := hnew b (.inr hh); omega⟩
   ·simp only [aM e2]; exact h.sep i j (by omega) (by omega) hne b hb
theorem Cv {r1 : Nat} : usL (N + 1) dN (bk r N r1) = usL N dN r ++ [av r1] := by
 unfold usL
 rw [List.range_succ, List.map_append]
 congr 1
 ·refine List.map_congr_left (fun i hi => ?_)
  rw [aM (by have := List.mem_range.1 hi; omega)]
 ·simp [aE]
theorem oC (N : Nat) (up : Nat -> Bool) (r : Nat -> Nat) : ∀ v ∈ usL N up r, v.oneCell' = true := by
 intro v hv
 obtain ⟨i, _, rfl⟩ := List.mem_map.1 hv
 split <;> rfl
theorem DR {T E : TypeId} {f1 : Nat × Nat} {vs : List Value} {r1 o : Nat} {K : Slc -> World -> Prop} (h : Own w us 1 vs) (hb : w.heap[o]? = some (.cells ⟨[av r1]⟩ T f1)) (hcf : clear f1 1) (hlen : vs.length < 2 ^ 30)
  (hK : ∀ s' w', Own w' s' 1 (vs ++ [av r1]) -> Ext (ai us) w w' -> (∀ k, ai s' k -> ai us k \/ w.heap.size <= k) -> K s' w') : ak 1 E [.pointer none] w us (.slc ⟨some ⟨o, 0, none⟩, 1, 1⟩) K := by
 have hsrc : ru w 1 (.slc ⟨some ⟨o, 0, none⟩, 1, 1⟩) [av r1] := iO (Own.new (sz := 1) (n := 1) hb hcf rfl).cells rfl
 have h1 := h.1
 exact cX h (by omega) rfl hsrc (fun v hv => by rw [List.mem_singleton] at hv; subst hv; rfl) (by simp only [Src.n]; omega) (fun s' w' q1 q2 q3 q4 => hK s' w' q1 q2 q3)
end
theorem yP (A : Nat -> Addr) (N : Nat) (hN : N <= 6) (w0 w : World) (hE : cP A w0) (hk : ah w0 w) :
  Calls Tryz.prog dh ⟨[.int .i64 (N : Int)]⟩ w fun e w' => ∃ (us ws : Slc) (r rd r2 : Nat -> Nat) (f : Nat -> UnF) (d : Nat -> aK) (fr : Nat -> RuF) (P : Nat -> List RuE) (top : Nat -> Int) (S : Nat -> UnS), e = .returned (.tuple ⟨[us.v, ws.v]⟩) /\
   Uns A w' w0.heap.size N 0 r rd r2 f d fr P top S us ws dN /\ (∀ i, i < N -> S i = s00) /\ ah w w' /\ (∀ b, qa N r rd r2 f fr b \/ ai us b \/ ai ws b -> w.heap.size <= b) := by
 refine nT _ ?_
 unfold j0
 have hB : dL A w0.heap.size w0 := hE.b
 refine ao (fun ra w3 hra hba ka hsa => ao (fun rb w5 hrb hbb kb hsb => ?_))
 have z0 := hk.size
 have za := ka.size
 have zb := kb.size
 have oa : Own w5 ⟨some ⟨ra, 0, none⟩, 0, 0⟩ 1 (usL 0 dN (fun _ => 0)) := (Own.new (sz := 1) (n := 0) hba (.inl (by simp)) rfl).ae kb
 have ob : Own w5 ⟨some ⟨rb, 0, none⟩, 0, 0⟩ 1 (usL 0 dN (fun _ => 0)) := Own.new (sz := 1) (n := 0) hbb (.inl (by simp)) rfl
 have own1 : ∀ {x : Nat} {b : Nat}, ai (⟨some ⟨x, 0, none⟩, 0, 0⟩ : Slc) b -> b = x := by rintro x b ⟨a, ha, rfl⟩; cases ha; rfl
 refine ⟨fun us ws i w2 => ∃ (n : Nat) (r rd r2 : Nat -> Nat) (f : Nat -> UnF) (d : Nat -> aK) (fr : Nat -> RuF) (P : Nat -> List RuE) (top : Nat -> Int) (S : Nat -> UnS), i = n /\ n <= N /\ Uns A w2 w0.heap.size n 0 r rd r2 f d fr P top S us ws dN /\ (∀ i, i < n -> S i = s00) /\ ah w w2 /\
   (∀ b, qa n r rd r2 f fr b \/ ai us b \/ ai ws b -> w.heap.size <= b), fun _ _ i _ => ((N : Int) - i).toNat,
  ⟨0, fun _ => 0, fun _ => 0, fun _ => 0, fun _ => ⟨0, ⟨0, 0, [], []⟩, ⟨⟨none, 0, 0⟩, []⟩, ⟨⟨none, 0, 0⟩, ⟨none, 0, 0⟩, []⟩, 0⟩, fun _ => ⟨[], [], false, 0⟩, fun _ => ⟨0, ⟨none, 0, 0⟩, [], ⟨none, 0, 0⟩, ⟨none, 0, 0⟩, ⟨none, 0, 0⟩, []⟩, fun _ => [], fun _ => 0, fun _ => s00, rfl, by omega, ?_, fun i hi => by omega, ka.trans kb, ?_⟩, ?_⟩
 ·have no : ∀ {b : Nat} {F : Nat -> Nat -> Prop}, ¬ ∃ i, i < 0 /\ F i b := by rintro b F ⟨i, hi, _⟩; omega
  refine ⟨⟨⟨hB.ae ((hk.trans ka).trans kb), fun i hi => by omega, fun i hi => by omega, fun i j hi => by omega⟩, oa, fun b _ => no⟩, ⟨⟨fun i hi => by omega, fun i hi => by omega, fun i j hi => by omega⟩, ob, fun b _ => no⟩, fun b hb => (no hb).elim, fun b hb => (no hb).elim, fun b hb => ⟨no, no, no, fun hh => ?_⟩, fun b hb => ⟨no, no, no⟩, fun b hb => (no hb).elim, by omega⟩
  have e1 := own1 hb
  have e2 := own1 hh
  omega
 ·rintro b ((⟨i, hi, _⟩ | ⟨i, hi, _⟩ | ⟨i, hi, _⟩ | ⟨i, hi, _⟩) | hb | hb)
  iterate 4 omega
  ·have := own1 hb; omega
  ·have := own1 hb; omega
 rintro us ws i w11 ⟨n, r, rd, r2, f, d, fr, P, top, S, rfl, hn, hU, hS0, k11, hnew⟩
 intros
 refine af (fun h1 => ?_) (fun h1 => ?_)
 rotate_left
 ·have hnN : n = N := by omega
  subst hnN
  exact ⟨us, ws, r, rd, r2, f, d, fr, P, top, S, rfl, hU, hS0, k11, hnew⟩
 have kk : ah w0 w11 := hk.trans k11
 refine (Cq A 2 (by omega) w0 w11 hE kk).mono ?_
 rintro e w45 ⟨rd1, q1, d1, rfl, k45, hd1, hst1, hopen⟩
 refine ⟨_, _, rfl, trivial, aj (fun g => by cases g) (fun _ => (hopen w45 (Ext.refl _ _)).mono ?_)⟩
 rintro e w49 ⟨r1, f1, rfl, hU1, hq1, k49, hB1, hY1⟩
 refine ⟨_, _, rfl, trivial, aj (fun g => by cases g) (fun _ => aj (fun g => by cases g) (fun _ => ao (fun r52 w53 hr52 hb52 k52 hs52 => ?_)))⟩
 have k53 : ah w11 w53 := (k45.trans k49).trans k52
 have h53 := hU.ae k53
 have hU53 := hU1.ae k52
 have lt11 := hU.lt
 have lu := cD hU.U.uo
 have lw := cD hU.R.uo
 have z11 := k11.size
 have z53 := k53.size
 have lt1 := hU53.lt
 refine DR h53.U.uo hb52 (.inl (by simp)) (by rw [bO]; omega) (fun s54 w55 g1 g2 g3 => ?_)
 rw [<- Cv] at g1
 have ls := cD g1
 have z55 := g2.size
 have hF55 := h53.U.F.ext g2 (fun b hb hh => h53.U.ub b hh hb) (fun b hb hh => (h53.ub b hh).1 hb) (fun b hb => by have := hnew b (.inr (.inl hb)); omega)
 have hU55 := hU53.ext g2 (fun b hb hh => by have := hB1 b hb; have := lu b hh; omega) (fun b hb hh => by have := hY1 b hb; have := lu b hh; omega)
 have hP := hF55.push (z := w11.heap.size) hU55 ⟨hd1, hst1⟩ (fun b hb => hb.elim (fun g => lt11 b (.inl g)) (fun g => lt11 b (.inr (.inl g)))) (fun b hb => hb.elim (hB1 b) (hY1 b))
 have hR55 := h53.R.F.ext g2 (fun b hb hh => (h53.ub b hh).2.1 hb) (fun b hb hh => (h53.ub b hh).2.2.1 hb)
 have ow55 := h53.R.uo.ext g2 (fun b hb hh => (h53.ub b hh).2.2.2 hb)
 refine (A8 w55 2).mono ?_
 rintro e w57 ⟨r3, f3, rfl, hR57, hRW, hRY, k57⟩
 refine ⟨_, rfl, ao (fun r59 w60 hr59 hb59 k59 hs59 => ?_)⟩
 have k60 : ah w55 w60 := k57.trans k59
 have hR60 := hR57.ae k59
 have ltR := hR60.A.lt
 have z60 := k60.size
 refine DR (ow55.ae k60) hb59 (.inl (by simp)) (by rw [bO]; omega) (fun s61 w62 q1 q2 q3 => ?_)
 rw [<- Cv] at q1
 have z62 := q2.size
 -- which blocks are where
 have cF : ∀ b, FB (n + 1) (bk r n r1) (bk rd n rd1) (bk f n f1) b -> FB n r rd f b \/ (w11.heap.size <= b /\ b < w53.heap.size) := fun b hb => (G8.1 hb).imp (fun g => g) (fun g => ⟨hB1 b g, lt1.1 b g⟩)
 have cY : ∀ b, FY (n + 1) (bk f n f1) b -> FY n f b \/ (w11.heap.size <= b /\ b < w53.heap.size) := fun b hb => (G9.1 hb).imp (fun g => g) (fun g => ⟨hY1 b g, lt1.2 b g⟩)
 have cR : ∀ b, RB (n + 1) (bk r2 n r3) (bk fr n f3) b -> RB n r2 fr b \/ (w55.heap.size <= b /\ b < w60.heap.size) := fun b hb => (Ha.1 hb).imp (fun g => g) (fun g => ⟨hRW b g, ltR.1 b g⟩)
 have cZ : ∀ b, RY (n + 1) (bk fr n f3) b -> RY n fr b := fun b hb => (Hb.1 hb).elim (fun g => g) (fun g => (hRY b g).elim)
 have lF : ∀ b, FB n r rd f b -> b < w11.heap.size := fun b hb => lt11 b (.inl hb)
 have lY : ∀ b, FY n f b -> b < w11.heap.size := fun b hb => lt11 b (.inr (.inl hb))
 have lR : ∀ b, RB n r2 fr b -> b < w11.heap.size := fun b hb => lt11 b (.inr (.inr (.inl hb)))
 have lZ : ∀ b, RY n fr b -> b < w11.heap.size := fun b hb => lt11 b (.inr (.inr (.inr hb)))
 have wF : ∀ b, ai ws b -> ¬ FB (n + 1) (bk r n r1) (bk rd n rd1) (bk f n f1) b := fun b hb hh => (cF b hh).elim (hU.wb b hb).1 (fun g => by have := lw b hb; omega)
 have wY : ∀ b, ai ws b -> ¬ FY (n + 1) (bk f n f1) b := fun b hb hh => (cY b hh).elim (hU.wb b hb).2.1 (fun g => by have := lw b hb; omega)
 have wR : ∀ b, ai ws b -> ¬ RB (n + 1) (bk r2 n r3) (bk fr n f3) b := fun b hb hh => (cR b hh).elim (hU.R.ub b hb) (fun g => by have := lw b hb; omega)
 have wZ : ∀ b, ai ws b -> ¬ RY (n + 1) (bk fr n f3) b := fun b hb hh => (hU.wb b hb).2.2 (cZ b hh)
 have us_ws : ∀ b, ai s54 b -> ¬ ai ws b := fun b hb hh => (g3 b hb).elim (fun g => (hU.ub b g).2.2.2 hh) (fun g => by have := lw b hh; omega)
 have sF : ∀ b, ai s54 b -> ¬ FB (n + 1) (bk r n r1) (bk rd n rd1) (bk f n f1) b := fun b hb hh => (g3 b hb).elim (fun g => (cF b hh).elim (hU.U.ub b g) (fun g2 => by have := lu b g; omega)) (fun g => (cF b hh).elim (fun g2 => by have := lF b g2; omega) (fun g2 => by omega))
 have sY : ∀ b, ai s54 b -> ¬ FY (n + 1) (bk f n f1) b := fun b hb hh => (g3 b hb).elim (fun g => (cY b hh).elim (hU.ub b g).1 (fun g2 => by have := lu b g; omega)) (fun g => (cY b hh).elim (fun g2 => by have := lY b g2; omega) (fun g2 => by omega))
 have sR : ∀ b, ai s54 b -> ¬ RB (n + 1) (bk r2 n r3) (bk fr n f3) b := fun b hb hh => (cR b hh).elim (fun g2 => (g3 b hb).elim (fun g => (hU.ub b g).2.1 g2) (fun g => by have := lR b g2; omega)) (fun g2 => by have := ls b hb; omega)
 have sZ : ∀ b, ai s54 b -> ¬ RY (n + 1) (bk fr n f3) b := fun b hb hh => (g3 b hb).elim (fun g => (hU.ub b g).2.2.1 (cZ b hh)) (fun g => by have := lZ b (cZ b hh); omega)
 have hF62 := (hP.ae k60).ext q2 (fun b hb hh => wF b hh hb) (fun b hb hh => wY b hh hb) (fun b hb => by have := hnew b (.inr (.inr hb)); omega)
 have hPR := (hR55.ae k60).push (z := w55.heap.size) hR60 (by simp) (UPl.nil 2 (by omega)) (fun b hb => hb.elim (fun g => by have := lR b g; omega) (fun g => by have := lZ b g; omega)) (fun b hb => hb.elim (hRW b) (fun g => (hRY b g).elim))
 have hR62 := hPR.ext q2 (fun b hb hh => wR b hh hb) (fun b hb hh => wZ b hh hb)
 refine ⟨ar (by omega), ⟨n + 1, bk r n r1, bk rd n rd1, bk r2 n r3, bk f n f1, bk d n d1, bk fr n f3, bk P n [], bk top n 0, bk S n s00, rfl, by omega, ?_, ?_, ?_, ?_⟩, by dsimp only; omega⟩
 ·refine ⟨⟨hF62, (g1.ae k60).ext q2 us_ws, sF⟩, ⟨hR62, q1, fun b hb hh => (q3 b hb).elim (fun g => wR b g hh) (fun g => ?_)⟩, fun b hb => ⟨fun hh => ?_, fun hh => ?_⟩, fun b hb hh => ?_, fun b hb => ⟨sY b hb, sR b hb, sZ b hb, fun hh => (q3 b hh).elim (us_ws b hb) (fun g => by have := ls b hb; omega)⟩, fun b hb => ⟨fun hh => ?_, fun hh => ?_, fun hh => ?_⟩, fun b hb => ?_, by omega⟩
  ·rcases cR b hh with g2 | g2
   ·have := lR b g2; omega
   ·omega
  ·rcases cR b hb with g2 | g2
   ·rcases cF b hh with g3 | g3
    ·exact (hU.rb b g2).1 g3
    ·have := lR b g2; omega
   ·rcases cF b hh with g3 | g3
    ·have := lF b g3; omega
    ·omega
  ·rcases cR b hb with g2 | g2
   ·rcases cY b hh with g3 | g3
    ·exact (hU.rb b g2).2 g3
    ·have := lR b g2; omega
   ·rcases cY b hh with g3 | g3
    ·have := lY b g3; omega
    ·omega
  ·rcases cF b hh with g3 | g3
   ·exact hU.ry b (cZ b hb) g3
   ·have := lZ b (cZ b hb); omega
  ·rcases q3 b hb with g | g
   ·exact wF b g hh
   ·rcases cF b hh with g3 | g3
    ·have := lF b g3; omega
    ·omega
  ·rcases q3 b hb with g | g
   ·exact wY b g hh
   ·rcases cY b hh with g3 | g3
    ·have := lY b g3; omega
    ·omega
  ·rcases q3 b hb with g | g
   ·exact wZ b g hh
   ·have := lZ b (cZ b hh); omega
  ·rcases cR b hb with g2 | g2
   ·exact hU.rn b g2
   ·omega
 ·intro i hi
  unfold bk
  split
  ·rfl
  ·exact hS0 i (by omega)
 ·exact (((k11.trans k53).ext g2 (fun b hb => hnew b (.inr (.inl hb)))).trans k60).ext q2 (fun b hb => hnew b (.inr (.inr hb)))
 ·rintro b ((hb | hb | hb | hb) | hb | hb)
  ·exact (cF b hb).elim (fun g => hnew b (.inl (.inl g))) (fun g => by omega)
  ·exact (cY b hb).elim (fun g => hnew b (.inl (.inr (.inl g)))) (fun g => by omega)
  ·exact (cR b hb).elim (fun g => hnew b (.inl (.inr (.inr (.inl g))))) (fun g => by omega)
  ·exact hnew b (.inl (.inr (.inr (.inr (cZ b hb)))))
  ·exact (g3 b hb).elim (fun g => hnew b (.inr (.inl g))) (fun g => by omega)
  ·exact (q3 b hb).elim (fun g => hnew b (.inr (.inr g))) (fun g => by omega)
end Go.D
set_option maxRecDepth 8000
namespace Go.D
open Go Go.Proofs
theorem Cw (ep : Int) (s : Slc) (cs : List (List Int)) (w : World) (h : Chs w s cs) :
  Calls Tryz.prog fy ⟨[.agg ⟨[.int .i64 ep, s.v]⟩]⟩ w fun e w' => ∃ b : Bool, e = .returned (.bool b) /\ ah w w' /\ (b = false -> cs.length <= 10 /\ ∀ c ∈ cs, c.length <= 10) := by
 have hsl := h.1
 refine oT _ _ ?_
 unfold kO
 refine ao (fun r3 w4 hr3 hb3 k4 hs4 => ?_)
 have o4 := aq.eS hb3
 refine ⟨s, o4.cell 1 (by simp), af (fun _ => ⟨true, rfl, k4, fun h => by cases h⟩) (fun h1 => ⟨s, o4.cell 1 (by simp), ?_⟩)⟩
 refine ⟨fun i w2 => ∃ k : Nat, i = k /\ k <= cs.length /\ ah w w2 /\ ∀ c ∈ cs.take k, c.length <= 10, fun i _ => ((cs.length : Int) - i).toNat, ⟨0, rfl, by omega, k4, fun c hc => by simp at hc⟩, ?_⟩
 rintro i w10 ⟨k, rfl, hk, k10, hall⟩
 intros
 refine af (fun h2 => ?_) (fun h2 => ?_)
 ·have hkl : k < cs.length := by omega
  obtain ⟨a, t, ha, hc, ht, _⟩ := (h.ae k10).2 k hkl
  have htl := ht.1
  refine aa ha ⟨by omega, h2, t, by rw [Int.toNat_natCast]; exact hc, af (fun _ => ⟨true, rfl, k10, fun h => by cases h⟩) (fun h3 => ⟨ar (by omega), ⟨k + 1, rfl, hkl, k10, fun c hc => ?_⟩, by first | (dsimp only; omega) | omega⟩)⟩
  rw [List.take_succ_eq_append_getElem hkl] at hc
  rcases List.mem_append.1 hc with h | h
  ·exact hall c h
  ·rw [List.mem_singleton] at h; subst h; omega
 ·have hkn : k = cs.length := by omega
  subst hkn
  rw [List.take_length] at hall
  exact ⟨false, rfl, k10, fun _ => ⟨by omega, hall⟩⟩
abbrev s01 : UnS := ⟨[⟨0, 0, [.dO 0 [0]]⟩], 0, 0, 1⟩
theorem Gn {S : Nat -> UnS} (h0 : S 0 = s00) (h1 : S 1 = s00) : flA 2 dN 0 [[0, 1]] 0 S = (none, [0], bk (bk S 0 s01) 1 s01) := by
 have hw : writeP 2 s00 0 0 [0] = (none, s01) := rfl
 have e1 : ∀ (first : Bool) (T : Nat -> UnS) (n : Int), upB 2 dN n = true -> T n.toNat = s00 -> putP 2 dN first 0 0 [0] n T = (none, bk T n.toNat s01) := by
  intro first T n hn hT
  unfold putP
  rw [if_pos hn, hT, hw]
  simp
 have hp : plE 0 [[0, 1]] 0 = none := by decide
 have hc : iM [[0, 1]] 0 = [0, 1] := by decide
 unfold flA
 rw [if_pos hp, hc]
 unfold Cs
 have q1 := e1 true S 0 (by decide) h0
 have q2 := e1 false (bk S 0 s01) 1 (by decide) (by rw [aM (by decide)]; exact h1)
 show rI 2 dN 0 0 [0, 1] (putP 2 dN true 0 0 [0] 0 S) = _
 rw [q1]
 unfold rI
 rw [if_pos rfl]
 have q3 : othP 2 dN 0 0 [0] [1] (bk S 0 s01) = (none, bk (bk S 0 s01) 1 s01) := by
  rw [u9, q2, if_pos rfl]; rfl
 have q4 : sQ 2 dN 0 0 [0] [1] (bk S 0 s01) = (none, [0], bk (bk S 0 s01) 1 s01) := by
  unfold sQ
  rw [q3]; rfl
 exact q4
theorem Gp {S : Nat -> UnS} (h0 : S 0 = s01) : (wrA 2 dN 0 [[0, 1]] 0 [97] S).1 = some 8 := by
 have hw : writeP 2 s01 0 0 [97] = (some 8, s01) := rfl
 have hp : plE 0 [[0, 1]] 0 = none := by decide
 have hc : iM [[0, 1]] 0 = [0, 1] := by decide
 have q : putP 2 dN true 0 0 [97] 0 S = (some 8, bk S 0 s01) := by
  unfold putP
  rw [if_pos (by decide)]
  show ((if _ then (writeP 2 (S 0) 0 0 [97]).1 else _), bk S 0 (writeP 2 (S 0) 0 0 [97]).2) = _
  rw [h0, hw]; simp
 unfold wrA
 rw [if_pos hp, hc]
 unfold Gf
 show (if (putP 2 dN true 0 0 [97] 0 S).1 = none then _ else putP 2 dN true 0 0 [97] 0 S).1 = _
 rw [q]; rfl
theorem A9 (A : Nat -> Addr) (w : World) (hE : cP A w) : Calls Tryz.prog fb ⟨[]⟩ w fun e w' => e = .returned (.bool true) /\ ah w w' := by
 refine nV ?_
 unfold j1
 refine (yP A 2 (by omega) w w hE (Ext.refl _ _)).mono ?_
 rintro e w2 ⟨us, ws, r, rd, r2, f, d, fr, P, top, S, rfl, hU, hS, k2, hnew⟩
 refine ⟨us, ws, rfl, ao (fun r5 w6 hr5 hb5 k5 hs5 => ao (fun r7 w8 hr7 hb7 k7 hs7 => qh rfl rfl (fun r9 w11 hr9 o9 k9 hs9 => ?_)))⟩
 have k11 : ah w2 w11 := (k5.trans k7).trans k9
 have h11 := hU.U.ae k11
 have hsl := h11.sl
 have lt2 := hU.U.F.lt
 have z5 := k5.size
 have z7 := k7.size
 have o5 := ((aq.eS hb5).ae k7).ae k9
 have o7 := (aq.eS hb7).ae k9
 have hP : PlF w11 (FB 2 r rd f) ⟨some ⟨r7, 0, none⟩, 1, 1⟩ [[0, 1]] := by
  refine ⟨rfl, fun i hi => ?_⟩
  have : i = 0 := by simpa using hi
  subst this
  refine ⟨⟨r7, 0, none⟩, ⟨some ⟨r5, 0, none⟩, 2, 2⟩, rfl, o7.cell 0 (by simp), ⟨rfl, .inr ⟨_, rfl, fun i hi => ?_⟩⟩, by simp, fun hh => by have := lt2.1 _ hh; simp only at this; omega, ?_⟩
  ·rw [add_lit, Nat.zero_add]
   have hi2 : i < 2 := by simpa using hi
   rcases (by omega : i = 0 \/ i = 1) with rfl | rfl
   ·exact o5.cell 0 (by simp)
   ·exact o5.cell 1 (by simp)
  ·rintro _ k ⟨a, ha, rfl⟩ hh
   cases ha
   have := lt2.1 _ hh
   simp only at this; omega
 refine aT (fun h0 => absurd (by omega) h0) (fun _ => ⟨0, _, o9.row, ?_⟩)
 refine (Ai h11 (by omega) 0 0 hP (by simp)).mono ?_
 rw [Gn (hS 0 (by omega)) (hS 1 (by omega))]
 rintro e w15 ⟨u, rfl, hb15, hf15, f3, d3, h15, ft15⟩
 refine ⟨u, _, rfl, trivial, aj (fun _ => ?_) (fun g => by cases g)⟩
 have n9 : ¬ FB 2 r rd f r9 := fun hh => by have := lt2.1 _ hh; have := k9.size; omega
 have o15 : ObF w15 (FB 2 r rd f3) r9 _ := (⟨o9, n9⟩ : ObF w11 (FB 2 r rd f) r9 _).to ft15
 refine Calls.mono (R := fun e w' => e = .returned (.bool true) /\ w' = w15) (xM _ ?_) ?_
 ·unfold vt
  exact ⟨[0], hb15, by rw [decide_eq_true rfl], rfl⟩
 rintro e w19 ⟨rfl, rfl⟩
 refine ⟨_, rfl, aj (fun _ => ⟨0, _, o15.ob.row, ao (fun r23 w24 hr23 hb23 k23 hs23 => ?_)⟩) (fun g => by cases g)⟩
 rintro w26 rfl
 obtain ⟨hm1, hm2⟩ := xk hb23
 have kk : ah w19 (markW w24 r23) := k23.step (r := r23) (by omega) hm2
 have ho : Own (markW w24 r23) ⟨some ⟨r23, 0, none⟩, 1, 1⟩ 1 (([97] : List UInt8).map aS) := Own.new (sz := 1) (n := 1) hm1 (xl _) rfl
 have h26 := h15.ae kk
 have lt15 := h15.F.lt
 have hb : Txt (markW w24 r23) (FB 2 r rd f3) ⟨some ⟨r23, 0, none⟩, 1, 1⟩ [97] := ⟨ho.bytes, fun k hk => ⟨cD ho k hk, fun hh => by
  obtain ⟨a, ha, rfl⟩ := hk
  cases ha
  have := lt15.1 _ hh
  simp only at this; omega⟩, by simp⟩
 have hP26 := (hP.to ft15).ae kk
 refine (yM h26 (by omega) 0 0 hP26 (by simp) _ [97] hb).mono ?_
 rintro e w28 ⟨rfl, f4, d4, h28, ft28⟩
 have hw : (wrA 2 dN 0 [[0, 1]] 0 [97] (bk (bk S 0 s01) 1 s01)).1 = some 8 := Gp (by rw [aM (by decide), aE])
 rw [hw]
 refine ⟨_, rfl, (ym A (some 8) (fun j hj => by cases hj; omega) _ h28.F.E.1).mono ?_⟩
 rintro e w31 ⟨rfl, k31⟩
 refine ⟨_, rfl, rfl, ?_⟩
 have n0 : ∀ b, FB 2 r rd f b -> w.heap.size <= b := fun b hb => hnew b (.inl (.inl hb))
 have k15w : ah w w19 := (k2.trans k11).ext ft15.1 n0
 have n3 : ∀ b, FB 2 r rd f3 b -> w.heap.size <= b := fun b hb => (ft15.2.1 b hb).elim (n0 b) (fun g => by have := (k2.trans k11).size; omega)
 exact ((k15w.trans kk).ext ft28.1 n3).trans k31
end Go.D
namespace Go.D
open Go Go.Proofs
theorem Chs.row {w : World} {s : Slc} {cs : List (List Int)} (h : Chs w s cs) {k : Nat} (hk : k < cs.length) : ∃ (a : Addr) (t : Slc), s.p = some a /\ w.cell? (a.add (k * 1)) = some t.v /\ dk w t cs[k] /\ t.l <= t.c := by
 exact h.2 k hk
theorem Ba {s t : Slc} (h : s.v ∈ [t.v]) : s = t := by
 simp at h
 exact Slc.Hi h
def HdR : AA Slc where
 n := 1
 pos := by omega
 R w x cs := cs = [x.v] /\ ∀ k, ai x k -> k < w.heap.size
 len h := by rw [h.1]; rfl
 one h := by rw [h.1]; intro v hv; simp at hv; subst hv; rfl
 ext h he _ := ⟨h.1, fun k hk => Nat.lt_of_lt_of_le (h.2 k hk) he.size⟩
 lt h := by
  rintro k ⟨s, hs, _, hk⟩
  rw [h.1] at hs
  exact h.2 k (Ba hs ▸ hk)
def hdC (t : Slc) : List Value := [t.v]
theorem Hc {ts : List Slc} {k : Nat} (h : dK (ts.map hdC) k) : ∃ t ∈ ts, ai t k := by
 obtain ⟨cs, hc, s, hs, _, hk⟩ := h
 obtain ⟨t, ht, rfl⟩ := List.mem_map.1 hc
 exact ⟨t, ht, Ba hs ▸ hk⟩
structure ChO (w : World) (s : Slc) (ts : List Slc) (cs : List (List Int)) : Prop where
 hd : Rows HdR w s ts (ts.map hdC)
 len : ts.length = cs.length
 ch : ∀ i (h : i < ts.length) (h' : i < cs.length), aB w ts[i] cs[i]
 sep : ∀ t ∈ ts, ∀ k, ai t k -> ¬ ai s k
 dis : ∀ i j (h : i < ts.length) (h' : j < ts.length), i ≠ j -> ∀ k, ai ts[i] k -> ¬ ai ts[j] k
def ChB (s : Slc) (ts : List Slc) (k : Nat) : Prop := ai s k \/ ∃ t ∈ ts, ai t k
theorem aB.Ih {w : World} {s : Slc} {l : List Int} (h : aB w s l) : s.l <= s.c := Rows.cap h
section
variable {w w' : World} {s : Slc} {ts : List Slc} {cs : List (List Int)}
theorem ChO.ext {M : Nat -> Prop} (h : ChO w s ts cs) (he : Ext M w w') (hm : ∀ k, ChB s ts k -> ¬ M k) : ChO w' s ts cs :=
 ⟨h.hd.ext he (fun k hk => hm k (.inl hk)) (fun k hk => hm k (.inr (Hc hk))), h.len, fun i h1 h2 => (h.ch i h1 h2).ext he (fun k hk => hm k (.inr ⟨_, List.getElem_mem h1, hk⟩)), h.sep, h.dis⟩
theorem ChO.ae (h : ChO w s ts cs) (he : ah w w') : ChO w' s ts cs := h.ext he (fun _ _ h => h)
theorem ChO.lt (h : ChO w s ts cs) : ∀ k, ChB s ts k -> k < w.heap.size := by
 rintro k (hk | ⟨t, ht, hk⟩)
 ·exact h.hd.lt k hk
 ·obtain ⟨i, hi, rfl⟩ := List.getElem_of_mem ht
  exact (h.ch i hi (by rw [<- h.len]; exact hi)).lt k hk
theorem ChO.get (h : ChO w s ts cs) {i : Nat} (hi : i < cs.length) : ∃ (a : Addr) (hi' : i < ts.length), s.p = some a /\ w.cell? (a.add (i * 1)) = some (ts[i]).v /\ aB w ts[i] cs[i] := by
 have hi' : i < ts.length := by rw [h.len]; exact hi
 obtain ⟨a, ha, _, hr⟩ := h.hd.get (i := i) (by simpa using hi')
 rw [List.getElem_map] at hr
 have := qT hr 0 (by simp [hdC])
 have e : (a.add (i * HdR.n)).add (0 + 0) = a.add (i * 1) := by simp [Addr.add, HdR]
 rw [e] at this
 exact ⟨a, hi', ha, this, h.ch i hi' hi⟩
theorem ChO.sl (h : ChO w s ts cs) : s.l = cs.length := by rw [h.hd.sl, h.len]
theorem ChO.new {r : Nat} : ChO w ⟨none, 0, 0⟩ [] [] := ⟨Rows.nil _ _, rfl, fun i h => by simp at h, fun t h => by simp at h, fun i j h => by simp at h⟩
theorem ChO.snoc {T E : TypeId} {f : Nat × Nat} {t : Slc} {c : List Int} {r : Nat} {K : Slc -> World -> Prop} (h : ChO w s ts cs) (hc : aB w t c) (h1 : ∀ k, ai t k -> ¬ ChB s ts k) (hb : w.heap[r]? = some (.cells ⟨[t.v]⟩ T f)) (hcf : clear f 1) (hlen : cs.length < 2 ^ 30)
  (hK : ∀ s' w', ChO w' s' (ts ++ [t]) (cs ++ [c]) -> Ext (ai s) w w' -> (∀ k, ai s' k -> ai s k \/ w.heap.size <= k) -> K s' w') : ak 1 E [(Slc.v (⟨none, 0, 0⟩ : Slc))] w s (.slc ⟨some ⟨r, 0, none⟩, 1, 1⟩) K := by
 refine h.hd.snoc (cs := hdC t) (x := t) (z := [(Slc.v (⟨none, 0, 0⟩ : Slc))]) rfl ⟨rfl, hc.lt⟩ (fun k hk => ?_) hb hcf (by rw [h.len]; exact hlen) (fun s' w' g1 g2 g3 => ?_)
 ·obtain ⟨s2, hs, _, hk⟩ := hk
  exact fun hh => h1 k (Ba hs ▸ hk) (.inl hh)
 ·refine hK s' w' ⟨by simpa using g1, by simp [h.len], fun i hi hi' => ?_, fun t' ht' k hk hh => ?_, fun i j hi hj hne k hk hk2 => ?_⟩ g2 g3
  ·by_cases hil : i < ts.length
   ·rw [List.getElem_append_left hil, List.getElem_append_left (by rw [<- h.len]; exact hil)]
    exact (h.ch i hil (by rw [<- h.len]; exact hil)).ext g2 (fun k hk => h.sep _ (List.getElem_mem hil) k hk)
   ·have hie : i = ts.length := by simp at hi; omega
    subst hie
    have hl := h.len
    rw [List.getElem_append_right (by omega), List.getElem_append_right (by omega)]
    simp only [hl, Nat.sub_self, List.getElem_cons_zero]
    exact hc.ext g2 (fun k hk hh => h1 k hk (.inl hh))
  ·rcases g3 k hh with hs | hs
   ·rcases List.mem_append.1 ht' with ht | ht
    ·exact h.sep t' ht k hk hs
    ·rw [List.mem_singleton] at ht; subst ht; exact h1 k hk (.inl hs)
   ·rcases List.mem_append.1 ht' with ht | ht
    ·have := h.lt k (.inr ⟨t', ht, hk⟩); omega
    ·rw [List.mem_singleton] at ht; subst ht; have := hc.lt k hk; omega
  ·have go : ∀ (i j : Nat) (hi : i < (ts ++ [t]).length) (hj : j < (ts ++ [t]).length), i < j -> ai (ts ++ [t])[i] k -> ai (ts ++ [t])[j] k -> False := by
    intro i j hi hj hlt hk hk2
    have hil : i < ts.length := by simp at hj; omega
    rw [List.getElem_append_left hil] at hk
    by_cases hjl : j < ts.length
    ·rw [List.getElem_append_left hjl] at hk2
     exact h.dis i j hil hjl (by omega) k hk hk2
    ·have hje : j = ts.length := by simp at hj; omega
     subst hje
     rw [List.getElem_append_right (by omega)] at hk2
     simp only [Nat.sub_self, List.getElem_cons_zero] at hk2
     exact h1 k hk2 (.inr ⟨_, List.getElem_mem hil, hk⟩)
   rcases Nat.lt_or_ge i j with hlt | hge
   ·exact go i j hi hj hlt hk hk2
   ·exact go j i hj hi (by omega) hk2 hk
end
end Go.D
namespace Go.D
open Go Go.Proofs
theorem EO (ep : Int) (s : Slc) (cs : List (List Int)) (w : World) (h : Chs w s cs) (hcl : cs.length <= 1000) (hll : ∀ c ∈ cs, c.length <= 1000) :
  Calls Tryz.prog oK ⟨[.agg ⟨[.int .i64 ep, s.v]⟩]⟩ w fun e w' => ∃ (t : Slc) (ts : List Slc), e = .returned (.agg ⟨[.int .i64 ep, t.v]⟩) /\ ChO w' t ts cs /\ (∀ k, ChB t ts k -> w.heap.size <= k) /\ ah w w' := by
 have hsl := h.1
 refine AI _ _ ?_
 unfold zV
 refine ao (fun r3 w4 hr3 hb3 k3 hs3 => ao (fun r5 w6 hr5 hb5 k5 hs5 => ?_))
 have o3 := (aq.eS hb3).ae k5
 have o5 : aq w6 r5 [.int .i64 0, (⟨none, 0, 0⟩ : Slc).v] := aq.eS hb5
 have z3 := k3.size
 refine ⟨ep, o3.cell 0 (by simp), qh (cs := [.int .i64 ep, (⟨none, 0, 0⟩ : Slc).v]) rfl rfl (fun r8 w10 hr8 o8 k8 hs8 => ?_)⟩
 have k10 := (k3.trans k5).trans k8
 have z5 := k5.size
 have h8lt := o8.lt
 have h5lt := o5.lt
 have z8 := k8.size
 refine ⟨s, (o3.ae k8).cell 1 (by simp), ?_⟩
 refine ⟨fun i w2 => ∃ (k : Nat) (t : Slc) (ts : List Slc), i = k /\ k <= cs.length /\ aq w2 r8 [.int .i64 ep, t.v] /\ aq w2 r5 [.int .i64 0, (⟨none, 0, 0⟩ : Slc).v] /\ ChO w2 t ts (cs.take k) /\ (∀ j, ChB t ts j -> w10.heap.size <= j) /\ ah w w2 /\ w10.heap.size <= w2.heap.size, fun i _ => ((cs.length : Int) - i).toNat,
  ⟨0, _, [], rfl, by omega, o8, o5.ae k8, ChO.new (r := 0), (by rintro j (⟨a, ha, _⟩ | ⟨t, ht, _⟩); cases ha; cases ht), k10, Nat.le_refl _⟩, ?_⟩
 rintro i w15 ⟨k, t, ts, rfl, hk, o8, o5, hC, hB, k15, z15⟩
 intros
 refine af (fun h1 => ?_) (fun h1 => ?_)
 ·have hkl : k < cs.length := by omega
  obtain ⟨a, t0, ha, hc0, ht0, _⟩ := (h.ae k15).row hkl
  have kd : ah w15 w15.drew := Ext.drew fp _
  have hc1 := hll _ (List.getElem_mem hkl)
  have o8d := o8.ae kd
  refine aa ha ⟨by omega, h1, t0, by rw [Int.toNat_natCast]; exact hc0, t, o8d.cell 1 (by simp), ?_⟩
  refine (vL t0 _ _ (da ht0 kd) (by omega)).mono ?_
  rintro e w32 ⟨s33, rfl, h33, k32, f33⟩
  have f33' : ∀ j, ai s33 j -> w15.heap.size <= j := f33
  have k1532 := kd.trans k32
  refine ⟨s33, rfl, ⟨t, (o8d.ae k32).cell 1 (by simp), rfl⟩, ao (fun r35 w36 hr35 hb35 k35 hs35 => ?_)⟩
  have k1536 := k1532.trans k35
  have o8e := o8.ae k1536
  have z36 := k1536.size
  have hC36 := hC.ae k1536
  refine ⟨⟨t, o8e.cell 1 (by simp), rfl⟩, ?_⟩
  refine hC36.snoc (h33.ae k35) (fun j hj hh => by have := f33' j hj; have := hC.lt j hh; omega) hb35 (.inl (by simp)) (by rw [List.length_take]; omega) (fun s' w39 g1 g2 g3 => ?_)
  have hnr : ¬ ai t r8 := fun hh => by have := hB _ (.inl hh); omega
  have hnr5 : ¬ ai t r5 := fun hh => by have := hB _ (.inl hh); omega
  obtain ⟨c1, c2⟩ := (o8e.ext g2 hnr).bf 1 (by simp) s'.v
  refine ⟨c1, fun w40 hw40 => ?_⟩
  obtain ⟨o8f, g4, g5⟩ := c2 w40 hw40
  have hB' : ∀ j, ChB s' (ts ++ [s33]) j -> w10.heap.size <= j := by
   rintro j (hj | ⟨t', ht', hj⟩)
   ·exact (g3 j hj).elim (fun h => hB j (.inl h)) (fun h => by omega)
   ·rcases List.mem_append.1 ht' with h | h
    ·exact hB j (.inr ⟨t', h, hj⟩)
    ·rw [List.mem_singleton] at h; subst h; have := f33' j hj; omega
  have z39 := g2.size
  refine ⟨ar (by omega), ⟨k + 1, s', _, rfl, hkl, o8f, ((o5.ae k1536).ext g2 hnr5).ext g4 (fun hh => by omega), ?_, hB', ?_, by omega⟩, by first | (dsimp only; omega) | omega⟩
  ·rw [List.take_succ_eq_append_getElem hkl]
   exact g1.ext g4 (fun j hj hh => by have := hB' j hj; omega)
  ·exact ((k15.trans k1536).ext g2 (fun j hj => by have := hB j (.inl hj); have := k10.size; omega)).ext g4 (fun j hj => by have := (k3.trans k5).size; omega)
 ·have hkn : k = cs.length := by omega
  subst hkn
  rw [List.take_length] at hC
  obtain ⟨c1, c2⟩ := o5.HA (n := 2) rfl (cs := [.int .i64 ep, t.v]) rfl
  refine ⟨ep, t, o8.row, c1, fun w43 hw43 => ?_⟩
  obtain ⟨o43, g4, g5⟩ := c2 w43 hw43
  refine ⟨ep, t, o43.row, t, ts, rfl, hC.ext g4 (fun j hj hh => by have := hB j hj; omega), fun j hj => by have := hB j hj; have := k10.size; omega, k15.ext g4 (fun j hj => by omega)⟩
end Go.D
namespace Go.D
open Go Go.Proofs
structure Cx where
 us : Slc
 al : Slc
 ws : Slc
 od : Slc
 s : Slc
 s2 : Slc
def fk (p : Cx) (ep : Int) : List Value := [p.us.v, p.al.v, p.ws.v, p.od.v, .int .i64 ep, p.s.v, .int .i64 ep, p.s2.v]
structure ea (A : Nat -> Addr) (wb w : World) (rx m : Nat) (r rd r2 : Nat -> Nat) (f : Nat -> UnF) (d : Nat -> aK) (fr : Nat -> RuF) (P : Nat -> List RuE) (top : Nat -> Int) (S : Nat -> UnS) (p : Cx) (up : Nat -> Bool) (ep : Int) (cs : List (List Int)) : Prop where
 o : aq w rx (fk p ep)
 U : Uns A w wb.heap.size 6 m r rd r2 f d fr P top S p.us p.ws up
 al : Own w p.al 1 (usL 6 dN r)
 od : Own w p.od 1 (usL 6 dN r2)
 c1 : Chs wb p.s cs
 c2 : Chs wb p.s2 cs
 kb : ah wb w
 xn : ¬ qa 6 r rd r2 f fr rx /\ ¬ ai p.us rx /\ ¬ ai p.ws rx /\ ¬ ai p.al rx /\ ¬ ai p.od rx
 an : ∀ b, ai p.al b \/ ai p.od b -> ¬ qa 6 r rd r2 f fr b /\ ¬ ai p.us b /\ ¬ ai p.ws b
 ge : wb.heap.size <= rx /\ ∀ b, ai p.us b \/ ai p.ws b -> wb.heap.size <= b
section
variable {A : Nat -> Addr} {wb w w' : World} {rx m m' : Nat} {r rd r2 : Nat -> Nat} {f f' : Nat -> UnF} {d d' : Nat -> aK} {fr fr' : Nat -> RuF} {P P' : Nat -> List RuE} {top top' : Nat -> Int} {S S' : Nat -> UnS} {p : Cx} {up : Nat -> Bool} {ep : Int} {cs : List (List Int)}
theorem ea.ae (h : ea A wb w rx m r rd r2 f d fr P top S p up ep cs) (hk : ah w w') : ea A wb w' rx m r rd r2 f d fr P top S p up ep cs :=
 ⟨h.o.ae hk, h.U.ae hk, h.al.ae hk, h.od.ae hk, h.c1, h.c2, h.kb.trans hk, h.xn, h.an, h.ge⟩
theorem ea.plF (h : ea A wb w rx m r rd r2 f d fr P top S p up ep cs) : PlF w (FB 6 r rd f) p.s cs := PlF.old h.c1 h.kb h.U.U.F.ge
theorem ea.plR (h : ea A wb w rx m r rd r2 f d fr P top S p up ep cs) : PlF w (RB 6 r2 fr) p.s2 cs := PlF.old h.c2 h.kb h.U.rn
end
theorem Bb (A : Nat -> Addr) (w0 w : World) (hE : cP A w0) (hk : ah w0 w) (ep : Int) (s : Slc) (cs : List (List Int)) (hC : Chs w s cs) (hcl : cs.length <= 10 /\ ∀ c ∈ cs, c.length <= 10) :
  Calls Tryz.prog fe ⟨[.agg ⟨[.int .i64 ep, s.v]⟩]⟩ w fun e w' => ∃ (wb : World) (rx : Nat) (r rd r2 : Nat -> Nat) (f : Nat -> UnF) (d : Nat -> aK) (fr : Nat -> RuF) (P : Nat -> List RuE) (top : Nat -> Int) (S : Nat -> UnS) (p : Cx), e = .returned (av rx) /\ ah w wb /\
   ea A wb w' rx 0 r rd r2 f d fr P top S p dN ep cs /\ ∀ i, i < 6 -> S i = s00 := by
 refine nX _ _ ?_
 unfold j2
 refine ao (fun r3 w4 hr3 hb3 k3 hs3 => ?_)
 have o4 := aq.eS hb3
 have kd : ah w4 (World.drew w4) := Ext.drew _ _
 have od := o4.ae kd
 have k4d := k3.trans kd
 refine ⟨ep, s, od.row, ep, s, od.row, (EO ep s cs (World.drew w4) (hC.ae k4d) (by omega) (fun c hc => by have := hcl.2 c hc; omega)).mono ?_⟩
 rintro e w10 ⟨t, ts, rfl, hO, hnw, k10'⟩
 have k10 := k4d.trans k10'
 have hc2 : Chs w10 t cs := ⟨hO.sl, fun i hi => by
  obtain ⟨a, hi', h1, h2, h3⟩ := hO.get hi
  exact ⟨a, ts[i], h1, h2, h3.ints, h3.Ih⟩⟩
 refine ⟨ep, t, rfl, ⟨ep, s, (od.ae k10').row, rfl⟩, ao (fun r15 w16 hr15 hb15 k15 hs15 => ?_)⟩
 have o16 := aq.eS hb15
 refine (yP A 6 (by omega) w10 w16 (hE.ae (hk.trans k10)) k15).mono ?_
 rintro e w18 ⟨us, ws, r, rd, r2, f, d, fr, P, top, S, rfl, hU, hS, k18, hnew⟩
 have o18 := o16.ae k18
 have z16 := k15.size
 have z18 := k18.size
 have lt18 := hU.lt
 have lu := cD hU.U.uo
 have lw := cD hU.R.uo
 have nx : ∀ b, qa 6 r rd r2 f fr b \/ ai us b \/ ai ws b -> b ≠ r15 := fun b hb => by have := hnew b hb; omega
 obtain ⟨c1, c2⟩ := o18.bf 0 (by simp) us.v
 refine ⟨us, ws, rfl, c1, fun w21 hw21 => ?_⟩
 obtain ⟨o21, e21, z21⟩ := c2 w21 hw21
 obtain ⟨c3, c4⟩ := o21.bf 2 (by simp) ws.v
 refine ⟨c3, fun w22 hw22 => ?_⟩
 obtain ⟨o22, e22, z22⟩ := c4 w22 hw22
 have ex : Ext (fun b => b = r15) w18 w22 := e21.trans e22 (fun _ h => h) (fun b hb => .inl hb)
 have n15 : ∀ {b : Nat}, qa 6 r rd r2 f fr b \/ ai us b \/ ai ws b -> ¬ b = r15 := fun hb => nx _ hb
 have hU22 : Uns A w22 w10.heap.size 6 0 r rd r2 f d fr P top S us ws dN := by
  refine ⟨⟨hU.U.F.ext ex (fun b hb => n15 (.inl (.inl hb))) (fun b hb => n15 (.inl (.inr (.inl hb)))) (fun b hb => by have hb' : b = r15 := hb; omega), hU.U.uo.ext ex (fun b hb => n15 (.inr (.inl hb))), hU.U.ub⟩, ⟨hU.R.F.ext ex (fun b hb => n15 (.inl (.inr (.inr (.inl hb))))) (fun b hb => n15 (.inl (.inr (.inr (.inr hb))))), hU.R.uo.ext ex (fun b hb => n15 (.inr (.inr hb))), hU.R.ub⟩, hU.rb, hU.ry, hU.ub, hU.wb, hU.rn, by omega⟩
 have o22' : aq w22 r15 [us.v, (⟨none, 0, 0⟩ : Slc).v, ws.v, (⟨none, 0, 0⟩ : Slc).v, .int .i64 ep, s.v, .int .i64 ep, t.v] := o22
 have kb22 : ah w10 w22 := (k15.trans k18).ext ex (fun b hb => by have hb' : b = r15 := hb; omega)
 have kd22 : ah w22 (World.drew w22) := Ext.drew _ _
 -- the end, in whichever order the copies were made
 have fin : ∀ (wf : World) (sa so : Slc), ah w22 wf -> Own wf sa 1 (usL 6 dN r) -> Own wf so 1 (usL 6 dN r2) -> (∀ b, ai sa b -> w22.heap.size <= b) -> (∀ b, ai so b -> w22.heap.size <= b) ->
   aw wf (⟨r15, 1, none⟩ : Addr) 1 /\ ∀ w37 : World, w37 = World.setCell wf (⟨r15, 1, none⟩ : Addr) sa.v -> aw w37 (⟨r15, 3, none⟩ : Addr) 1 /\ ∀ w38 : World, w38 = World.setCell w37 (⟨r15, 3, none⟩ : Addr) so.v ->
   ∃ (wb : World) (rx : Nat) (r rd r2 : Nat -> Nat) (f : Nat -> UnF) (d : Nat -> aK) (fr : Nat -> RuF) (P : Nat -> List RuE) (top : Nat -> Int) (S : Nat -> UnS) (p : Cx), Ending.returned (Value.pointer (some (⟨r15, 0, none⟩ : Addr))) = .returned (av rx) /\ ah w wb /\
    ea A wb w38 rx 0 r rd r2 f d fr P top S p dN ep cs /\ ∀ i, i < 6 -> S i = s00 := by
  intro wf sa so kf ha ho na no
  have zf := kf.size
  have of' := o22'.ae kf
  obtain ⟨d1, d2⟩ := of'.bf 1 (by simp) sa.v
  refine ⟨d1, fun w37 hw37 => ?_⟩
  obtain ⟨o37, e37, z37⟩ := d2 w37 hw37
  obtain ⟨d3, d4⟩ := o37.bf 3 (by simp) so.v
  refine ⟨d3, fun w38 hw38 => ?_⟩
  obtain ⟨o38, e38, z38⟩ := d4 w38 hw38
  have ex2 : Ext (fun b => b = r15) wf w38 := e37.trans e38 (fun _ h => h) (fun b hb => .inl hb)
  have hUf := hU22.ae kf
  have l15 : r15 < w22.heap.size := o22'.lt
  have ltA : ∀ b, qa 6 r rd r2 f fr b \/ ai us b \/ ai ws b -> b < w22.heap.size := fun b hb => by
   rcases hb with hb | hb | hb
   ·exact hU22.lt b hb
   ·exact cD hU22.U.uo b hb
   ·exact cD hU22.R.uo b hb
  have nn : ∀ b, ai sa b \/ ai so b -> w22.heap.size <= b := fun b hb => hb.elim (na b) (no b)
  refine ⟨w10, r15, r, rd, r2, f, d, fr, P, top, S, ⟨us, sa, ws, so, s, t⟩, rfl, k10, ⟨o38, ?_, ha.ext ex2 (fun b hb hh => by have h1 := na b hb; have h2 : b = r15 := hh; omega), ho.ext ex2 (fun b hb hh => by have h1 := no b hb; have h2 : b = r15 := hh; omega), hC.ae k10, hc2, (kb22.trans kf).ext ex2 (fun b hb => by have hb' : b = r15 := hb; omega), ?_, ?_, by omega, fun b hb => by have := hnew b (.inr hb); omega⟩, hS⟩
  ·refine ⟨⟨hUf.U.F.ext ex2 (fun b hb => n15 (.inl (.inl hb))) (fun b hb => n15 (.inl (.inr (.inl hb)))) (fun b hb => by have hb' : b = r15 := hb; omega), hUf.U.uo.ext ex2 (fun b hb => n15 (.inr (.inl hb))), hUf.U.ub⟩, ⟨hUf.R.F.ext ex2 (fun b hb => n15 (.inl (.inr (.inr (.inl hb))))) (fun b hb => n15 (.inl (.inr (.inr (.inr hb))))), hUf.R.uo.ext ex2 (fun b hb => n15 (.inr (.inr hb))), hUf.R.ub⟩, hUf.rb, hUf.ry, hUf.ub, hUf.wb, hUf.rn, by have := hUf.z; omega⟩
  ·exact ⟨fun hh => nx _ (.inl hh) rfl, fun hh => nx _ (.inr (.inl hh)) rfl, fun hh => nx _ (.inr (.inr hh)) rfl, fun hh => by have := na _ hh; omega, fun hh => by have := no _ hh; omega⟩
  ·intro b hb
   have h1 := nn b hb
   exact ⟨fun hh => by have := ltA b (.inl hh); omega, fun hh => by have := ltA b (.inr (.inl hh)); omega, fun hh => by have := ltA b (.inr (.inr hh)); omega⟩
 have own1 : ∀ {x : Nat} {b : Nat}, ai (⟨some ⟨x, 0, none⟩, 0, 0⟩ : Slc) b -> b = x := by rintro x b ⟨a, ha, rfl⟩; cases ha; rfl
 have nil1 : ∀ {w2 : World} {x : Nat} {T : TypeId}, w2.heap[x]? = some (.cells ⟨[]⟩ T) -> Own w2 ⟨some ⟨x, 0, none⟩, 0, 0⟩ 1 [] := fun hb => Own.new (sz := 1) (n := 0) hb (.inl (by simp)) rfl
 -- a copy of the pointers
 have cpy : ∀ {w2 : World} {x : Nat} {E : TypeId} {src : Slc} {vs : List Value} {K : Slc -> World -> Prop}, ah w22 w2 -> w22.heap.size <= x -> Own w2 ⟨some ⟨x, 0, none⟩, 0, 0⟩ 1 [] -> Own w2 src 1 vs -> (∀ v ∈ vs, v.oneCell' = true) -> vs.length = 6 ->
   (∀ s' w', ah w22 w' -> Own w' s' 1 vs -> Ext (fun b => b = x) w2 w' -> (∀ b, ai s' b -> b = x \/ w2.heap.size <= b) -> K s' w') -> ak 1 E [.pointer none] w2 (⟨some ⟨x, 0, none⟩, 0, 0⟩ : Slc) (.slc src) K := by
  intro w2 x E src vs K kw hx ho hs hone hl6 hK
  have hsl := hs.1
  refine cX ho (by omega) rfl (iO hs.cells hsl.symm) hone (by simp only [Src.n]; omega) (fun s' w' q1 q2 q3 q4 => hK s' w' ?_ (by simpa using q1) (q2.mono (fun b hb => own1 hb)) (fun b hb => (q3 b hb).imp own1 (fun g => g)))
  exact kw.ext q2 (fun b hb => by have := own1 hb; omega)
 have hus : ∀ {w2 : World}, ah w22 w2 -> Own w2 us 1 (usL 6 dN r) := fun hk => hU22.U.uo.ae hk
 have hws : ∀ {w2 : World}, ah w22 w2 -> Own w2 ws 1 (usL 6 dN r2) := fun hk => hU22.R.uo.ae hk
 have oo : ∀ {w2 : World}, ah w22 w2 -> aq w2 r15 [us.v, (⟨none, 0, 0⟩ : Slc).v, ws.v, (⟨none, 0, 0⟩ : Slc).v, .int .i64 ep, s.v, .int .i64 ep, t.v] := fun hk => o22'.ae hk
 refine ⟨us, (oo kd22).cell 0 (by simp), ws, (oo kd22).cell 2 (by simp), ao (fun r25 w26 hr25 hb25 k25 hs25 => ?_), ao (fun r50 w51 hr50 hb50 k50 hs50 => ?_)⟩
 ·have k26 := kd22.trans k25
  have q25 : w22.heap.size <= r25 := by rw [hr25]; exact kd22.size
  refine ⟨⟨ws, (oo k26).cell 2 (by simp), rfl⟩, ⟨us, (oo k26).cell 0 (by simp), rfl⟩, ?_, ao (fun r39 w40 hr39 hb39 k39 hs39 => ?_)⟩
  ·refine cpy k26 q25 (nil1 hb25) (hus k26) (oC _ _ _) bO (fun s29 w30 k30 ho29 e30 n29 => ?_)
   have l29 := cD ho29
   refine ⟨⟨ws, (oo k30).cell 2 (by simp), rfl⟩, ao (fun r32 w33 hr32 hb32 k32 hs32 => ⟨⟨ws, (oo (k30.trans k32)).cell 2 (by simp), rfl⟩, ?_⟩)⟩
   have k33 := k30.trans k32
   refine cpy k33 (by have := k30.size; omega) (nil1 hb32) (hws k33) (oC _ _ _) bO (fun s35 w36 k36 ho35 e36 n35 => ?_)
   have z33 := k33.size
   have z26 := k26.size
   have z30 := k30.size
   exact fin w36 s29 s35 k36 ((ho29.ae k32).ext e36 (fun b hb hh => by have h1 := l29 b hb; have h2 : b = r32 := hh; omega)) ho35 (fun b hb => (n29 b hb).elim (fun g => by omega) (fun g => by omega)) (fun b hb => (n35 b hb).elim (fun g => by omega) (fun g => by omega))
  ·have k40 := k26.trans k39
   have z26 := k26.size
   refine ⟨⟨ws, (oo k40).cell 2 (by simp), rfl⟩, ⟨us, (oo k40).cell 0 (by simp), rfl⟩, ?_⟩
   refine cpy k40 q25 ((nil1 hb25).ae k39) (hus k40) (oC _ _ _) bO (fun s43 w44 k44 ho43 e44 n43 => ⟨⟨ws, (oo k44).cell 2 (by simp), rfl⟩, ?_⟩)
   have z40 := k40.size
   have z44 := k44.size
   have hne : r39 ≠ r25 := by have := bL hb25; omega
   refine cpy k44 (by omega) ((nil1 hb39).ext e44 (fun b hb hh => by have h1 := own1 hb; have h2 : b = r25 := hh; omega)) (hws k44) (oC _ _ _) bO (fun s46 w47 k47 ho46 e47 n46 => ?_)
   have l39 := bL hb39
   exact fin w47 s43 s46 k47 (ho43.ext e47 (fun b hb hh => by have h2 : b = r39 := hh; rcases n43 b hb with g | g <;> omega)) ho46 (fun b hb => (n43 b hb).elim (fun g => by omega) (fun g => by omega)) (fun b hb => (n46 b hb).elim (fun g => by omega) (fun g => by omega))
 ·have k51 := kd22.trans k50
  have q50 : w22.heap.size <= r50 := by rw [hr50]; exact kd22.size
  refine ⟨⟨ws, (oo k51).cell 2 (by simp), rfl⟩, ⟨us, (oo k51).cell 0 (by simp), rfl⟩, ao (fun r54 w55 hr54 hb54 k54 hs54 => ?_)⟩
  have k55 := k51.trans k54
  have z51 := k51.size
  have z55 := k55.size
  have l50 := bL hb50
  have l54 := bL hb54
  refine ⟨⟨ws, (oo k55).cell 2 (by simp), rfl⟩, ⟨us, (oo k55).cell 0 (by simp), rfl⟩, ?_⟩
  refine cpy k55 (by omega) (nil1 hb54) (hus k55) (oC _ _ _) bO (fun s58 w59 k59 ho58 e59 n58 => ⟨⟨ws, (oo k59).cell 2 (by simp), rfl⟩, ?_⟩)
  have z59 := k59.size
  refine cpy k59 q50 (((nil1 hb50).ae k54).ext e59 (fun b hb hh => by have h1 := own1 hb; have h2 : b = r54 := hh; omega)) (hws k59) (oC _ _ _) bO (fun s61 w62 k62 ho61 e62 n61 => ?_)
  exact fin w62 s58 s61 k62 (ho58.ext e62 (fun b hb hh => by have h2 : b = r50 := hh; rcases n58 b hb with g | g <;> omega)) ho61 (fun b hb => (n58 b hb).elim (fun g => by omega) (fun g => by omega)) (fun b hb => (n61 b hb).elim (fun g => by omega) (fun g => by omega))
end Go.D
namespace Go.D
open Go Go.Proofs
theorem Hd (s : Slc) (l : List Int) (n : Int) (w : World) (h : dk w s l) (hl : l.length <= 2 ^ 40) :
  Calls Tryz.prog iC ⟨[s.v, .int .i64 n]⟩ w fun e w' => e = .returned (.bool (decide (n ∈ l))) /\ w' = w := by
 have hsl := h.1
 refine sk _ _ ?_
 unfold pN
 refine ⟨fun i w2 => w2 = w /\ ∃ k : Nat, i = k /\ k <= l.length /\ n ∉ l.take k, fun i _ => ((l.length : Int) - i).toNat, ⟨rfl, 0, rfl, by omega, by simp⟩, ?_⟩
 rintro i w2 ⟨rfl, k, rfl, hk, hn⟩
 intros
 refine af (fun hlt => ?_) (fun hlt => ?_)
 ·have hkl : k < l.length := by omega
  obtain ⟨a, ha, hc⟩ := fq h hkl
  refine aa ha ⟨by omega, hlt, l[k], by rw [show Int.toNat (k : Int) * 1 = k by omega]; exact hc, af (fun h1 => ⟨?_, rfl⟩) (fun h1 => ?_)⟩
  ·rw [decide_eq_true (by rw [<- h1]; exact List.getElem_mem hkl)]
  ·refine ⟨ar (by omega), ⟨rfl, k + 1, rfl, hkl, ?_⟩, by dsimp only; omega⟩
   rw [List.take_succ_eq_append_getElem hkl]
   simp only [List.mem_append, List.mem_singleton, not_or]
   exact ⟨hn, fun h2 => h1 h2.symm⟩
 ·rw [List.take_of_length_le (by omega)] at hn
  exact ⟨by rw [decide_eq_false hn], rfl⟩
end Go.D
namespace Go.D
open Go Go.Proofs
theorem kF (ep : Int) (s : Slc) (cs : List (List Int)) (w : World) (h : Chs w s cs) (hcl : cs.length <= 1000) :
  Calls Tryz.prog bX ⟨[.agg ⟨[.int .i64 ep, s.v]⟩]⟩ w fun e w' => ∃ b : Bool, e = .returned (.bool b) /\ (b = true ↔ bo ep cs) /\ ah w w' := by
 have hsl := h.1
 refine oc _ _ ?_
 unfold j4
 refine ao (fun r3 w4 hr3 hb3 k4 hs4 => ?_)
 have o4 := aq.eS hb3
 have no : ∀ {w2 : World}, ah w w2 -> ¬ bo ep cs -> ∃ b : Bool, Ending.returned (Value.bool false) = .returned (.bool b) /\ (b = true ↔ bo ep cs) /\ ah w w2 :=
  fun k hn => ⟨false, rfl, ⟨fun h => (by cases h), fun hh => (hn hh).elim⟩, k⟩
 refine ⟨fun w2 => w2 = w4 /\ (0 <= ep /\ ep <= 1073741824) /\ 1 <= cs.length /\ cs.length <= 3, ?_, ?_⟩
 ·refine ⟨_, o4.cell 0 (by simp), af (fun h1 => no k4 (fun hh => by have := hh.1; omega)) (fun h1 => ⟨_, o4.cell 0 (by simp), af (fun h2 => no k4 (fun hh => by have := hh.1; omega)) (fun h2 => ⟨s, o4.cell 1 (by simp), af (fun h3 => no k4 (fun hh => by have := hh.2.1; omega)) (fun h3 => ⟨s, o4.cell 1 (by simp), af (fun h5 => no k4 (fun hh => by have := hh.2.1; omega)) (fun h5 => ⟨rfl, by omega, by omega, by omega⟩)⟩)⟩)⟩)⟩
 ·rintro w10 ⟨rfl, hep, hc1, hc3⟩
  intros
  refine ao (fun r32 w33 hr32 hb32 k32 hs32 => ?_)
  have k33 := k4.trans k32
  have z4 := k4.size
  have o33 := o4.ae k32
  refine ⟨s, o33.cell 1 (by simp), ?_⟩
  refine ⟨fun seen i w2 => ∃ k : Nat, i = k /\ k <= cs.length /\ aB w2 seen (cs.take k).flatten /\ aN w seen /\ ah w w2 /\ (∀ c ∈ cs.take k, ln c) /\ (cs.take k).flatten.Nodup, fun _ i _ => ((cs.length : Int) - i).toNat,
   ⟨0, rfl, by omega, aB.new hb32, aN.at (by omega), k33, fun c hc => by simp at hc, by simp⟩, ?_⟩
  rintro seen i w39 ⟨k, rfl, hk, hi, hf, k39, hok, hnd⟩
  intros
  refine af (fun h1 => ?_) (fun h1 => ?_)
  ·have hkl : k < cs.length := by omega
   obtain ⟨a, t, ha, hc, ht, htc⟩ := h.row hkl
   have htl := ht.1
   have hmem : cs[k] ∈ cs := List.getElem_mem hkl
   have hsplit : cs.flatten = (cs.take k).flatten ++ (cs[k] ++ (cs.drop (k + 1)).flatten) := by
    conv => lhs; rw [<- List.take_append_drop k cs, List.drop_eq_getElem_cons hkl]
    rw [List.flatten_append, List.flatten_cons]
   generalize hck : cs[k] = c at *
   refine aa ha ⟨by omega, h1, t, by rw [Int.toNat_natCast]; exact k39.cell hc, fun w2 => w2 = w39 /\ 1 <= c.length /\ c.length <= 3, ?_, ?_⟩
   ·refine af (fun h2 => no k39 (fun hh => by have := hh.2.2.1 c hmem; have := this.1; omega)) (fun h2 => af (fun h3 => no k39 (fun hh => by have := hh.2.2.1 c hmem; have := this.2.1; omega)) (fun h3 => ⟨rfl, by omega, by omega⟩))
   ·rintro w80 ⟨rfl, hl1, hl3⟩
    intros
    refine ⟨fun seen i w2 => ∃ j : Nat, i = j /\ j <= c.length /\ aB w2 seen ((cs.take k).flatten ++ c.take j) /\ aN w seen /\ ah w w2 /\ rf (c.take j) /\ ((cs.take k).flatten ++ c.take j).Nodup, fun _ i _ => ((c.length : Int) - i).toNat,
     ⟨0, rfl, by omega, by simpa using hi, hf, k39, fun u hu => by simp at hu, by simpa using hnd⟩, ?_⟩
    rintro seen i w94 ⟨j, rfl, hj, hi2, hf2, k94, hu, hnd2⟩
    intros
    have hfl := A2 3 (cs.take k) (fun c hc => (hok c hc).2.1)
    have htk : (cs.take k).length <= 3 := by rw [List.length_take]; omega
    refine af (fun h2 => ?_) (fun h2 => ?_)
    ·have hjl : j < c.length := by omega
     obtain ⟨p, hp, hcp⟩ := fq (da ht k94) hjl
     have hcj : c[j] ∈ c := List.getElem_mem hjl
     have hpre : (cs.take k).flatten ++ (c.take j ++ [c[j]]) <+: cs.flatten := by
      rw [hsplit, <- List.take_succ_eq_append_getElem hjl]
      refine ⟨c.drop (j + 1) ++ (cs.drop (k + 1)).flatten, ?_⟩
      rw [List.append_assoc, <- List.append_assoc (c.take (j + 1)), List.take_append_drop]
     have hcjl : (c.take j).length <= 3 := by rw [List.length_take]; omega
     have hlen : ((cs.take k).flatten ++ c.take j).length <= 20 := by rw [List.length_append]; omega
     generalize hu2 : c[j] = u at *
     refine aa hp ⟨by omega, h2, u, by rw [show Int.toNat (j : Int) * 1 = j by omega]; exact hcp, af (fun h3 => no k94 (fun hh => by have := (hh.2.2.1 c hmem).2.2 u hcj; omega)) (fun h3 => af (fun h5 => no k94 (fun hh => by have := (hh.2.2.1 c hmem).2.2 u hcj; omega)) (fun h5 => ?_))⟩
     refine (Hd seen _ u w94 hi2.ints (by omega)).mono ?_
     rintro e w119 ⟨rfl, rfl⟩
     refine ⟨_, rfl, af (fun h6 => no k94 (fun hh => ?_)) (fun h6 => ?_)⟩
     ·have hn := hpre.sublist.nodup hh.2.2.2
      rw [<- List.append_assoc] at hn
      exact (List.nodup_append.1 hn).2.2 u h6 u (by simp) rfl
     ·refine hi2.push hf2 k94 (by omega) (fun s' w' g1 g2 g3 g4 g5 => ?_)
      refine ⟨ar (by omega), ⟨j + 1, rfl, hjl, ?_, g2, g3, ?_, ?_⟩, by first | (dsimp only; omega) | omega⟩
      ·rw [List.take_succ_eq_append_getElem hjl, hu2, <- List.append_assoc]; exact g1
      ·intro x hx
       rw [List.take_succ_eq_append_getElem hjl, hu2] at hx
       rcases List.mem_append.1 hx with h | h
       ·exact hu x h
       ·rw [List.mem_singleton] at h; omega
      ·rw [List.take_succ_eq_append_getElem hjl, hu2, <- List.append_assoc]
       refine List.nodup_append.2 ⟨hnd2, by simp, fun x hx y hy => ?_⟩
       rw [List.mem_singleton] at hy
       rintro rfl
       exact h6 (hy ▸ hx)
    ·have hjl : j = c.length := by omega
     subst hjl
     rw [List.take_length] at hi2 hu hnd2
     refine ⟨ar (by omega), ⟨k + 1, rfl, hkl, ?_, hf2, k94, ?_, ?_⟩, by first | (dsimp only; omega) | omega⟩
     ·rw [pq cs k hkl, hck]; exact hi2
     ·intro x hx
      rw [List.take_succ_eq_append_getElem hkl, hck] at hx
      rcases List.mem_append.1 hx with h | h
      ·exact hok x h
      ·rw [List.mem_singleton] at h; subst h; exact ⟨hl1, hl3, hu⟩
     ·rw [pq cs k hkl, hck]; exact hnd2
  ·have hkn : k = cs.length := by omega
   subst hkn
   rw [List.take_length] at hok hnd
   exact ⟨true, rfl, ⟨fun _ => ⟨hep, ⟨hc1, hc3⟩, hok, hnd⟩, fun _ => rfl⟩, k39⟩
theorem yQ (ep : Int) (s ts : Slc) (cs : List (List Int)) (l : List Int) (w : World) (h : Chs w s cs) (hc3 : cs.length <= 3) (ht : dk w ts l) (hll : l.length <= 1000) :
  Calls Tryz.prog fG ⟨[.agg ⟨[.int .i64 ep, s.v]⟩, ts.v]⟩ w fun e w' => e = .returned (.int .i64 (tl cs.length l (min cs.length l.length))) /\ ah w w' := by
 have hsl := h.1
 have htl := ht.1
 refine oU _ _ _ ?_
 unfold kP
 refine ao (fun r4 w5 hr4 hb4 k5 hs4 => ?_)
 have o5 := aq.eS hb4
 refine ⟨s, o5.cell 1 (by simp), ?_⟩
 refine ⟨fun out i w2 => ∃ k : Nat, i = k /\ k <= min cs.length l.length /\ out = tl cs.length l k /\ ah w w2, fun _ i _ => ((cs.length : Int) - i).toNat, ⟨0, rfl, by omega, rfl, k5⟩, ?_⟩
 rintro out i w11 ⟨k, rfl, hk, rfl, k11⟩
 intros
 refine ⟨fun w2 => w2 = w11 /\ k < cs.length /\ k < l.length, ?_, ?_⟩
 ·refine af (fun h1 => af (fun h2 => ⟨rfl, by omega, by omega⟩) (fun h2 => ⟨?_, k11⟩)) (fun h1 => ⟨?_, k11⟩)
  ·rw [show min cs.length l.length = k by omega]
  ·rw [show min cs.length l.length = k by omega]
 ·rintro w51 ⟨rfl, h1, h2⟩
  intros
  obtain ⟨a, ha, hc⟩ := fq (da ht k11) h2
  have e1 : l.getD k 0 = l[k] := by simp [List.getD, h2]
  have hbd := Gk cs.length hc3 l k (by omega)
  refine aa ha ⟨by omega, by omega, _, by rw [show Int.toNat (k : Int) * 1 = k by omega]; exact hc, ?_⟩
  refine ⟨fun t w2 => w2 = w51 /\ t = if 4096 < l[k] then 4096 else l[k], af (fun h3 => ⟨rfl, by rw [if_pos h3]⟩) (fun h3 => ⟨rfl, by rw [if_neg h3]⟩), ?_⟩
  rintro t w65 ⟨rfl, hte⟩
  intros
  have hs : tl cs.length l (k + 1) = if 0 < l[k] then (if tl cs.length l k < (t - 1) * (cs.length : Int) + k + 1 then (t - 1) * (cs.length : Int) + k + 1 else tl cs.length l k) else tl cs.length l k := by
   rw [tl, stepT, e1, hte]
  have ht4 : t <= 4096 := by rw [hte]; split <;> omega
  have hpos : 0 < t ↔ 0 < l[k] := by rw [hte]; split <;> omega
  refine af (fun h3 => ?_) (fun h3 => ?_)
  ·have hm : (t - 1) * ((s.l : Nat) : Int) <= 4096 * 3 := by
    refine Int.le_trans (Int.mul_le_mul_of_nonneg_right (show t - 1 <= (4096 : Int) by omega) (by omega)) ?_
    omega
   have hm0 : 0 <= (t - 1) * ((s.l : Nat) : Int) := Int.mul_nonneg (by omega) (by omega)
   rw [hsl] at hm hm0 ⊢
   rw [if_pos (hpos.1 h3)] at hs
   refine ⟨ar (by omega), ar (by omega), ar (by omega), ar (by omega), af (fun h5 => ?_) (fun h5 => ?_)⟩
   ·rw [if_pos h5] at hs
    exact ⟨ar (by omega), ar (by omega), ar (by omega), ar (by omega), ar (by omega), ⟨k + 1, rfl, by omega, hs.symm, k11⟩, by first | (dsimp only; omega) | omega⟩
   ·rw [if_neg h5] at hs
    exact ⟨ar (by omega), ⟨k + 1, rfl, by omega, hs.symm, k11⟩, by first | (dsimp only; omega) | omega⟩
  ·rw [if_neg (fun hh => h3 (hpos.2 hh))] at hs
   exact ⟨ar (by omega), ⟨k + 1, rfl, by omega, hs.symm, k11⟩, by first | (dsimp only; omega) | omega⟩
end Go.D
namespace Go.D
open Go Go.Proofs
theorem HK {x y : Option Nat} (h : eN x = eN y) : x = y := by
 cases x <;> cases y <;> simp [eN] at h ⊢ <;> omega
theorem jR {x : Option Nat} : eN x = 0 ↔ x = none := by
 cases x <;> simp [eN]; omega
theorem wH {x : Option Nat} {k : Nat} : eN x = ((k + 1 : Nat) : Int) ↔ x = some k := by
 constructor
 ·intro h; exact HK (y := some k) h
 ·rintro rfl; rfl
section
variable {w w' : World} {F F' : Nat -> Prop} {s b : Slc} {c : List Int} {t : List UInt8} {o : Nat} {vs : List Value}
theorem gQ.go (h : gQ w F s c) (he : Ext F w w') (hf : ∀ k, F' k -> F k \/ w.heap.size <= k) : gQ w' F' s c :=
 ⟨oJ h.i he h.f, h.cap, h.ne, fun k hk hh => (hf k hh).elim (h.f k hk) (fun g => by have := kg h.i h.ne k hk; omega)⟩
theorem Txt.go (h : Txt w F b t) (he : Ext F w w') (hf : ∀ k, F' k -> F k \/ w.heap.size <= k) : Txt w' F' b t := by
 have z := he.size
 refine ⟨cC h.tb he (fun k hk => (h.s k hk).2), fun k hk => ⟨by have := (h.s k hk).1; omega, fun hh => ?_⟩, h.l⟩
 exact (hf k hh).elim (h.s k hk).2 (fun g => by have := (h.s k hk).1; omega)
theorem ObF.go (h : ObF w F o vs) (he : Ext F w w') (hf : ∀ k, F' k -> F k \/ w.heap.size <= k) : ObF w' F' o vs :=
 ⟨h.ob.ext he h.f, fun hh => (hf _ hh).elim h.f (fun g => by have := h.ob.lt; omega)⟩
end
theorem HL {k m : Nat} {s : UnS} (h : UPl k m s) {e a : Int} (hr : rdE s e a = none) : 0 < (pgD s a).length /\ (pgD s a).length <= 2048 := by
 unfold rdE readE at hr
 split at hr
 ·cases hr
 ·split at hr
  ·cases hr
  ·split at hr
   ·rename_i hs
    obtain ⟨t, ht⟩ := Option.isSome_iff_exists.1 hs
    unfold pgD
    rw [ht, Option.getD_some]
    unfold pgM at ht
    split at ht
    ·cases ht
    unfold cQ at ht
    obtain ⟨x, hx, rfl⟩ := Option.map_eq_some_iff.1 ht
    have := h.o.Hj x (List.mem_of_find?_eq_some hx)
    exact ⟨this.2.1, this.2.2⟩
   ·cases hr
def Bc (N : Nat) (up : Nat -> Bool) (e a : Int) (t : List UInt8) : Nat -> List Int -> (Nat -> UnS) -> Option Nat × (Nat -> UnS)
 | _, [], S => (none, S)
 | k, n :: l, S => if (putP N up (decide (k = 0)) e a t n S).1 = none then Bc N up e a t (k + 1) l (putP N up (decide (k = 0)) e a t n S).2 else putP N up (decide (k = 0)) e a t n S
theorem vc {N : Nat} {up : Nat -> Bool} {e a : Int} {t : List UInt8} {k : Nat} {n : Int} {l : List Int} {S : Nat -> UnS} : Bc N up e a t k (n :: l) S = if (putP N up (decide (k = 0)) e a t n S).1 = none then Bc N up e a t (k + 1) l (putP N up (decide (k = 0)) e a t n S).2 else putP N up (decide (k = 0)) e a t n S := rfl
theorem qN {N : Nat} {up : Nat -> Bool} {e a : Int} {t : List UInt8} : ∀ (l : List Int) (k : Nat) (S : Nat -> UnS), 0 < k -> Bc N up e a t k l S = othP N up e a t l S
 | [], _, _, _ => rfl
 | n :: l, k, S, hk => by
  rw [vc, u9, decide_eq_false (by omega), qN l (k + 1) _ (by omega)]
theorem Gq {N : Nat} {up : Nat -> Bool} {e a : Int} {t : List UInt8} {c : List Int} {S : Nat -> UnS} (h : 0 < c.length) : Bc N up e a t 0 c S = Gf N up e a t c S := by
 cases c with
 | nil => simp at h
 | cons n l =>
  rw [vc, qN l 1 _ (by omega)]
  rfl
def rq (w : World) (N m : Nat) (r : Nat -> Nat) (f : Nat -> RuF) (us : Slc) (up : Nat -> Bool) (S' : Nat -> UnS) (w' : World) : Prop :=
 ∃ f' P' top', ChR w' N m r f' P' top' S' us up /\ RTo N r f f' w w'
section
variable {w w' : World} {N m m' : Nat} {r : Nat -> Nat} {f f' f'' : Nat -> RuF} {P P' : Nat -> List RuE} {top top' : Nat -> Int} {S S' : Nat -> UnS} {us : Slc} {up : Nat -> Bool} {s sc : Slc} {cs : List (List Int)} {c : List Int} {o : Nat} {vs : List Value}
theorem rq.from (ht : RTo N r f f' w w') {w'' : World} (h : rq w' N m r f' us up S w'') : rq w N m r f us up S w'' := by
 obtain ⟨f2, P2, t2, h1, h2⟩ := h
 exact ⟨f2, P2, t2, h1, ht.trans h2⟩
theorem rq.lift (h : rq w N m r f us up S w') (hm : m <= m') : rq w N m' r f us up S w' := by
 obtain ⟨f2, P2, t2, h1, h2⟩ := h
 exact ⟨f2, P2, t2, h1.lift hm, h2⟩
theorem mg (h : ChR w N m r f P top S us up) (n : Int) :
  Calls Tryz.prog aY ⟨[us.v, .int .i64 n]⟩ w fun e w' => e = .returned (.bool (upB N up n)) /\ w' = w := by
 refine lS _ _ ?_
 unfold iU
 have hsl := h.sl
 have no : ∀ (hh : ¬ (0 <= n /\ n < (N : Int))), upB N up n = false := fun hh => by unfold upB; rw [decide_eq_false hh]; rfl
 refine af (fun h1 => af (fun h2 => ?_) (fun h2 => ⟨by rw [no (by omega)], rfl⟩)) (fun h1 => ⟨by rw [no (by omega)], rfl⟩)
 obtain ⟨i, rfl⟩ : ∃ i : Nat, n = i := ⟨n.toNat, by omega⟩
 rw [Int.toNat_natCast, Nat.mul_one]
 have hi : i < N := by omega
 obtain ⟨a, ha, hc⟩ := h.get hi
 unfold upB
 rw [decide_eq_true (by omega), Int.toNat_natCast]
 cases hu : up i with
 | true =>
  rw [hu, if_pos rfl] at hc
  exact aa ha ⟨by omega, by omega, _, hc, rfl, rfl⟩
 | false =>
  rw [hu, if_neg (by decide)] at hc
  exact aa ha ⟨by omega, by omega, _, hc, rfl, rfl⟩
theorem ChR.ptr (h : ChR w N m r f P top S us up) {n : Int} (hu : upB N up n = true) : n.toNat < N /\ 0 <= n /\ n < ((us.l : Nat) : Int) /\ ∃ a, us.p = some a /\ w.cell? (Addr.add a (n.toNat * 1)) = some (av (r n.toNat)) := by
 obtain ⟨⟨h1, h2⟩, h3⟩ := re.1 hu
 have hi : n.toNat < N := by omega
 obtain ⟨a, ha, hc⟩ := h.get hi
 rw [h3, if_pos rfl] at hc
 have hsl := h.sl
 exact ⟨hi, h1, by omega, a, ha, by rw [Nat.mul_one]; exact hc⟩
theorem gR (h : ChR w N m r f P top S us up) (hm : m <= 2 ^ 19) {i : Nat} (hi : i < N) (e a : Int) :
  Calls Tryz.prog aU ⟨[av (r i), .int .i64 e, .int .i64 a]⟩ w fun x w' => ∃ u : Slc, x = .returned (.tuple ⟨[u.v, .int .i64 (eN (rdE (S i) e a))]⟩) /\ au w' u (if rdE (S i) e a = none then pgD (S i) a else []) /\ (rdE (S i) e a = none -> Txt w' (RB N r f) u (pgD (S i) a)) /\ aN w u /\ ah w w' := by
 have hR := h.F.R i hi
 have hp := h.F.pl i hi
 refine (yO hR (by omega) e a).mono ?_
 rintro x w30 ⟨u, rfl, hb, k30, hf⟩
 have e9 : (if (readE (S i).tr (S i).ep (pgM (S i).U (S i).tr) e a).isNone = true then (pgM (S i).U (S i).tr a).getD [] else []) = if rdE (S i) e a = none then pgD (S i) a else [] := by
  unfold rdE
  cases readE (S i).tr (S i).ep (pgM (S i).U (S i).tr) e a <;> simp
 rw [e9] at hb
 refine ⟨u, rfl, hb, fun h0 => ?_, hf, k30⟩
 rw [if_pos h0] at hb
 obtain ⟨g1, g2⟩ := HL hp.2 h0
 refine ⟨hb, fun k hk => ⟨?_, fun hh => by have := hf k hk; have := h.F.lt.1 k hh; omega⟩, by omega⟩
 obtain ⟨a', ha', rfl⟩ := hk
 obtain ⟨a2, ha2, hc2⟩ := eE hb g1
 rw [ha'] at ha2; cases ha2
 exact uA hc2
theorem qO (h : ChR w N m r f P top S us up) (hm : m <= 2 ^ 18) (e a : Int) (hc : gQ w (RB N r f) sc c) {k : Nat} (hk : k < c.length) (b : Slc) (t : List UInt8) (hb : Txt w (RB N r f) b t) :
  Calls Tryz.prog bx ⟨[us.v, sc.v, .int .i64 (k : Int), .int .i64 e, .int .i64 a, b.v]⟩ w fun x w' => x = .returned (.int .i64 (eN (putP N up (decide (k = 0)) e a t c[k] S).1)) /\ rq w N (m + 1) r f us up (putP N up (decide (k = 0)) e a t c[k] S).2 w' := by
 refine lh _ _ _ _ _ _ ?_
 unfold ij
 have hsl := hc.sl
 obtain ⟨a7, ha7, hcell⟩ := hc.cell hk
 refine aa ha7 ⟨by omega, by omega, _, by rw [Int.toNat_natCast]; exact hcell, (mg h c[k]).mono ?_⟩
 rintro x w10 ⟨rfl, rfl⟩
 unfold putP
 cases hu : upB N up c[k] with
 | false =>
  refine ⟨_, rfl, aj (fun _ => ?_) (fun g => by cases g)⟩
  rw [if_neg (by decide)]
  exact ⟨rfl, f, P, top, h.lift (by omega), RTo.ae (Ext.refl _ _)⟩
 | true =>
  obtain ⟨hi, g1, g2, a14, ha14, hc14⟩ := h.ptr hu
  rw [if_pos rfl]
  generalize hin : (c[k]).toNat = i at hi hc14 ⊢
  have hR := h.F.R i hi
  have hp := h.F.pl i hi
  refine ⟨_, rfl, aj (fun g => by cases g) (fun _ => aa ha7 ⟨by omega, by omega, _, by rw [Int.toNat_natCast]; exact hcell, aa ha14 ⟨g1, g2, _, by rw [hin]; exact hc14, ?_⟩⟩)⟩
  refine (yH hR hp.2.ok (by omega) (by omega) e a b t hb.tb hb.l (fun j hj hh => (hb.s j hj).2 ⟨i, hi, hh⟩)).mono ?_
  rintro x w17 ⟨rfl, f1, P1, t1, hR1, hP1, hto⟩
  obtain ⟨hF17, rt⟩ := h.F.step hi hR1 (m' := m + 1) (by omega) (by omega) (EE hp.2 e a t) hto
  have h17 := h.to hF17 rt
  have b17 := hb.go rt.1 rt.2.1
  generalize hpq : writeP 2 (S i) e a t = p at hF17 h17 ⊢
  refine ⟨_, rfl, fun w2 => w2 = w17 /\ ¬ (decide (k = 0) = true \/ p.1 ≠ some 8), aT (fun g => ?_) (fun g => af (fun g3 => ?_) (fun g3 => ⟨rfl, fun hh => hh.elim (fun q => g3 (by have := of_decide_eq_true q; omega)) (fun q => q (wH.1 g))⟩)), ?_⟩
  ·rw [if_pos (.inr (fun hh => g (by rw [hh]; rfl)))]
   exact ⟨rfl, _, _, _, h17, rt⟩
  ·rw [if_pos (.inl (decide_eq_true (by omega)))]
   exact ⟨rfl, _, _, _, h17, rt⟩
  rintro w20 ⟨rfl, hno⟩
  intros
  rw [if_neg hno]
  refine (gR h17 (by omega) hi e a).mono ?_
  rw [aE]
  rintro x w30 ⟨u, rfl, hbu, _, hfu, k30⟩
  have h30 := h17.ae k30
  have rt30 := rt.trans (RTo.ae k30)
  refine ⟨u, _, rfl, af (fun g => ?_) (fun g => ?_)⟩
  ·have hn := jR.1 g
   rw [if_pos hn] at hbu
   rw [hn]
   refine ⟨_, hbu, _, aG b17.tb k30, aT (fun g4 => ?_) (fun g4 => ?_)⟩
   ·simp only
    rw [if_neg g4]
    exact ⟨rfl, _, _, _, h30, rt30⟩
   ·simp only
    rw [if_pos g4]
    exact ⟨rfl, _, _, _, h30, rt30⟩
  ·cases hr : rdE p.2 e a with
   | none => exact absurd (by rw [hr]; rfl) g
   | some y => exact ⟨rfl, _, _, _, h30, rt30⟩
theorem lq (h : ChR w N m r f P top S us up) (hm : m <= 2 ^ 17) (e a : Int) (hc : gQ w (RB N r f) sc c) (hl : c.length <= 3) {k0 : Nat} (hk0 : k0 <= c.length) (b : Slc) (t : List UInt8) (hb : Txt w (RB N r f) b t) :
  Calls Tryz.prog bb ⟨[us.v, sc.v, .int .i64 (k0 : Int), .int .i64 e, .int .i64 a, b.v]⟩ w fun x w' => x = .returned (.int .i64 (eN (Bc N up e a t k0 (c.drop k0) S).1)) /\ rq w N (m + 3) r f us up (Bc N up e a t k0 (c.drop k0) S).2 w' := by
 refine ky _ _ _ _ _ _ ?_
 unfold gX
 have hsl := hc.sl
 refine ⟨fun i w2 => ∃ (j : Nat) (f2 : Nat -> RuF) (P2 : Nat -> List RuE) (t2 : Nat -> Int) (S2 : Nat -> UnS), i = j /\ k0 <= j /\ j <= c.length /\ ChR w2 N (m + j) r f2 P2 t2 S2 us up /\ RTo N r f f2 w w2 /\ Bc N up e a t k0 (c.drop k0) S = Bc N up e a t j (c.drop j) S2, fun i _ => ((c.length : Int) - i).toNat,
  ⟨k0, f, P, top, S, rfl, Nat.le_refl _, hk0, h.lift (by omega), RTo.ae (Ext.refl _ _), rfl⟩, ?_⟩
 rintro i w10 ⟨j, f2, P2, t2, S2, rfl, hj0, hj, h10, rt, heq⟩
 intros
 refine af (fun h1 => ?_) (fun h1 => ?_)
 ·have hj2 : j < c.length := by omega
  rw [List.drop_eq_getElem_cons hj2, vc] at heq
  refine (qO h10 (by omega) e a (hc.go rt.1 rt.2.1) hj2 b t (hb.go rt.1 rt.2.1)).mono ?_
  rintro x w30 ⟨rfl, f3, P3, t3, h30, rt3⟩
  refine ⟨_, rfl, aT (fun g => ?_) (fun g => ?_)⟩
  ·rw [if_neg (fun hh => g (by rw [hh]; rfl))] at heq
   rw [heq]
   exact ⟨rfl, rq.from rt ⟨f3, P3, t3, h30.lift (by omega), rt3⟩⟩
  ·rw [if_pos (jR.1 g)] at heq
   exact ⟨ar (by omega), ⟨j + 1, f3, P3, t3, _, rfl, by omega, by omega, h30.lift (by omega), rt.trans rt3, heq⟩, by dsimp only; omega⟩
 ·have hjl : j = c.length := by omega
  rw [hjl, List.drop_length] at heq
  rw [heq]
  exact ⟨rfl, f2, P2, t2, h10.lift (by omega), rt⟩
theorem jS {F : Nat -> Prop} (ep : Int) (a : Int) (h : PlF w F s cs) (hcl : cs.length <= 1000) :
  Calls Tryz.prog bF ⟨[.agg ⟨[.int .i64 ep, s.v]⟩, .int .i64 a]⟩ w fun e w' => ah w w' /\ ((∃ j, plE ep cs a = some j /\ e = .returned (.tuple ⟨[(⟨none, 0, 0⟩ : Slc).v, .int .i64 0, .int .i64 (eN (some j))]⟩)) \/
   (plE ep cs a = none /\ ∃ sc : Slc, e = .returned (.tuple ⟨[sc.v, .int .i64 (a / (cs.length : Int)), .int .i64 0]⟩) /\ gQ w' F sc (iM cs a))) := by
 refine oe _ _ _ ?_
 unfold j5
 refine ao (fun r4 w5 hr4 hb4 k4 hs4 => ?_)
 have o4 := aq.eS hb4
 refine ⟨ep, s, o4.row, (kF ep s cs w5 (h.ae k4).chs hcl).mono ?_⟩
 rintro e w9 ⟨b, rfl, hb, k9⟩
 have kk := k4.trans k9
 have o9 := o4.ae k9
 refine ⟨b, rfl, aj (fun g => ?_) (fun g => ?_)⟩
 ·have hn : ¬ bo ep cs := fun hh => by rw [hb.2 hh] at g; cases g
  exact ⟨kk, .inl ⟨3, by unfold plE; rw [if_pos hn], rfl⟩⟩
 have hr : bo ep cs := hb.1 (by simpa using g)
 have bad : ¬ (0 <= a /\ a < 4096) -> plE ep cs a = some 0 := fun hh => by unfold plE; rw [if_neg (by simpa using hr), if_pos hh]
 refine ⟨fun w2 => w2 = w9 /\ 0 <= a /\ a < 4096, af (fun h1 => ⟨kk, .inl ⟨0, bad (by omega), rfl⟩⟩) (fun h1 => af (fun h2 => ⟨kk, .inl ⟨0, bad (by omega), rfl⟩⟩) (fun h2 => ⟨rfl, by omega, by omega⟩)), ?_⟩
 rintro w12 ⟨rfl, ha⟩
 intros
 have kd := kk.drew
 obtain ⟨i, hi, e1, e2, hok, e3⟩ := A6 hr (a := a)
 obtain ⟨a24, sl, ha24, hcell, hI⟩ := (h.ae kd).at hi hok.1
 have hl := h.l
 have hl2 : ((s.l : Nat) : Int) = (cs.length : Int) := by rw [hl]
 refine ⟨s, o9.cell 1 (by simp), s, (o9.ae (Ext.drew _ _)).cell 1 (by simp), ?_⟩
 rw [hl2]
 refine ⟨by omega, by omega, aa ha24 ⟨by omega, by omega, sl, by rw [e1]; exact hcell, by omega, by omega, ar (by omega), kd, .inr ⟨?_, sl, rfl, by rw [e2]; exact hI⟩⟩⟩
 unfold plE
 rw [if_neg (by simpa using hr), if_neg (by simpa using ha)]
end
end Go.D
namespace Go.D
open Go Go.Proofs
def rJ (w : World) (N m : Nat) (r : Nat -> Nat) (f : Nat -> RuF) (us : Slc) (up : Nat -> Bool) (p : Option Nat × (Nat -> UnS)) (x : Ending) (w' : World) : Prop :=
 x = .returned (.int .i64 (eN p.1)) /\ rq w N m r f us up p.2 w'
def Cy (w : World) (N m : Nat) (r : Nat -> Nat) (f : Nat -> RuF) (us : Slc) (up : Nat -> Bool) (p : Cr) (x : Ending) (w' : World) : Prop :=
 ∃ u : Slc, x = .returned (.tuple ⟨[u.v, .int .i64 (eN p.1)]⟩) /\ au w' u p.2.1 /\ rq w N m r f us up p.2.2 w'
section
variable {w w' : World} {N m m' : Nat} {r : Nat -> Nat} {f f' f'' : Nat -> RuF} {P P' : Nat -> List RuE} {top top' : Nat -> Int} {S S' : Nat -> UnS} {us : Slc} {up : Nat -> Bool} {s sc : Slc} {cs : List (List Int)} {c : List Int} {o : Nat} {vs : List Value}
theorem ChR.obj (h : ChR w N m r f P top S us up) {T : TypeId} {w1 : World} (hk : ah w w1) (ho : o = w.heap.size) (hb : w1.heap[o]? = some (.cells ⟨vs⟩ T)) : ObF w1 (RB N r f) o vs :=
 ⟨aq.eS hb, fun hh => by have := h.F.lt.1 o hh; omega⟩
theorem yR (h : ChR w N m r f P top S us up) (hm : m <= 2 ^ 17) (e a : Int) (hc : gQ w (RB N r f) sc c) (hl : c.length <= 3) (b : Slc) (t : List UInt8) (hb : Txt w (RB N r f) b t) :
  Calls Tryz.prog bg ⟨[us.v, .int .i64 e, sc.v, .int .i64 a, b.v]⟩ w fun x w' => rJ w N (m + 3) r f us up (othP N up e a t c.tail S) x w' := by
 refine nt _ _ _ _ _ ?_
 unfold jA
 refine (lq h hm e a hc hl (k0 := 1) hc.ne b t hb).mono ?_
 rintro x w7 ⟨rfl, hx⟩
 rw [List.drop_one, qN _ 1 _ (by omega)] at hx ⊢
 exact ⟨_, rfl, rfl, hx⟩
theorem wk (h : ChR w N m r f P top S us up) (hm : m <= 2 ^ 16) (ep a : Int) (hP : PlF w (RB N r f) s cs) (hcl : cs.length <= 1000) (b : Slc) (t : List UInt8) (hb : Txt w (RB N r f) b t) :
  Calls Tryz.prog bh ⟨[us.v, .agg ⟨[.int .i64 ep, s.v]⟩, .int .i64 a, b.v]⟩ w fun x w' => rJ w N (m + 4) r f us up (wrA N up ep cs a t S) x w' := by
 refine og _ _ _ _ _ ?_
 unfold j6
 refine ao (fun r6 w7 hr6 hb6 k6 hs6 => ?_)
 have o7 := h.obj k6 hr6 hb6
 refine ⟨ep, s, o7.ob.row, (jS ep a (hP.ae k6) hcl).mono ?_⟩
 rintro e w11 ⟨k11, ⟨j, hj, rfl⟩ | ⟨hn, sc, rfl, hI⟩⟩
 ·refine ⟨_, _, _, rfl, aT (fun _ => ?_) (fun g => by have := jR.1 g; cases this)⟩
  unfold wrA
  rw [hj, if_neg (by simp)]
  exact ⟨rfl, f, P, top, (h.ae (k6.trans k11)).lift (by omega), RTo.ae (k6.trans k11)⟩
 have kk := k6.trans k11
 have hlen := lv hn
 unfold wrA
 rw [if_pos hn]
 refine ⟨_, _, _, rfl, aT (fun g => absurd rfl g) (fun _ => ⟨_, (o7.ae k11).ob.cell 0 (by simp), ?_⟩)⟩
 refine (lq (h.ae kk) (by omega) ep (a / (cs.length : Int)) hI hlen.1 (k0 := 0) (by omega) b t (hb.ae kk)).mono ?_
 rintro x w17 ⟨rfl, hx⟩
 rw [List.drop_zero, Gq hI.ne] at hx ⊢
 exact ⟨_, rfl, rfl, (rq.from (RTo.ae kk) hx).lift (by omega)⟩
theorem yS (h : ChR w N m r f P top S us up) (hm : m <= 2 ^ 16) (ep a k : Int) (hP : PlF w (RB N r f) s cs) (hcl : cs.length <= 1000) (b : Slc) (t : List UInt8) (hb : Txt w (RB N r f) b t) :
  Calls Tryz.prog bn ⟨[us.v, .agg ⟨[.int .i64 ep, s.v]⟩, .int .i64 a, .int .i64 k, b.v]⟩ w fun x w' => rJ w N (m + 4) r f us up (stA N up ep cs a k t S) x w' := by
 refine oV _ _ _ _ _ _ ?_
 unfold kQ
 refine ao (fun r6 w7 hr6 hb6 k6 hs6 => ?_)
 have o7 := h.obj k6 hr6 hb6
 refine ⟨ep, s, o7.ob.row, (jS ep a (hP.ae k6) hcl).mono ?_⟩
 rintro e w11 ⟨k11, ⟨j, hj, rfl⟩ | ⟨hn, sc, rfl, hI⟩⟩
 ·refine ⟨_, _, _, rfl, aT (fun _ => ?_) (fun g => by have := jR.1 g; cases this)⟩
  unfold stA
  rw [hj, if_neg (by simp)]
  exact ⟨rfl, f, P, top, (h.ae (k6.trans k11)).lift (by omega), RTo.ae (k6.trans k11)⟩
 have kk := k6.trans k11
 have hsl := hI.sl
 unfold stA
 rw [if_pos hn]
 have bad : (k < 0 \/ ((iM cs a).length : Int) <= k) -> rJ w N (m + 4) r f us up (if k < 0 \/ ((iM cs a).length : Int) <= k then (some 0, S) else putP N up (decide (k = 0)) ep (a / (cs.length : Int)) t ((iM cs a).getD k.toNat 0) S) (.returned (.int .i64 1)) w11 := fun hb => by
  rw [if_pos hb]
  exact ⟨rfl, f, P, top, (h.ae kk).lift (by omega), RTo.ae kk⟩
 refine ⟨_, _, _, rfl, aT (fun g => absurd rfl g) (fun _ => af (fun h1 => bad (.inl h1)) (fun h1 => af (fun h2 => bad (.inr (by omega))) (fun h2 => ⟨_, (o7.ae k11).ob.cell 0 (by simp), ?_⟩)))⟩
 obtain ⟨kn, rfl⟩ : ∃ kn : Nat, k = kn := ⟨k.toNat, by omega⟩
 have hk : kn < (iM cs a).length := by omega
 rw [if_neg (by omega)]
 have e9 : (iM cs a).getD (kn : Int).toNat 0 = (iM cs a)[kn] := by rw [Int.toNat_natCast, List.getD_eq_getElem?_getD, List.getElem?_eq_getElem hk, Option.getD_some]
 have e8 : decide ((kn : Int) = 0) = decide (kn = 0) := by rw [decide_eq_decide]; omega
 rw [e9, e8]
 refine (qO (h.ae kk) (by omega) ep (a / (cs.length : Int)) hI hk b t (hb.ae kk)).mono ?_
 rintro x w17 ⟨rfl, hx⟩
 exact ⟨_, rfl, rfl, (rq.from (RTo.ae kk) hx).lift (by omega)⟩
theorem rK {N : Nat} {e a : Int} {t : List UInt8} {c : List Int} {x : Ending} {b : Slc} {wz : World} (hb : Txt w (RB N r f) b t) {w2 : World} (rtz : RTo N r f'' f wz w) (hx : rJ w N m' r f us up (othP N up e a t c S) x w2) :
  ∃ n57 : Int, x = .returned (.int .i64 n57) /\ BIf (!decide (n57 = (0 : Int))) (Cy wz N m' r f'' us up (sQ N up e a t c S) (.returned (.tuple ⟨[(⟨none, 0, 0⟩ : Slc).v, .int .i64 n57]⟩)) w2) (Cy wz N m' r f'' us up (sQ N up e a t c S) (.returned (.tuple ⟨[b.v, .int .i64 0]⟩)) w2) := by
 obtain ⟨rfl, f3, P3, t3, h3, rt3⟩ := hx
 refine ⟨_, rfl, ?_⟩
 unfold sQ
 cases hp : (othP N up e a t c S).1 with
 | some x =>
  refine aT (fun _ => ?_) (fun g => by have := jR.1 g; cases this)
  rw [if_neg (by simp)]
  exact ⟨_, rfl, jt _, f3, P3, t3, h3, rtz.trans rt3⟩
 | none =>
  refine aT (fun g => absurd rfl g) (fun _ => ?_)
  rw [if_pos rfl]
  exact ⟨b, rfl, (hb.go rt3.1 rt3.2.1).tb, f3, P3, t3, h3, rtz.trans rt3⟩
theorem yT (h : ChR w N m r f P top S us up) (hm : m <= 2 ^ 16) (ep a : Int) (hP : PlF w (RB N r f) s cs) (hcl : cs.length <= 1000) :
  Calls Tryz.prog fz ⟨[us.v, .agg ⟨[.int .i64 ep, s.v]⟩, .int .i64 a]⟩ w fun x w' => Cy w N (m + 4) r f us up (rdA N up ep cs a S) x w' := by
 refine oW _ _ _ _ ?_
 unfold kR
 refine ao (fun r5 w6 hr5 hb5 k5 hs5 => ?_)
 have o6 := h.obj k5 hr5 hb5
 refine ⟨ep, s, o6.ob.row, (jS ep a (hP.ae k5) hcl).mono ?_⟩
 rintro e w10 ⟨k10', ⟨j, hj, rfl⟩ | ⟨hn, sc, rfl, hI⟩⟩
 ·refine ⟨_, _, _, rfl, aT (fun _ => ?_) (fun g => by have := jR.1 g; cases this)⟩
  unfold rdA
  rw [hj, if_neg (by simp)]
  exact ⟨_, rfl, jt _, f, P, top, (h.ae (k5.trans k10')).lift (by omega), RTo.ae (k5.trans k10')⟩
 have k10 : ah w w10 := k5.trans k10'
 have h10 := h.ae k10
 have o10 := o6.ae k10'
 have hlen := lv hn
 have hsl := hI.sl
 have hne := hI.ne
 unfold rdA
 rw [if_pos hn]
 generalize a / (cs.length : Int) = at_
 generalize hcc : iM cs a = c at hI hlen hsl hne ⊢
 have stay : ∀ {w2 : World} {u : Slc} {e' : Option Nat} {t : List UInt8}, ah w w2 -> au w2 u t -> Cy w N (m + 4) r f us up (e', t, S) (.returned (.tuple ⟨[u.v, .int .i64 (eN e')]⟩)) w2 := fun {w2 u e' t} hk hb => ⟨u, rfl, hb, f, P, top, (h.ae hk).lift (by omega), RTo.ae hk⟩
 have hlast : c.getD (c.length - 1) 0 = c[c.length - 1]'(by omega) := by rw [List.getD_eq_getElem?_getD, List.getElem?_eq_getElem (by omega), Option.getD_some]
 have eI : Int.toNat (((sc.l : Nat) : Int) - 1) = c.length - 1 := by omega
 have lastC : ∀ {w2 : World}, ah w10 w2 -> ∃ a14, sc.p = some a14 /\ w2.cell? (Addr.add a14 ((c.length - 1) * 1)) = some (.int .i64 (c.getD (c.length - 1) 0)) := fun hk => by
  obtain ⟨a14, ha14, hc14⟩ := (hI.ae hk).cell (i := c.length - 1) (by omega)
  rw [<- hlast] at hc14
  exact ⟨a14, ha14, hc14⟩
 obtain ⟨a14, ha14, hc14⟩ := lastC (Ext.refl fp w10)
 refine ⟨_, _, _, rfl, aT (fun g => absurd rfl g) (fun _ => ⟨ar (by omega), aa ha14 ⟨by omega, by omega, _, by rw [eI]; exact hc14, (mg h10 (c.getD (c.length - 1) 0)).mono ?_⟩⟩)⟩
 unfold DP
 rintro x w17 ⟨rfl, rfl⟩
 cases hu : upB N up (c.getD (c.length - 1) 0) with
 | false =>
  rw [if_neg (by decide)]
  exact ⟨_, rfl, aj (fun _ => stay (e' := some 11) k10 (jt _)) (fun g => by cases g)⟩
 | true =>
 rw [if_pos rfl]
 have kd17 : ah w17 (World.drew w17) := Ext.drew _ _
 obtain ⟨a19, ha19, hc19⟩ := lastC kd17
 have hd17 := h10.ae kd17
 obtain ⟨hi, g1, g2, a21, ha21, hc21⟩ := hd17.ptr hu
 generalize hin : (c.getD (c.length - 1) 0).toNat = i at hi hc21 ⊢
 refine ⟨_, rfl, aj (fun g => by cases g) (fun _ => ⟨ar (by omega), aa ha19 ⟨by omega, by omega, _, by rw [eI]; exact hc19, aa ha21 ⟨g1, g2, _, by rw [hin]; exact hc21, _, (o10.ae kd17).ob.cell 0 (by simp), ?_⟩⟩⟩)⟩
 refine (gR hd17 (by omega) hi ep at_).mono ?_
 rintro x w25 ⟨u, rfl, hbu, hTu, hfu, k25'⟩
 have kk25 := kd17.trans k25'
 have k25 := k10.trans kk25
 have h25 := h.ae k25
 refine ⟨u, _, rfl, fun w2 => w2 = w25 /\ rdE (S i) ep at_ = some 9 /\ c.length ≠ 1, aT (fun g3 => ?_) (fun g3 => af (fun g4 => ?_) (fun g4 => ⟨rfl, wH.1 g3, by omega⟩)), ?_⟩
 ·by_cases h0 : rdE (S i) ep at_ = none
  ·rw [if_pos h0] at hbu ⊢
   rw [h0]
   exact stay (e' := none) k25 hbu
  ·rw [if_neg h0] at hbu ⊢
   rw [if_pos (.inl (fun hh => g3 (by rw [hh]; rfl)))]
   exact stay k25 hbu
 ·have h9 := wH (k := 9).1 g3
  rw [if_neg (by rw [h9]; simp)] at hbu ⊢
  rw [if_pos (.inr (by omega))]
  exact stay k25 hbu
 rintro w29 ⟨rfl, h9, hc1⟩
 intros
 rw [if_neg (by rw [h9]; simp), if_neg (fun hh => hh.elim (fun g => g h9) hc1)]
 have hI29 := hI.ae kk25
 obtain ⟨a40, ha40, hc40⟩ := hI29.first
 refine aa ha40 ⟨by omega, by omega, _, hc40, (mg h25 (c.getD 0 0)).mono ?_⟩
 rintro x w43 ⟨rfl, rfl⟩
 cases hu2 : upB N up (c.getD 0 0) with
 | false =>
  rw [if_neg (by decide)]
  exact ⟨_, rfl, aj (fun _ => stay (e' := some 11) k25 (jt _)) (fun g => by cases g)⟩
 | true =>
 rw [if_pos rfl]
 have kd43 : ah w43 (World.drew w43) := Ext.drew _ _
 have hd43 := h25.ae kd43
 obtain ⟨a45, ha45, hc45⟩ := (hI29.ae kd43).first
 obtain ⟨hi2, q1, q2, a47, ha47, hc47⟩ := hd43.ptr hu2
 generalize hin2 : (c.getD 0 0).toNat = i2 at hi2 hc47 ⊢
 have o43 := (o10.ae kk25).ae kd43
 refine ⟨_, rfl, aj (fun g => by cases g) (fun _ => aa ha45 ⟨by omega, by omega, _, hc45, aa ha47 ⟨q1, q2, _, by rw [hin2]; exact hc47, _, o43.ob.cell 0 (by simp), ?_⟩⟩)⟩
 refine (gR hd43 (by omega) hi2 ep at_).mono ?_
 rintro x w51 ⟨u2, rfl, hbu2, hTu2, hfu2, k51'⟩
 have kk51 := kd43.trans k51'
 have k51 := k25.trans kk51
 have h51 := h.ae k51
 refine ⟨u2, _, rfl, ?_⟩
 cases hr : rdE (S i2) ep at_ with
 | some x =>
  rw [if_neg (by simp)]
  exact aT (fun _ => stay k51 (jt _)) (fun g => by have := jR.1 g; cases this)
 | none =>
  rw [if_pos rfl]
  refine aT (fun g => absurd rfl g) (fun _ => ⟨_, (o43.ae k51').ob.cell 0 (by simp), ?_⟩)
  refine (lq h51 (by omega) ep at_ (hI29.ae kk51) hlen.1 (k0 := 1) hne u2 _ (hTu2 hr)).mono ?_
  rintro x w56 ⟨rfl, hx⟩
  rw [List.drop_one, qN _ 1 _ (by omega)] at hx ⊢
  exact rK (hTu2 hr) (RTo.ae k51) ⟨rfl, hx.lift (by omega)⟩
theorem yU (h : ChR w N m r f P top S us up) (hm : m <= 2 ^ 16) (ep a : Int) (hP : PlF w (RB N r f) s cs) (hcl : cs.length <= 1000) :
  Calls Tryz.prog fC ⟨[us.v, .agg ⟨[.int .i64 ep, s.v]⟩, .int .i64 a]⟩ w fun x w' => Cy w N (m + 4) r f us up (flA N up ep cs a S) x w' := by
 refine oX _ _ _ _ ?_
 unfold kS
 refine ao (fun r5 w6 hr5 hb5 k5 hs5 => ?_)
 have o6 := h.obj k5 hr5 hb5
 refine ⟨ep, s, o6.ob.row, (jS ep a (hP.ae k5) hcl).mono ?_⟩
 rintro e w10 ⟨k10', ⟨j, hj, rfl⟩ | ⟨hn, sc, rfl, hI⟩⟩
 ·refine ⟨_, _, _, rfl, aT (fun _ => ?_) (fun g => by have := jR.1 g; cases this)⟩
  unfold flA
  rw [hj, if_neg (by simp)]
  exact ⟨_, rfl, jt _, f, P, top, (h.ae (k5.trans k10')).lift (by omega), RTo.ae (k5.trans k10')⟩
 have k10 : ah w w10 := k5.trans k10'
 have h10 := h.ae k10
 have o10 := o6.ae k10'
 have hlen := lv hn
 have hsl := hI.sl
 have hne := hI.ne
 unfold flA
 rw [if_pos hn]
 generalize a / (cs.length : Int) = at_
 generalize hcc : iM cs a = c at hI hlen hsl hne ⊢
 refine ⟨_, _, _, rfl, aT (fun g => absurd rfl g) (fun _ => ao (fun r14 w15 hr14 hb14 k15 hs14 => ?_))⟩
 have ho : Own w15 ⟨some ⟨r14, 0, none⟩, 1, 1⟩ 1 (([0] : List UInt8).map aS) := Own.new (sz := 1) (n := 1) hb14 (.inl (by simp)) rfl
 have h15 := h10.ae k15
 have lt10 := h10.F.lt
 have b15 : Txt w15 (RB N r f) ⟨some ⟨r14, 0, none⟩, 1, 1⟩ [0] := ⟨ho.bytes, fun k hk => ⟨cD ho k hk, fun hh => by
  obtain ⟨a', ha', rfl⟩ := hk
  cases ha'
  have := lt10.1 _ hh
  simp only at this; omega⟩, by simp⟩
 have hI15 := hI.ae k15
 have o15 := o10.ae k15
 refine ⟨_, o15.ob.cell 0 (by simp), ?_⟩
 refine (qO h15 (by omega) ep at_ hI15 (k := 0) hne _ [0] b15).mono ?_
 have e0 : c[0] = c.getD 0 0 := by rw [List.getD_eq_getElem?_getD, List.getElem?_eq_getElem hne, Option.getD_some]
 rw [e0, decide_eq_true rfl]
 rintro x w18 ⟨rfl, f3, P3, t3, h18, rt3⟩
 have k15w := k10.trans k15
 have rt18 : RTo N r f f3 w w18 := (RTo.ae k15w).trans rt3
 have o18 := o15.go rt3.1 rt3.2.1
 have hI18 := hI15.go rt3.1 rt3.2.1
 have b18 := b15.go rt3.1 rt3.2.1
 have hupq : (putP N up true ep at_ [0] (c.getD 0 0) S).1 = some 8 -> upB N up (c.getD 0 0) = true := Gm
 unfold Cs
 generalize hq : putP N up true ep at_ [0] (c.getD 0 0) S = q at h18 hupq ⊢
 refine ⟨_, rfl, fun n b w2 => ∃ (e' : Option Nat) (t' : List UInt8), n = eN e' /\ ObF w2 (RB N r f3) r5 [.int .i64 ep, s.v] /\ gQ w2 (RB N r f3) sc c /\ ChR w2 N (m + 1) r f3 P3 t3 q.2 us up /\ RTo N r f f3 w w2 /\ (e' = none -> Txt w2 (RB N r f3) b t') /\
   rI N up ep at_ c q = (if e' = none then sQ N up ep at_ t' c.tail q.2 else (e', [], q.2)), af (fun g => ?_) (fun g => ?_), ?_⟩
 ·have h8 := wH (k := 8).1 g
  have kd : ah w18 (World.drew w18) := Ext.drew _ _
  have hd := h18.ae kd
  obtain ⟨a21, ha21, hc21⟩ := (hI18.ae kd).first
  obtain ⟨hi, q1, q2, a23, ha23, hc23⟩ := hd.ptr (hupq h8)
  refine aa ha21 ⟨by omega, by omega, _, hc21, aa ha23 ⟨q1, q2, _, hc23, _, (o18.ae kd).ob.cell 0 (by simp), ?_⟩⟩
  refine (gR hd (by omega) hi ep at_).mono ?_
  rintro x w27 ⟨u, rfl, hbu, hTu, hfu, k27'⟩
  have k27 := kd.trans k27'
  refine ⟨u, _, rfl, rdE (q.2 (c.getD 0 0).toNat) ep at_, pgD (q.2 (c.getD 0 0).toNat) at_, rfl, o18.ae k27, hI18.ae k27, h18.ae k27, rt18.trans (RTo.ae k27), hTu, ?_⟩
  unfold rI
  rw [if_neg (by rw [h8]; simp), if_pos h8]
 ·refine ⟨q.1, [0], rfl, o18, hI18, h18, rt18, fun _ => b18, ?_⟩
  unfold rI
  have h8 : q.1 ≠ some 8 := fun hh => g (by rw [hh]; rfl)
  rw [if_neg h8]
 rintro n b w32 ⟨e', t', rfl, o32, hI32, h32, rt32, hb32, heq⟩
 intros
 rw [heq]
 cases e' with
 | some x =>
  refine af (fun g => by have := jR.1 g; cases this) (fun g => aT (fun _ => ?_) (fun g2 => absurd g2 g))
  rw [if_neg (by simp)]
  exact ⟨_, rfl, jt _, f3, P3, t3, h32.lift (by omega), rt32⟩
 | none =>
  refine af (fun _ => ⟨_, o32.ob.cell 0 (by simp), ?_⟩) (fun g => absurd rfl g)
  rw [if_pos rfl]
  refine (lq h32 (by omega) ep at_ hI32 hlen.1 (k0 := 1) hne b t' (hb32 rfl)).mono ?_
  rintro x w50 ⟨rfl, hx⟩
  rw [List.drop_one, qN _ 1 _ (by omega)] at hx ⊢
  exact rK (hb32 rfl) rt32 ⟨rfl, hx.lift (by omega)⟩
end
end Go.D
namespace Go.D
open Go Go.Proofs
theorem He {n i : Nat} {to own : Int} (hn : 1 <= n /\ n <= 3) (hi : i < n) (ht : 0 <= to /\ to <= 4096) (ho : 0 <= own) : own * (n : Int) + i < to ↔ own < pn n i to := by
 unfold pn
 rcases (by omega : n = 1 \/ n = 2 \/ n = 3) with rfl | rfl | rfl <;> omega
theorem Hf {n i : Nat} {to : Int} (hn : 1 <= n /\ n <= 3) (hi : i < n) (ht : 0 <= to /\ to <= 4096) : 0 <= pn n i to /\ pn n i to <= 5000 := by
 unfold pn
 rcases (by omega : n = 1 \/ n = 2 \/ n = 3) with rfl | rfl | rfl <;> omega
theorem vM {N : Nat} {up : Nat -> Bool} {S : Nat -> UnS} {l : List Int} {q : List (List Int)} : tailsP N up S (l :: q) = if upB N up (l.getD 0 0) then (tailsP N up S q).map (((S (l.getD 0 0).toNat).T : Int) :: ·) else none := rfl
section
variable {w w' : World} {N m m' : Nat} {r : Nat -> Nat} {f f' f'' : Nat -> RuF} {P P' : Nat -> List RuE} {top top' : Nat -> Int} {S S' : Nat -> UnS} {us : Slc} {up : Nat -> Bool} {s sc : Slc} {cs : List (List Int)} {c : List Int} {o : Nat} {vs : List Value}
theorem yV (h : ChR w N m r f P top S us up) (hm : m <= 2 ^ 16) (ep to : Int) (hP : PlF w (RB N r f) s cs) (hcl : cs.length <= 1000) :
  Calls Tryz.prog fE ⟨[us.v, .agg ⟨[.int .i64 ep, s.v]⟩, .int .i64 to]⟩ w fun x w' => rJ w N (m + 9) r f us up (trA N up ep cs to S) x w' := by
 refine oY _ _ _ _ ?_
 unfold kT
 refine ao (fun r5 w6 hr5 hb5 k5 hs5 => ?_)
 have o6 := h.obj k5 hr5 hb5
 refine ⟨ep, s, o6.ob.row, (kF ep s cs w6 (hP.ae k5).chs hcl).mono ?_⟩
 rintro e w10 ⟨b, rfl, hb, k10'⟩
 have k10 := k5.trans k10'
 have h10 := h.ae k10
 refine ⟨b, rfl, aj (fun h1 => ?_) (fun h1 => ?_)⟩
 ·have hn : ¬ bo ep cs := fun hh => by rw [hb.2 hh] at h1; cases h1
  unfold trA
  rw [if_pos hn]
  exact ⟨rfl, f, P, top, h10.lift (by omega), RTo.ae k10⟩
 have hr : bo ep cs := hb.1 (by simpa using h1)
 have bad : (to < 0 \/ 4096 < to) -> rJ w N (m + 9) r f us up (trA N up ep cs to S) (.returned (.int .i64 1)) w10 := fun hb => by
  unfold trA
  rw [if_neg (by simpa using hr), if_pos hb]
  exact ⟨rfl, f, P, top, h10.lift (by omega), RTo.ae k10⟩
 refine ⟨fun w2 => w2 = w10 /\ 0 <= to /\ to <= 4096, af (fun h2 => bad (.inl h2)) (fun h2 => af (fun h3 => bad (.inr h3)) (fun h3 => ⟨rfl, by omega, by omega⟩)), ?_⟩
 rintro w13 ⟨rfl, ht⟩
 intros
 have o16 := o6.ae k10'
 have hP16 := hP.ae k10
 have hl3 := hr.2.1
 have hsl := hP.l
 unfold trA
 rw [if_neg (by simpa using hr), if_neg (by omega)]
 refine ⟨s, o16.ob.cell 1 (by simp), fun i w2 => ∃ (j : Nat) (f2 : Nat -> RuF) (P2 : Nat -> List RuE) (t2 : Nat -> Int) (S2 : Nat -> UnS), i = j /\ j <= cs.length /\ ChR w2 N (m + 3 * j) r f2 P2 t2 S2 us up /\ RTo N r f f2 w w2 /\ ObF w2 (RB N r f2) r5 [.int .i64 ep, s.v] /\ PlF w2 (RB N r f2) s cs /\
   A0 N up ep to cs.length 0 cs S = A0 N up ep to cs.length j (cs.drop j) S2, fun i _ => ((cs.length : Int) - i).toNat, ⟨0, f, P, top, S, rfl, by omega, h10, RTo.ae k10, o16, hP16, rfl⟩, ?_⟩
 rintro i w25 ⟨j, f2, P2, t2, S2, rfl, hj, h25, rt25, o25, hP25, heq⟩
 intros
 refine af (fun h1 => ?_) (fun h1 => ?_)
 ·have hjl : j < cs.length := by omega
  obtain ⟨hc1, hc3, hcu⟩ := hr.2.2.1 _ (List.getElem_mem hjl)
  obtain ⟨a70, sl, ha70, hcell, hI⟩ := hP25.at hjl hc1
  have hisl := hI.sl
  rw [List.drop_eq_getElem_cons hjl, vb] at heq
  obtain ⟨hX0, hX1⟩ := Hf hl3 hjl ht
  have hiff : ∀ {own : Int}, 0 <= own -> (own * (cs.length : Int) + j < to ↔ own < pn cs.length j to) := fun ho => He hl3 hjl ht ho
  generalize hX : pn cs.length j to = X at hX0 hX1 hiff heq
  have hls : ((s.l : Nat) : Int) = (cs.length : Int) := by rw [hsl]
  have hlen3 : (cs.length : Int) = 1 \/ (cs.length : Int) = 2 \/ (cs.length : Int) = 3 := by omega
  refine aa ha70 ⟨by omega, by omega, sl, by rw [Int.toNat_natCast]; exact hcell, fun own w2 => w2 = w25 /\ 0 <= own /\ own <= X, fun own _ => (X - own).toNat, ⟨rfl, by omega, hX0⟩, ?_⟩
  rintro own w75 ⟨rfl, ho0, ho1⟩
  intros
  refine ⟨s, o25.ob.cell 1 (by simp), ?_⟩
  rw [hls]
  refine ⟨ar (by rcases hlen3 with e | e | e <;> rw [e] <;> omega), ar (by rcases hlen3 with e | e | e <;> rw [e] <;> omega), af (fun h2 => ?_) (fun h2 => ?_)⟩
  ·have := (hiff ho0).1 h2
   exact ⟨ar (by omega), ⟨rfl, by omega, by omega⟩, by dsimp only; omega⟩
  have hoX : own = X := by
   have : ¬ own < X := fun hh => h2 ((hiff ho0).2 hh)
   omega
  subst hoX
  refine ⟨fun i w2 => ∃ (q : Nat) (f4 : Nat -> RuF) (P4 : Nat -> List RuE) (t4 : Nat -> Int) (S4 : Nat -> UnS), i = q /\ q <= cs[j].length /\ ChR w2 N (m + 3 * j + q) r f4 P4 t4 S4 us up /\ RTo N r f f4 w w2 /\ ObF w2 (RB N r f4) r5 [.int .i64 ep, s.v] /\ PlF w2 (RB N r f4) s cs /\ gQ w2 (RB N r f4) sl cs[j] /\
   uy N up ep own cs[j] S2 = uy N up ep own (cs[j].drop q) S4, fun i _ => ((cs[j].length : Int) - i).toNat, ⟨0, f2, P2, t2, S2, rfl, by omega, h25, rt25, o25, hP25, hI, rfl⟩, ?_⟩
  rintro i w91 ⟨q, f4, P4, t4, S4, rfl, hq, h91, rt91, o91, hP91, hI91, heq2⟩
  intros
  refine af (fun h3 => ?_) (fun h3 => ?_)
  ·have hql : q < cs[j].length := by omega
   obtain ⟨a114, ha114, hc114⟩ := hI91.cell hql
   refine aa ha114 ⟨by omega, h3, _, by rw [Int.toNat_natCast]; exact hc114, (mg h91 cs[j][q]).mono ?_⟩
   rw [List.drop_eq_getElem_cons hql, va] at heq2
   rintro x w117 ⟨rfl, rfl⟩
   cases hu : upB N up cs[j][q] with
   | false =>
    refine ⟨_, rfl, aj (fun _ => ?_) (fun g => by cases g)⟩
    rw [hu, if_neg (by decide)] at heq2
    rw [heq2, if_neg (by simp)] at heq
    rw [heq]
    exact ⟨rfl, f4, P4, t4, h91.lift (by omega), rt91⟩
   | true =>
    rw [hu, if_pos rfl] at heq2
    have kd : ah w117 (World.drew w117) := Ext.drew _ _
    have hd := h91.ae kd
    obtain ⟨hi, q1, q2, a119, ha119, hc119⟩ := hd.ptr hu
    generalize hin : (cs[j][q]).toNat = i at hi heq2 hc119
    refine ⟨_, rfl, aj (fun g => by cases g) (fun _ => aa ha119 ⟨q1, q2, _, by first | exact hc119 | (rw [hin]; exact hc119), _, (o91.ae kd).ob.cell 0 (by simp), ?_⟩)⟩
    have hp := hd.F.pl i hi
    refine (zE (hd.F.R i hi) hp.2.ok (by omega) (by omega) ep own).mono ?_
    rintro x w123 ⟨rfl, f1, hR1, hto⟩
    obtain ⟨hF123, rtn⟩ := hd.F.step hi hR1 (m' := m + 3 * j + q + 1) (by omega) (by omega) (Ge hp.2 ep own) hto
    have h123 := hd.to hF123 rtn
    have rt123 := (rt91.trans (RTo.ae kd)).trans rtn
    have o123 := (o91.ae kd).go rtn.1 rtn.2.1
    refine ⟨_, rfl, ?_⟩
    generalize hpq : jo 2 (S4 i) ep own = p at h123 heq2 ⊢
    cases hp1 : p.1 with
    | some x =>
     refine aT (fun _ => ?_) (fun g => by have := jR.1 g; cases this)
     rw [hp1, if_neg (by simp)] at heq2
     rw [heq2, if_neg (by simp)] at heq
     rw [heq]
     exact ⟨rfl, _, _, _, h123.lift (by omega), rt123⟩
    | none =>
     rw [hp1, if_pos rfl] at heq2
     exact aT (fun g => absurd rfl g) (fun _ => ⟨ar (by omega), ⟨q + 1, _, _, _, _, rfl, hql, h123.lift (by omega), rt123, o123, (hP91.ae kd).ext rtn.1 (fun _ h => h) rtn.2.1, (hI91.ae kd).go rtn.1 rtn.2.1, heq2⟩, by dsimp only; omega⟩)
  ·have hqe : q = cs[j].length := by omega
   rw [hqe, List.drop_length] at heq2
   rw [heq2] at heq
   exact ⟨ar (by omega), ⟨j + 1, f4, P4, t4, S4, rfl, hjl, h91.lift (by omega), rt91, o91, hP91, heq⟩, by dsimp only; omega⟩
 ·have hjl : j = cs.length := by omega
  rw [hjl, List.drop_length] at heq
  rw [heq]
  exact ⟨rfl, f2, P2, t2, h25.lift (by omega), rt25⟩
theorem yW (h : ChR w N m r f P top S us up) (ep : Int) (hP : PlF w (RB N r f) s cs) (hcl : cs.length <= 1000) :
  Calls Tryz.prog fF ⟨[us.v, .agg ⟨[.int .i64 ep, s.v]⟩]⟩ w fun x w' => x = .returned (.tuple ⟨[.int .i64 (tlA N up ep cs S).2, .int .i64 (eN (tlA N up ep cs S).1)]⟩) /\ ah w w' := by
 refine oZ _ _ _ ?_
 unfold kU
 refine ao (fun r4 w5 hr4 hb4 k4 hs4 => ?_)
 have o4 := aq.eS hb4
 refine ⟨ep, s, o4.row, (kF ep s cs w5 (hP.ae k4).chs hcl).mono ?_⟩
 rintro e w9 ⟨b, rfl, hb, k9'⟩
 have k9 := k4.trans k9'
 refine ⟨b, rfl, aj (fun h1 => ?_) (fun h1 => ?_)⟩
 ·have hn : ¬ bo ep cs := fun hh => by rw [hb.2 hh] at h1; cases h1
  unfold tlA
  rw [if_pos hn]
  exact ⟨rfl, k9⟩
 have hr : bo ep cs := hb.1 (by simpa using h1)
 have hl3 := hr.2.1
 have hsl := hP.l
 unfold tlA
 rw [if_neg (by simpa using hr)]
 refine ao (fun r11 w12 hr11 hb11 k11 hs11 => ⟨s, ((o4.ae k9').ae k11).cell 1 (by simp), ?_⟩)
 have k12 := k9.trans k11
 have k5' : ah w5 w12 := k9'.trans k11
 refine ⟨fun ts i w2 => ∃ (j : Nat) (acc : List Int), i = j /\ j <= cs.length /\ acc.length = j /\ aB w2 ts acc /\ aN w5 ts /\ ah w5 w2 /\ tailsP N up S cs = (tailsP N up S (cs.drop j)).map (acc ++ ·), fun _ i _ => ((cs.length : Int) - i).toNat,
  ⟨0, [], rfl, by omega, rfl, aB.new hb11, aN.at (by have := k9'.size; omega), k5', ?_⟩, ?_⟩
 ·rw [List.drop_zero]
  cases tailsP N up S cs <;> rfl
 rintro ts i w18 ⟨j, acc, rfl, hj, hacc, hts, hfr, k18', heq⟩
 intros
 have k18 := k4.trans k18'
 have h18 := h.ae k18
 have hP18 := hP.ae k18
 have o18 := o4.ae k18'
 refine af (fun h2 => ?_) (fun h2 => ?_)
 ·have hjl : j < cs.length := by omega
  obtain ⟨hc1, hc3, hcu⟩ := hr.2.2.1 _ (List.getElem_mem hjl)
  obtain ⟨a42, sl, ha42, hcell, hI⟩ := hP18.at hjl hc1
  have hisl := hI.sl
  obtain ⟨a44, ha44, hc44⟩ := hI.first
  rw [List.drop_eq_getElem_cons hjl, vM] at heq
  refine aa ha42 ⟨by omega, h2, sl, by rw [Int.toNat_natCast]; exact hcell, aa ha44 ⟨by omega, by omega, _, hc44, (mg h18 (cs[j].getD 0 0)).mono ?_⟩⟩
  rintro x w47 ⟨rfl, rfl⟩
  cases hu : upB N up (cs[j].getD 0 0) with
  | false =>
   rw [hu, if_neg (by decide)] at heq
   have hn : tailsP N up S cs = none := heq
   rw [hn]
   exact ⟨_, rfl, aj (fun _ => ⟨rfl, k18⟩) (fun g => by cases g)⟩
  | true =>
   rw [hu, if_pos rfl] at heq
   obtain ⟨hi, q1, q2, a51, ha51, hc51⟩ := h18.ptr hu
   generalize hin : (cs[j].getD 0 0).toNat = i at hi heq hc51
   refine ⟨_, rfl, aj (fun g => by cases g) (fun _ => aa ha44 ⟨by omega, by omega, _, hc44, aa ha51 ⟨q1, q2, _, by rw [hin]; exact hc51, ?_⟩⟩)⟩
   have hR := h18.F.R i hi
   refine (nv hR.A).mono ?_
   rw [hR.K.t.2]
   rintro x w54 ⟨rfl, k54⟩
   refine ⟨_, rfl, (hts.ae k54).push hfr (k18'.trans k54) (by omega) (fun s58 w59 g1 g2 g3 g4 g5 => ⟨ar (by omega), ⟨j + 1, _, rfl, hjl, by simp [hacc], g1, g2, g3, ?_⟩, by dsimp only; omega⟩)⟩
   rw [heq, Option.map_map]
   congr 1
   funext l
   simp
 ·have hjl : j = cs.length := by omega
  have hn : tailsP N up S cs = some acc := by
   rw [heq, hjl, List.drop_length]
   simp [tailsP]
  rw [hn]
  refine ⟨ep, s, o18.row, (yQ ep s ts cs acc w18 hP18.chs hl3.2 hts.ints (by omega)).mono ?_⟩
  rintro x w63 ⟨rfl, k63⟩
  exact ⟨_, rfl, rfl, k18.trans k63⟩
end
section
variable {A : Nat -> Addr} {w w' : World} {n0 N m m' : Nat} {r rd : Nat -> Nat} {f f' f'' : Nat -> UnF} {d d' : Nat -> aK} {S S' : Nat -> UnS} {us : Slc} {up : Nat -> Bool} {s sc : Slc} {cs : List (List Int)} {c : List Int} {o : Nat} {vs : List Value}
theorem EP (h : ChU A w n0 N m r rd f d S us up) (ep : Int) (hP : PlF w (FB N r rd f) s cs) (hcl : cs.length <= 1000) :
  Calls Tryz.prog nh ⟨[us.v, .agg ⟨[.int .i64 ep, s.v]⟩]⟩ w fun x w' => x = .returned (.tuple ⟨[.int .i64 (tlA N up ep cs S).2, cm A (tlA N up ep cs S).1]⟩) /\ ah w w' := by
 refine zg _ _ _ ?_
 unfold xJ
 refine ao (fun r4 w5 hr4 hb4 k4 hs4 => ?_)
 have o4 := aq.eS hb4
 refine ⟨ep, s, o4.row, (jP ep s cs w5 (hP.ae k4).chs (by omega)).mono ?_⟩
 rintro e w9 ⟨b, rfl, hb, k9'⟩
 have k9 := k4.trans k9'
 refine ⟨b, rfl, aj (fun h1 => ?_) (fun h1 => ?_)⟩
 ·have hn : ¬ bo ep cs := fun hh => by rw [hb.2 hh] at h1; cases h1
  unfold tlA
  rw [if_pos hn]
  exact ⟨_, cP.at (h.F.E.ae k9.drew).1 3 (by omega), rfl, k9.drew⟩
 have hr : bo ep cs := hb.1 (by simpa using h1)
 have hl3 := hr.2.1
 have hsl := hP.l
 unfold tlA
 rw [if_neg (by simpa using hr)]
 refine ⟨s, (o4.ae k9').cell 1 (by simp), ?_⟩
 refine ⟨fun ts i w2 => ∃ (j : Nat) (acc : List Int), i = j /\ j <= cs.length /\ acc.length = j /\ aB w2 ts acc /\ aN w5 ts /\ ah w5 w2 /\ tailsP N up S cs = (tailsP N up S (cs.drop j)).map (acc ++ ·), fun _ i _ => ((cs.length : Int) - i).toNat,
  ⟨0, [], rfl, by omega, rfl, aB.nil _, aN.nil _ _ _, k9', ?_⟩, ?_⟩
 ·rw [List.drop_zero]
  cases tailsP N up S cs <;> rfl
 rintro ts i w18 ⟨j, acc, rfl, hj, hacc, hts, hfr, k18', heq⟩
 intros
 have k18 := k4.trans k18'
 have h18 := h.ae k18
 have hP18 := hP.ae k18
 have o18 := o4.ae k18'
 refine af (fun h2 => ?_) (fun h2 => ?_)
 ·have hjl : j < cs.length := by omega
  obtain ⟨hc1, hc3, hcu⟩ := hr.2.2.1 _ (List.getElem_mem hjl)
  obtain ⟨a42, sl, ha42, hcell, hI⟩ := hP18.at hjl hc1
  have hisl := hI.sl
  obtain ⟨a44, ha44, hc44⟩ := hI.first
  rw [List.drop_eq_getElem_cons hjl, vM] at heq
  refine aa ha42 ⟨by omega, h2, sl, by rw [Int.toNat_natCast]; exact hcell, aa ha44 ⟨by omega, by omega, _, hc44, (oz h18 (cs[j].getD 0 0)).mono ?_⟩⟩
  rintro x w47 ⟨k47, ⟨hu, hi, rfl⟩ | ⟨hu, rfl⟩⟩
  rotate_left
  ·rw [hu, if_neg (by decide)] at heq
   have hn : tailsP N up S cs = none := heq
   rw [hn]
   exact ⟨_, _, rfl, aF A _, aj (fun _ => ⟨rfl, k18.trans k47⟩) (fun g => by cases g)⟩
  rw [hu, if_pos rfl] at heq
  generalize hin : (cs[j].getD 0 0).toNat = i at hi heq ⊢
  have hU := (h18.ae k47).F.U i hi
  refine ⟨_, _, rfl, trivial, aj (fun g => by cases g) (fun _ => (sN hU.M).mono ?_)⟩
  rw [hU.t.2]
  rintro x w54 ⟨rfl, k54⟩
  have kk := k47.trans k54
  refine ⟨_, rfl, (hts.ae kk).push hfr (k18'.trans kk) (by omega) (fun s58 w59 g1 g2 g3 g4 g5 => ⟨ar (by omega), ⟨j + 1, _, rfl, hjl, by simp [hacc], g1, g2, g3, ?_⟩, by dsimp only; omega⟩)⟩
  rw [heq, Option.map_map]
  congr 1
  funext l
  simp
 ·have hjl : j = cs.length := by omega
  have hn : tailsP N up S cs = some acc := by
   rw [heq, hjl, List.drop_length]
   simp [tailsP]
  rw [hn]
  refine ⟨ep, s, o18.row, (EJ ep s ts cs acc w18 hP18.chs (by omega) hts.ints hts.Ih (by omega)).mono ?_⟩
  rintro x w63 ⟨k63, v, rfl, _, hv⟩
  rw [hv hr]
  exact ⟨_, rfl, rfl, k18.trans k63⟩
end
end Go.D
namespace Go.D
open Go Go.Proofs
theorem Bd {w : World} {s : Slc} {vs : List Value} (h : Own w s 1 vs) {k : Nat} (hk : k < vs.length) (v : Value) :
  ∃ a, s.p = some a /\ aw w (a.add (k * 1)) 1 /\ ∀ w', w' = World.setCell w (a.add (k * 1)) v -> Own w' s 1 (vs.set k v) /\ Ext (ai s) w w' /\ w'.heap.size = w.heap.size := by
 obtain ⟨h1, ⟨hp, hv, _⟩ | ⟨b, pad, T, f, hp, hb, h4, h5⟩⟩ := h
 ·rw [hv] at hk; simp at hk
 ·refine ⟨_, hp, ?_⟩
  rw [add_lit, Nat.zero_add, Nat.mul_one]
  refine ⟨iX hb h5 k 1 (by rw [List.length_append]; omega), ?_⟩
  rintro w' rfl
  have hh := heap_setCell hb k v
  rw [List.set_append_left _ _ hk] at hh
  exact ⟨⟨by rw [List.length_set]; exact h1, .inr ⟨b, pad, T, f, hp, hh, by rw [List.length_append, List.length_set, <- List.length_append]; exact h4, by rw [List.length_append, List.length_set, <- List.length_append]; exact h5⟩⟩, Ext.setCell (M := ai s) (a := (⟨b, k, none⟩ : Addr)) ⟨_, hp, rfl⟩ v, by simp [World.setCell]⟩
theorem DS {N : Nat} {up : Nat -> Bool} {r : Nat -> Nat} (k : Nat) (x : Bool) : (usL N up r).set k (if x then av (r k) else .pointer none) = usL N (bk up k x) r := by
 apply List.ext_getElem
 ·simp [usL]
 ·intro i h1 h2
  rw [List.getElem_set, ll]
  by_cases e : k = i
  ·subst e; rw [if_pos rfl, ll, aE]
  ·rw [if_neg e, ll, aM (fun h => e h.symm)]
section
variable {A : Nat -> Addr} {wb w w' w2 w3 : World} {rx m m' : Nat} {r rd r2 : Nat -> Nat} {f f' : Nat -> UnF} {d d' : Nat -> aK} {fr fr' : Nat -> RuF} {P P' : Nat -> List RuE} {top top' : Nat -> Int} {S S' : Nat -> UnS} {p : Cx} {up : Nat -> Bool} {ep : Int} {cs : List (List Int)}
theorem ea.mid (h : ea A wb w rx m r rd r2 f d fr P top S p up ep cs) (ft : FTo 6 r rd f f' w w') (hk : ah w' w2) :
  ChR w2 6 m r2 fr P top S p.ws up /\ aq w2 rx (fk p ep) /\ PlF w2 (RB 6 r2 fr) p.s2 cs /\ ah wb w2 /\ Own w2 p.od 1 (usL 6 dN r2) := by
 have hk' : Ext (FB 6 r rd f) w w2 := ft.1.trans hk (fun _ h => h) (fun _ h => h.elim)
 have kb : ah wb w2 := h.kb.ext hk' h.U.U.F.ge
 refine ⟨⟨h.U.R.F.ext hk' (fun b hb hh => (h.U.rb b hb).1 hh) (fun b hb hh => h.U.ry b hb hh), h.U.R.uo.ext hk' (fun b hb hh => (h.U.wb b hb).1 hh), h.U.R.ub⟩, h.o.ext hk' (fun hh => h.xn.1 (.inl hh)), PlF.old h.c2 kb h.U.rn, kb, h.od.ext hk' (fun b hb hh => (h.an b (.inr hb)).1 (.inl hh))⟩
theorem ea.step (h : ea A wb w rx m r rd r2 f d fr P top S p up ep cs) (hU : ChU A w' wb.heap.size 6 m' r rd f' d' S' p.us up) (ft : FTo 6 r rd f f' w w') (hk : ah w' w2) (hR : ChR w3 6 m' r2 fr' P' top' S' p.ws up) (rt : RTo 6 r2 fr fr' w2 w3) :
  ea A wb w3 rx m' r rd r2 f' d' fr' P' top' S' p up ep cs := by
 obtain ⟨_, o2, _, kb2, od2⟩ := h.mid ft hk
 have hk' : Ext (FB 6 r rd f) w w2 := ft.1.trans hk (fun _ h => h) (fun _ h => h.elim)
 have al2 := h.al.ext hk' (fun b hb hh => (h.an b (.inl hb)).1 (.inl hh))
 have z1 := ft.1.size
 have z2 := hk.size
 have la := cD h.al
 have lo := cD h.od
 have lx := h.o.lt
 have gone : ∀ b, b < w.heap.size -> ¬ qa 6 r rd r2 f fr b -> ¬ qa 6 r rd r2 f' fr' b := by
  rintro b hb hn (hh | hh | hh | hh)
  ·exact (ft.2.1 b hh).elim (fun g => hn (.inl g)) (fun g => by omega)
  ·exact (ft.2.2 b hh).elim (fun g => hn (.inr (.inl g))) (fun g => by omega)
  ·exact (rt.2.1 b hh).elim (fun g => hn (.inr (.inr (.inl g)))) (fun g => by omega)
  ·exact (rt.2.2 b hh).elim (fun g => hn (.inr (.inr (.inr g)))) (fun g => by omega)
 refine ⟨o2.ext rt.1 (fun hh => h.xn.1 (.inr (.inr (.inl hh)))), h.U.step hU ft hk hR rt, al2.ext rt.1 (fun b hb hh => (h.an b (.inl hb)).1 (.inr (.inr (.inl hh)))), od2.ext rt.1 (fun b hb hh => (h.an b (.inr hb)).1 (.inr (.inr (.inl hh)))), h.c1, h.c2, kb2.ext rt.1 h.U.rn, ⟨gone rx lx h.xn.1, h.xn.2⟩, fun b hb => ⟨gone b (hb.elim (la b) (lo b)) (h.an b hb).1, (h.an b hb).2⟩, h.ge⟩
theorem ea.put (h : ea A wb w rx m r rd r2 f d fr P top S p up ep cs) {k : Nat} (hk : k < 6) (x : Bool) :
  ∃ a a2, p.us.p = some a /\ p.ws.p = some a2 /\ aw w (a.add (k * 1)) 1 /\ ∀ w1, w1 = World.setCell w (a.add (k * 1)) (if x then av (r k) else .pointer none) -> aw w1 (a2.add (k * 1)) 1 /\
   ∀ w2, w2 = World.setCell w1 (a2.add (k * 1)) (if x then av (r2 k) else .pointer none) -> ea A wb w2 rx m r rd r2 f d fr P top S p (bk up k x) ep cs := by
 obtain ⟨a, ha, c1, c2⟩ := Bd h.U.U.uo (k := k) (by rw [bO]; exact hk) (if x then av (r k) else .pointer none)
 have lu := cD h.U.U.uo
 have lw := cD h.U.R.uo
 obtain ⟨a2, ha2, _, _⟩ := Bd h.U.R.uo (k := k) (by rw [bO]; exact hk) (if x then av (r2 k) else .pointer none)
 refine ⟨a, a2, ha, ha2, c1, fun w1 hw1 => ?_⟩
 obtain ⟨o1, e1, z1⟩ := c2 w1 hw1
 rw [DS] at o1
 have ow1 := h.U.R.uo.ext e1 (fun b hb hh => (h.U.ub b hh).2.2.2 hb)
 obtain ⟨a3, ha3, c3, c4⟩ := Bd ow1 (k := k) (by rw [bO]; exact hk) (if x then av (r2 k) else .pointer none)
 rw [ha2] at ha3
 cases ha3
 refine ⟨c3, fun w2 hw2 => ?_⟩
 obtain ⟨o2, e2, z2⟩ := c4 w2 hw2
 rw [DS] at o2
 have ex : Ext (fun b => ai p.us b \/ ai p.ws b) w w2 := (e1.mono (fun b hb => Or.inl hb)).trans e2 (fun _ h => h) (fun b hb => .inl (.inr hb))
 have nF : ∀ b, FB 6 r rd f b -> ¬ (ai p.us b \/ ai p.ws b) := fun b hb hh => hh.elim (fun g => h.U.U.ub b g hb) (fun g => (h.U.wb b g).1 hb)
 have nY : ∀ b, FY 6 f b -> ¬ (ai p.us b \/ ai p.ws b) := fun b hb hh => hh.elim (fun g => (h.U.ub b g).1 hb) (fun g => (h.U.wb b g).2.1 hb)
 have nR : ∀ b, RB 6 r2 fr b -> ¬ (ai p.us b \/ ai p.ws b) := fun b hb hh => hh.elim (fun g => (h.U.ub b g).2.1 hb) (fun g => h.U.R.ub b g hb)
 have nZ : ∀ b, RY 6 fr b -> ¬ (ai p.us b \/ ai p.ws b) := fun b hb hh => hh.elim (fun g => (h.U.ub b g).2.2.1 hb) (fun g => (h.U.wb b g).2.2 hb)
 have zb := h.kb.size
 refine ⟨h.o.ext ex (fun hh => hh.elim h.xn.2.1 h.xn.2.2.1), ⟨⟨h.U.U.F.ext ex nF nY h.ge.2, o1.ext e2 (fun b hb hh => (h.U.ub b hb).2.2.2 hh), h.U.U.ub⟩, ⟨h.U.R.F.ext ex nR nZ, o2, h.U.R.ub⟩, h.U.rb, h.U.ry, h.U.ub, h.U.wb, h.U.rn, by omega⟩, h.al.ext ex (fun b hb hh => hh.elim (h.an b (.inl hb)).2.1 (h.an b (.inl hb)).2.2), h.od.ext ex (fun b hb hh => hh.elim (h.an b (.inr hb)).2.1 (h.an b (.inr hb)).2.2), h.c1, h.c2, h.kb.ext ex h.ge.2, h.xn, h.an, h.ge⟩
theorem ea.lift (h : ea A wb w rx m r rd r2 f d fr P top S p up ep cs) (hm : m <= m') : ea A wb w rx m' r rd r2 f d fr P top S p up ep cs :=
 ⟨h.o, ⟨h.U.U.lift hm, h.U.R.lift hm, h.U.rb, h.U.ry, h.U.ub, h.U.wb, h.U.rn, h.U.z⟩, h.al, h.od, h.c1, h.c2, h.kb, h.xn, h.an, h.ge⟩
theorem ea.lt (h : ea A wb w rx m r rd r2 f d fr P top S p up ep cs) : ∀ b, qa 6 r rd r2 f fr b -> b < w.heap.size := h.U.lt
theorem Txt.mid {b : Slc} {t : List UInt8} (h : Txt w (qa 6 r rd r2 f fr) b t) (ft : FTo 6 r rd f f' w w') : Txt w' (RB 6 r2 fr) b t := by
 have z := ft.1.size
 exact ⟨cC h.tb ft.1 (fun k hk hh => (h.s k hk).2 (.inl hh)), fun k hk => ⟨by have := (h.s k hk).1; omega, fun hh => (h.s k hk).2 (.inr (.inr (.inl hh)))⟩, h.l⟩
theorem HM {t : List UInt8} {a : Int} {N : Nat} : ∀ j, (wrA N up ep cs a t S).1 = some j -> j < 19 := by
 intro j hj
 unfold wrA at hj
 split at hj
 ·unfold Gf at hj
  split at hj
  ·exact po _ _ _ _ _ j hj
  ·exact mf trivial _ _ _ _ _ j hj
 ·exact A5 j hj
theorem HN {t : List UInt8} {a k : Int} {N : Nat} : ∀ j, (stA N up ep cs a k t S).1 = some j -> j < 19 := by
 intro j hj
 unfold stA at hj
 split at hj
 ·split at hj
  ·cases hj; omega
  ·exact mf trivial _ _ _ _ _ j hj
 ·exact A5 j hj
theorem Be {t : List UInt8} {e a : Int} {N : Nat} {c : List Int} : ∀ j, (sQ N up e a t c S).1 = some j -> j < 19 := by
 intro j hj
 unfold sQ at hj
 split at hj
 ·cases hj
 ·exact po _ _ _ _ _ j hj
theorem HO {a : Int} {N : Nat} : ∀ j, (rdA N up ep cs a S).1 = some j -> j < 19 := by
 intro j hj
 unfold rdA at hj
 split at hj
 ·unfold DP at hj
  split at hj
  ·split at hj
   ·cases hj
   ·split at hj
    ·exact qM j hj
    ·split at hj
     ·split at hj
      ·exact Be j hj
      ·exact qM j hj
     ·cases hj; omega
  ·cases hj; omega
 ·exact A5 j hj
theorem HP {a : Int} {N : Nat} : ∀ j, (flA N up ep cs a S).1 = some j -> j < 19 := by
 intro j hj
 unfold flA at hj
 split at hj
 ·unfold Cs rI at hj
  split at hj
  ·exact Be j hj
  ·split at hj
   ·split at hj
    ·exact Be j hj
    ·exact qM j hj
   ·exact mf trivial _ _ _ _ _ j hj
 ·exact A5 j hj
theorem DT {e own : Int} {N : Nat} : ∀ (l : List Int) (S : Nat -> UnS) j, (uy N up e own l S).1 = some j -> j < 19
 | [], S, j, hj => by cases hj
 | n :: l, S, j, hj => by
  rw [va] at hj
  split at hj
  ·split at hj
   ·exact DT l _ j hj
   ·exact Gc j hj
  ·cases hj; omega
theorem DU {e to : Int} {N n : Nat} : ∀ (q : List (List Int)) (k : Nat) (S : Nat -> UnS) j, (A0 N up e to n k q S).1 = some j -> j < 19
 | [], k, S, j, hj => by cases hj
 | l :: q, k, S, j, hj => by
  rw [vb] at hj
  split at hj
  ·exact DU q (k + 1) _ j hj
  ·exact DT l S j hj
theorem HQ {to : Int} {N : Nat} : ∀ j, (trA N up ep cs to S).1 = some j -> j < 19 := by
 intro j hj
 unfold trA at hj
 split at hj
 ·cases hj; omega
 ·split at hj
  ·cases hj; omega
  ·exact DU _ _ _ j hj
theorem HR {N : Nat} : ∀ j, (tlA N up ep cs S).1 = some j -> j < 19 := by
 intro j hj
 unfold tlA at hj
 split at hj
 ·cases hj; omega
 ·split at hj
  ·cases hj; omega
  ·cases hj
end
end Go.D
namespace Go.D
open Go Go.Proofs
theorem Ii (n : Int) (k : Nat) (hk : 0 < k /\ k <= 1000) : 0 <= IntKind.wrap .u64 n /\ ∃ a : Nat, IntKind.wrap .i64 ((IntKind.wrap .u64 n) % (k : Int)) = a /\ a < k := by
 have h0 : 0 <= IntKind.wrap .u64 n := by
  simp [IntKind.wrap, IntKind.signed, IntKind.bits]; omega
 have h1 := Int.emod_nonneg (IntKind.wrap .u64 n) (show (k : Int) ≠ 0 by omega)
 have h2 := Int.emod_lt_of_pos (IntKind.wrap .u64 n) (show (0 : Int) < k by omega)
 refine ⟨h0, (IntKind.wrap .u64 n % (k : Int)).toNat, ?_, by omega⟩
 rw [fR (ar (by omega))]
 omega
abbrev Cz : Rd (Int × (Slc × List (Slc × List Int))) := Rd.pair (Rd.int .i64) (Rd.slice Rd.ints)
theorem CA {w : World} {x : Array Value} {b : Int × (Slc × List (Slc × List Int))} (h : Cz.R w b x.toList) : x = ⟨[.int .i64 b.1, b.2.1.v]⟩ /\ Chs w b.2.1 (b.2.2.map (·.2)) /\ b.2.1.l <= b.2.1.c := by
 obtain ⟨c1, c2, hx, ⟨rfl, hr⟩, ⟨rfl, h2⟩⟩ := h
 obtain ⟨l⟩ := x
 exact ⟨by rw [show l = _ from hx]; rfl, Chs.of h2, h2.2.1⟩
abbrev Aj := Int × Int × Int × List UInt8
abbrev DV : Rd Aj := Rd.pair (Rd.int .i64) (Rd.pair (Rd.int .i64) (Rd.pair (Rd.int .i64) Rd.str))
def dy (a : Aj) : List Value := [.int .i64 a.1, .int .i64 a.2.1, .int .i64 a.2.2.1, dA a.2.2.2]
def CB (w : World) (s : Slc) (xs : List Aj) : Prop := s.l = xs.length /\ s.l <= s.c /\ ∀ i (h : i < xs.length), ∃ a, s.p = some a /\ rowAt w (a.add (i * 4)) 0 (dy xs[i])
theorem ER {w : World} {s : Slc} {xs : List Aj} (h : zL DV w s xs) : CB w s xs := by
 obtain ⟨h1, h2, _, h3⟩ := h
 refine ⟨h1, h2, fun i hi => ?_⟩
 obtain ⟨a, cs, ha, ⟨_, _, hcs, ⟨rfl, _⟩, ⟨_, _, rfl, ⟨rfl, _⟩, ⟨_, _, rfl, ⟨rfl, _⟩, ⟨rfl, _⟩⟩⟩⟩, hrow⟩ := h3 i hi
 subst hcs
 exact ⟨a, ha, hrow⟩
theorem Dq {P : Program} {e : TypeId} {b : List UInt8} {w : World} {F : Nat -> Prop} {K : Slc -> World -> Prop} (hl : b.length <= 2 ^ 20) (hF : ∀ k, F k -> k < w.heap.size)
  (h : ∀ (s : Slc) (w1 : World), Txt w1 F s b -> ah w w1 -> K s w1) : dD P e b w K := by
 intro cap w1 hc hw
 subst hw
 have hk : ah w (w.drew.alloc (.cells ⟨b.map aS ++ List.replicate (cap - b.length) (.int .u8 0)⟩ e (cap, cap + 1))) := ah.trans (Ext.drew _ w) (Ext.alloc _ _ _)
 have hb : (w.drew.alloc (.cells ⟨b.map aS ++ List.replicate (cap - b.length) (.int .u8 0)⟩ e (cap, cap + 1))).heap[w.heap.size]? = some (.cells ⟨b.map aS ++ List.replicate (cap - b.length) (.int .u8 0)⟩ e (cap, cap + 1)) := lA w.drew _
 refine h _ _ ⟨⟨rfl, .inr ⟨_, rfl, fun i hi => ?_⟩⟩, fun k hk2 => ?_, hl⟩ hk
 ·rw [add_lit, cell_of hb, Nat.zero_add, List.getElem?_append_left hi, List.getElem?_eq_getElem hi]
 ·obtain ⟨a, ha, rfl⟩ := hk2
  cases ha
  exact ⟨bL hb, fun hh => by have := hF _ hh; simp only at this; omega⟩
end Go.D
namespace Go.D
open Go Go.Proofs
theorem gQ.old {w0 w : World} {s : Slc} {c : List Int} {F : Nat -> Prop} (h : dk w0 s c) (hcap : s.l <= s.c) (hne : 0 < c.length) (hk : ah w0 w) (hF : ∀ k, F k -> w0.heap.size <= k) : gQ w F s c :=
 ⟨da h hk, hcap, hne, fun k hk hh => by have := hF _ hh; have := kg h hne k hk; omega⟩
theorem Gr {w : World} {rx k : Nat} {cs : List Value} {v1 v2 : Value} (h : aq w rx cs) (hk : k + 1 < cs.length) (h1 : cs[k] = v1) (h2 : cs[k + 1] = v2) : rowAt w ((⟨rx, 0, none⟩ : Addr).add k) 0 [v1, v2] := by
 refine nH (fun j hj => ?_)
 rw [add_lit, add_lit, Nat.zero_add, Nat.zero_add]
 have hj2 : j < 2 := by simpa using hj
 rcases (by omega : j = 0 \/ j = 1) with rfl | rfl
 ·rw [Nat.add_zero, h.cell k (by omega), h1]; rfl
 ·rw [h.cell (k + 1) hk, h2]; rfl
section
variable {A : Nat -> Addr} {wb w w' : World} {rx m : Nat} {r rd r2 : Nat -> Nat} {f : Nat -> UnF} {d : Nat -> aK} {fr : Nat -> RuF} {P : Nat -> List RuE} {top : Nat -> Int} {S : Nat -> UnS} {p : Cx} {up : Nat -> Bool} {ep : Int} {cs : List (List Int)}
def DW (A : Nat -> Addr) (wb : World) (rx m : Nat) (r rd r2 : Nat -> Nat) (p : Cx) (ep : Int) (cs : List (List Int)) (w' : World) : Prop :=
 ∃ (f : Nat -> UnF) (d : Nat -> aK) (fr : Nat -> RuF) (P : Nat -> List RuE) (top : Nat -> Int) (S : Nat -> UnS) (up : Nat -> Bool), ea A wb w' rx m r rd r2 f d fr P top S p up ep cs
theorem ea.ex {m' : Nat} (h : ea A wb w rx m r rd r2 f d fr P top S p up ep cs) (hm : m <= m') : DW A wb rx m' r rd r2 p ep cs w := ⟨f, d, fr, P, top, S, up, h.lift hm⟩
theorem ES (h : ea A wb w rx m r rd r2 f d fr P top S p up ep cs) (hm : m <= 2 ^ 15) (hcl : cs.length <= 10) (hEb : cP A wb) (x1 x2 x3 : Int) (x4 : List UInt8) (hx4 : x4.length <= 300) :
  Calls Tryz.prog eg ⟨[av rx, .agg ⟨dy (x1, x2, x3, x4)⟩]⟩ w fun e w' => e = .returned (.bool true) /\ DW A wb rx (m + 9) r rd r2 p ep cs w' := by
 refine mh _ _ _ _ _ ?_
 unfold jj
 refine ao (fun r6 w7 hr6 hb6 k6 hs6 => ?_)
 have o6 : aq w7 r6 (dy (x1, x2, x3, x4)) := aq.eS hb6
 have h7 := h.ae k6
 have lt := h.lt
 have hx420 : x4.length <= 2 ^ 20 := by omega
 -- the act, and the play: cells
 have a1 : ∀ {w2 : World}, aq w2 r6 (dy (x1, x2, x3, x4)) -> World.cell? w2 (⟨r6, 1, none⟩ : Addr) = some (.int .i64 x2) := fun o => o.cell 1 (by simp [dy])
 have a2 : ∀ {w2 : World}, aq w2 r6 (dy (x1, x2, x3, x4)) -> World.cell? w2 (⟨r6, 2, none⟩ : Addr) = some (.int .i64 x3) := fun o => o.cell 2 (by simp [dy])
 have a3 : ∀ {w2 : World}, aq w2 r6 (dy (x1, x2, x3, x4)) -> World.cell? w2 (⟨r6, 3, none⟩ : Addr) = some (dA x4) := fun o => o.cell 3 (by simp [dy])
 have u0 : ∀ {w2 : World}, aq w2 rx (fk p ep) -> World.cell? w2 (⟨rx, 0, none⟩ : Addr) = some p.us.v := fun o => o.cell 0 (by simp [fk])
 have u1 : ∀ {w2 : World}, aq w2 rx (fk p ep) -> World.cell? w2 ((⟨rx, 0, none⟩ : Addr).add 1) = some p.al.v := fun o => by rw [add_lit]; exact o.cell 1 (by simp [fk])
 have u2 : ∀ {w2 : World}, aq w2 rx (fk p ep) -> World.cell? w2 ((⟨rx, 0, none⟩ : Addr).add 2) = some p.ws.v := fun o => by rw [add_lit]; exact o.cell 2 (by simp [fk])
 have u3 : ∀ {w2 : World}, aq w2 rx (fk p ep) -> World.cell? w2 ((⟨rx, 0, none⟩ : Addr).add 3) = some p.od.v := fun o => by rw [add_lit]; exact o.cell 3 (by simp [fk])
 have u4 : ∀ {w2 : World}, aq w2 rx (fk p ep) -> World.cell? w2 ((⟨rx, 0, none⟩ : Addr).add 4) = some (.int .i64 ep) := fun o => by rw [add_lit]; exact o.cell 4 (by simp [fk])
 have u5 : ∀ {w2 : World}, aq w2 rx (fk p ep) -> World.cell? w2 (((⟨rx, 0, none⟩ : Addr).add 4).add 1) = some p.s.v := fun o => by rw [add_lit, add_lit]; exact o.cell 5 (by simp [fk])
 have u6 : ∀ {w2 : World}, aq w2 rx (fk p ep) -> World.cell? w2 ((⟨rx, 0, none⟩ : Addr).add 6) = some (.int .i64 ep) := fun o => by rw [add_lit]; exact o.cell 6 (by simp [fk])
 have u7 : ∀ {w2 : World}, aq w2 rx (fk p ep) -> World.cell? w2 (((⟨rx, 0, none⟩ : Addr).add 6).add 1) = some p.s2.v := fun o => by rw [add_lit, add_lit]; exact o.cell 7 (by simp [fk])
 have q4 : ∀ {w2 : World}, aq w2 rx (fk p ep) -> rowAt w2 ((⟨rx, 0, none⟩ : Addr).add 4) 0 [.int .i64 ep, p.s.v] := fun o => Gr o (by simp [fk]) (by simp [fk]) (by simp [fk])
 have q6 : ∀ {w2 : World}, aq w2 rx (fk p ep) -> rowAt w2 ((⟨rx, 0, none⟩ : Addr).add 6) 0 [.int .i64 ep, p.s2.v] := fun o => Gr o (by simp [fk]) (by simp [fk]) (by simp [fk])
 obtain ⟨hw0, kn, hwk, hwl⟩ := Ii x3 6 (by omega)
 have hwk' : IntKind.wrap .i64 (IntKind.wrap .u64 x3 % (6 : Int)) = (kn : Int) := hwk
 have kd : ah w7 (World.drew w7) := Ext.drew _ _
 have hd := h7.ae kd
 have od := o6.ae kd
 have z6 := k6.size
 have n6F : ∀ {w2 : World}, ah w7 w2 -> ObF w2 (FB 6 r rd f) r6 (dy (x1, x2, x3, x4)) := fun hk => ⟨o6.ae hk, fun hh => by have := lt r6 (.inl hh); omega⟩
 -- bytes of the act's text, and numbers of errors
 have byt : ∀ {w2 : World} {F : Nat -> Prop} {K : Slc -> World -> Prop}, (∀ k, F k -> k < w2.heap.size) -> (∀ (s : Slc) (w1 : World), Txt w1 F s x4 -> ah w2 w1 -> K s w1) -> dD Tryz.prog 5 x4 w2 K := fun hF hK => Dq hx420 hF hK
 have num : ∀ {w2 : World} (e' : Option Nat), (∀ j, e' = some j -> j < 19) -> ah wb w2 -> Calls Tryz.prog az ⟨[cm A e']⟩ w2 fun e w' => e = .returned (.int .i64 (eN e')) /\ ah w2 w' := fun e' hlt hk => ym A e' hlt _ (hEb.ae hk)
 -- what is looked at again
 have c1 : ∀ {w2 : World}, aq w2 r6 (dy (x1, x2, x3, x4)) -> ∃ n : Int, World.cell? w2 (⟨r6, 1, none⟩ : Addr) = some (.int .i64 n) /\ Value.int .i64 n = Value.int .i64 x2 := fun o => ⟨x2, a1 o, rfl⟩
 have c2 : ∀ {w2 : World}, aq w2 r6 (dy (x1, x2, x3, x4)) -> ∃ n : Int, World.cell? w2 (⟨r6, 2, none⟩ : Addr) = some (.int .i64 n) /\ Value.int .i64 n = Value.int .i64 x3 := fun o => ⟨x3, a2 o, rfl⟩
 have c3 : ∀ {w2 : World}, aq w2 r6 (dy (x1, x2, x3, x4)) -> ∃ t : List UInt8, World.cell? w2 (⟨r6, 3, none⟩ : Addr) = some (dA t) /\ dA t = dA x4 := fun o => ⟨x4, a3 o, rfl⟩
 have d0 : ∀ {w2 : World}, aq w2 rx (fk p ep) -> ∃ s : Slc, World.cell? w2 (⟨rx, 0, none⟩ : Addr) = some s.v /\ s.v = p.us.v := fun o => ⟨_, u0 o, rfl⟩
 have d2 : ∀ {w2 : World}, aq w2 rx (fk p ep) -> ∃ s : Slc, World.cell? w2 ((⟨rx, 0, none⟩ : Addr).add 2) = some s.v /\ s.v = p.ws.v := fun o => ⟨_, u2 o, rfl⟩
 have d4 : ∀ {w2 : World}, aq w2 rx (fk p ep) -> ∃ n : Int, World.cell? w2 ((⟨rx, 0, none⟩ : Addr).add 4) = some (.int .i64 n) /\ Value.int .i64 n = Value.int .i64 ep := fun o => ⟨_, u4 o, rfl⟩
 have d5 : ∀ {w2 : World}, aq w2 rx (fk p ep) -> ∃ s : Slc, World.cell? w2 (((⟨rx, 0, none⟩ : Addr).add 4).add 1) = some s.v /\ s.v = p.s.v := fun o => ⟨_, u5 o, rfl⟩
 have d6 : ∀ {w2 : World}, aq w2 rx (fk p ep) -> ∃ n : Int, World.cell? w2 ((⟨rx, 0, none⟩ : Addr).add 6) = some (.int .i64 n) /\ Value.int .i64 n = Value.int .i64 ep := fun o => ⟨_, u6 o, rfl⟩
 have d7 : ∀ {w2 : World}, aq w2 rx (fk p ep) -> ∃ s : Slc, World.cell? w2 (((⟨rx, 0, none⟩ : Addr).add 6).add 1) = some s.v /\ s.v = p.s2.v := fun o => ⟨_, u7 o, rfl⟩
 have e4 : ∀ {w2 : World}, aq w2 rx (fk p ep) -> ∃ (n : Int) (s : Slc), rowAt w2 ((⟨rx, 0, none⟩ : Addr).add 4) 0 [.int .i64 n, s.v] /\ Value.agg ⟨[.int .i64 n, s.v]⟩ = Value.agg ⟨[.int .i64 ep, p.s.v]⟩ := fun o => ⟨ep, p.s, q4 o, rfl⟩
 have e6 : ∀ {w2 : World}, aq w2 rx (fk p ep) -> ∃ (n : Int) (s : Slc), rowAt w2 ((⟨rx, 0, none⟩ : Addr).add 6) 0 [.int .i64 n, s.v] /\ Value.agg ⟨[.int .i64 n, s.v]⟩ = Value.agg ⟨[.int .i64 ep, p.s2.v]⟩ := fun o => ⟨ep, p.s2, q6 o, rfl⟩
 -- both sides of one call, whatever it is
 have two : ∀ {w0 : World} {m0 : Nat} {f0 : Nat -> UnF} {d0 : Nat -> aK} {fr0 : Nat -> RuF} {P0 : Nat -> List RuE} {top0 : Nat -> Int} {S0 S1 : Nat -> UnS} {wA w1 wC w3 : World}, ea A wb wA rx m0 r rd r2 f0 d0 fr0 P0 top0 S0 p up ep cs -> ∀ {m1 : Nat}, ChP A wA wb.heap.size 6 m1 r rd f0 p.us up S1 w1 -> ∀ {f1 : Nat -> UnF}, FTo 6 r rd f0 f1 wA w1 -> ah w1 wC -> rq wC 6 m1 r2 fr0 p.ws up S1 w3 -> True := fun _ _ _ _ _ _ _ => trivial
 have fin : ∀ {wA w1 wC w3 : World} {m0 m1 : Nat} {f0 f1 : Nat -> UnF} {d0 d1 : Nat -> aK} {fr0 : Nat -> RuF} {P0 : Nat -> List RuE} {top0 : Nat -> Int} {S0 S1 : Nat -> UnS} {x y : Option Nat}, ea A wb wA rx m0 r rd r2 f0 d0 fr0 P0 top0 S0 p up ep cs -> ChU A w1 wb.heap.size 6 m1 r rd f1 d1 S1 p.us up -> FTo 6 r rd f0 f1 wA w1 -> ah w1 wC -> rq wC 6 m1 r2 fr0 p.ws up S1 w3 -> m1 <= m + 9 -> x = y ->
   (Ending.returned (.bool (decide (eN x = eN y))) = .returned (.bool true) /\ DW A wb rx (m + 9) r rd r2 p ep cs w3) := by
  rintro wA w1 wC w3 m0 m1 f0 f1 d0 d1 fr0 P0 top0 S0 S1 x y hA hU ft hk ⟨f3, P3, t3, hR, rt⟩ hm1 rfl
  exact ⟨by rw [decide_eq_true rfl], (hA.step hU ft hk hR rt).ex hm1⟩
 clear two
 refine ⟨x3, a2 o6, hw0, by omega, x1, o6.cell 0 (by simp [dy]), af (fun h0 => ?_) (fun h0 => af (fun h1 => ?_) (fun h1 => af (fun h2 => ?_) (fun h2 => af (fun h3 => ?_) (fun h3 => af (fun h4 => ?_) (fun h4 => af (fun h5 => ?_) (fun h5 => af (fun h6 => ?_) (fun h6 => af (fun h7' => ?_) (fun h7' => ?_))))))))⟩
 ·-- Step
  have o7 := n6F (Ext.refl fp w7)
  refine aa rfl ⟨_, u0 hd.o, aa rfl ⟨_, _, q4 hd.o, _, a1 od, _, a2 od, _, a3 od, aa rfl ⟨_, u2 hd.o, aa rfl ⟨_, _, q6 hd.o, _, a1 od, _, a2 od, _, a3 od, ?_⟩⟩⟩⟩
  -- <STEP>
  have C : ∀ {w2 : World} {sa : Slc}, ah w7 w2 -> Txt w2 (FB 6 r rd f) sa x4 -> Calls Tryz.prog fV ⟨[p.us.v, .agg ⟨[.int .i64 ep, p.s.v]⟩, .int .i64 x2, .int .i64 x3, sa.v]⟩ w2 fun e w' => zy A w2 wb.heap.size 6 (m + 4) r rd f p.us up (stA 6 up ep cs x2 x3 x4 S) e w' := fun hk hs => EM (h7.ae hk).U.U (by omega) ep x2 x3 (h7.ae hk).plF (by omega) _ x4 hs
  have R : ∀ {w1 w2 w3 : World} {f1 : Nat -> UnF} {sb : Slc}, ah w7 w1 -> FTo 6 r rd f f1 w1 w2 -> ah w2 w3 -> Txt w3 (RB 6 r2 fr) sb x4 -> Calls Tryz.prog bn ⟨[p.ws.v, .agg ⟨[.int .i64 ep, p.s2.v]⟩, .int .i64 x2, .int .i64 x3, sb.v]⟩ w3 fun e w' => rJ w3 6 (m + 4) r2 fr p.ws up (stA 6 up ep cs x2 x3 x4 S) e w' := fun hk ft hk2 hs => yS ((h7.ae hk).mid ft hk2).1 (by omega) ep x2 x3 ((h7.ae hk).mid ft hk2).2.2.1 (by omega) _ x4 hs
  have ltB := h7.lt
  have lB : ∀ {w2 : World}, ah w7 w2 -> ∀ k, qa 6 r rd r2 f fr k -> k < w2.heap.size := fun hk k hh => by have := ltB k hh; have := hk.size; omega
  have lR : ∀ {w1 w2 w3 : World} {f1 : Nat -> UnF}, ah w7 w1 -> FTo 6 r rd f f1 w1 w2 -> ah w2 w3 -> ∀ k, RB 6 r2 fr k -> k < w3.heap.size := fun hk ft hk2 k hh => by
   have := ltB k (.inr (.inr (.inl hh))); have := hk.size; have := ft.1.size; have := hk2.size; omega
  have mid : ∀ {w1 w2 w3 : World} {f1 : Nat -> UnF}, ah w7 w1 -> FTo 6 r rd f f1 w1 w2 -> ah w2 w3 -> aq w3 rx (fk p ep) /\ aq w3 r6 (dy (x1, x2, x3, x4)) /\ ah wb w3 := fun hk ft hk2 => by
   have hM := (h7.ae hk).mid ft hk2
   exact ⟨hM.2.1, (((o7.ae hk).go ft.1 ft.2.1).ae hk2).ob, hM.2.2.2.1⟩
  have oo : ∀ {w2 : World}, ah w7 w2 -> aq w2 rx (fk p ep) /\ aq w2 r6 (dy (x1, x2, x3, x4)) /\ ah wb w2 := fun hk => ⟨(h7.ae hk).o, (o7.ae hk).ob, (h7.ae hk).kb⟩
  have tF : ∀ {w2 : World} {sa : Slc}, Txt w2 (qa 6 r rd r2 f fr) sa x4 -> Txt w2 (FB 6 r rd f) sa x4 := fun ht => ht.mono (fun k hk => .inl hk)
  have hlt := HN (S := S) (up := up) (ep := ep) (cs := cs) (t := x4) (a := x2) (k := x3) (N := 6)
  refine ⟨byt (lB kd) (fun sA wA tA kA' => ?_), byt (lB kd) (fun sD wD tD kD' => ?_)⟩
  ·have kA := kd.trans kA'
   obtain ⟨bA, gA, vA⟩ := oo kA
   refine ⟨c3 gA, c2 gA, c1 gA, e6 bA, d2 bA, c2 gA, c1 gA, e4 bA, d0 bA, (C kA (tF tA)).mono ?_, byt (lB kA) (fun sB wB tB kB' => ?_)⟩
   ·rintro e wC ⟨rfl, f1, d1, hU1, ft⟩
    obtain ⟨bC, gC, vC⟩ := mid kA ft (Ext.refl fp _)
    refine ⟨_, rfl, c3 gC, c2 gC, c1 gC, e6 bC, d2 bC, (num _ hlt vC).mono ?_, byt (lR kA ft (Ext.refl fp _)) (fun sE wE tE kE => ?_)⟩
    ·rintro e wN ⟨rfl, kN⟩
     obtain ⟨bN, gN, vN⟩ := mid kA ft kN
     refine ⟨_, rfl, c3 gN, c2 gN, c1 gN, e6 bN, d2 bN, byt (lR kA ft kN) (fun sE wE tE kE => ?_)⟩
     obtain ⟨bE, gE, vE⟩ := mid kA ft (kN.trans kE)
     refine ⟨c2 gE, c1 gE, e6 bE, d2 bE, (R kA ft (kN.trans kE) tE).mono ?_⟩
     rintro e wZ ⟨rfl, hx⟩
     exact ⟨_, rfl, fin (h7.ae kA) hU1 ft (kN.trans kE) hx (by omega) rfl⟩
    ·obtain ⟨bE, gE, vE⟩ := mid kA ft kE
     refine ⟨c2 gE, c1 gE, e6 bE, d2 bE, (num _ hlt vE).mono ?_⟩
     rintro e wN ⟨rfl, kN⟩
     obtain ⟨bN, gN, vN⟩ := mid kA ft (kE.trans kN)
     refine ⟨_, rfl, c2 gN, c1 gN, e6 bN, d2 bN, (R kA ft (kE.trans kN) (tE.ae kN)).mono ?_⟩
     rintro e wZ ⟨rfl, hx⟩
     exact ⟨_, rfl, fin (h7.ae kA) hU1 ft (kE.trans kN) hx (by omega) rfl⟩
   ·have kB := kA.trans kB'
    obtain ⟨bB, gB, vB⟩ := oo kB
    refine ⟨c2 gB, c1 gB, e6 bB, d2 bB, c2 gB, c1 gB, e4 bB, d0 bB, (C kB ((tF tA).ae kB')).mono ?_⟩
    rintro e wC ⟨rfl, f1, d1, hU1, ft⟩
    obtain ⟨bC, gC, vC⟩ := mid kB ft (Ext.refl fp _)
    refine ⟨_, rfl, c2 gC, c1 gC, e6 bC, d2 bC, (num _ hlt vC).mono ?_⟩
    rintro e wN ⟨rfl, kN⟩
    obtain ⟨bN, gN, vN⟩ := mid kB ft kN
    refine ⟨_, rfl, c2 gN, c1 gN, e6 bN, d2 bN, (R kB ft kN ((tB.mid ft).ae kN)).mono ?_⟩
    rintro e wZ ⟨rfl, hx⟩
    exact ⟨_, rfl, fin (h7.ae kB) hU1 ft kN hx (by omega) rfl⟩
  ·have kD := kd.trans kD'
   obtain ⟨bD, gD, vD⟩ := oo kD
   refine ⟨c2 gD, c1 gD, e6 bD, d2 bD, c3 gD, c2 gD, c1 gD, e4 bD, d0 bD, byt (lB kD) (fun sG wG tG kG' => ?_)⟩
   have kG := kD.trans kG'
   obtain ⟨bG, gG, vG⟩ := oo kG
   refine ⟨c2 gG, c1 gG, e6 bG, d2 bG, c2 gG, c1 gG, e4 bG, d0 bG, (C kG (tF tG)).mono ?_⟩
   rintro e wC ⟨rfl, f1, d1, hU1, ft⟩
   obtain ⟨bC, gC, vC⟩ := mid kG ft (Ext.refl fp _)
   refine ⟨_, rfl, c2 gC, c1 gC, e6 bC, d2 bC, (num _ hlt vC).mono ?_⟩
   rintro e wN ⟨rfl, kN⟩
   obtain ⟨bN, gN, vN⟩ := mid kG ft kN
   refine ⟨_, rfl, c2 gN, c1 gN, e6 bN, d2 bN, (R kG ft kN (((tD.ae kG').mid ft).ae kN)).mono ?_⟩
   rintro e wZ ⟨rfl, hx⟩
   exact ⟨_, rfl, fin (h7.ae kG) hU1 ft kN hx (by omega) rfl⟩
  -- </STEP>
 ·-- Others, and Write
  have kb7 := h7.kb
  refine ⟨fun w2 => ∃ (f8 : Nat -> UnF) (d8 : Nat -> aK) (fr8 : Nat -> RuF) (P8 : Nat -> List RuE) (top8 : Nat -> Int) (S8 : Nat -> UnS), ea A wb w2 rx (m + 3) r rd r2 f8 d8 fr8 P8 top8 S8 p up ep cs /\ ObF w2 (FB 6 r rd f8) r6 (dy (x1, x2, x3, x4)), aa rfl ⟨_, _, q4 hd.o, (jP ep p.s cs _ (h7.c1.ae (kb7.trans kd)) (by omega)).mono ?_⟩, ?_⟩
  ·rintro e w165 ⟨b, rfl, hb, k165'⟩
   have k165 : ah w7 w165 := kd.trans k165'
   have h165 := h7.ae k165
   have g165 := o6.ae k165
   refine ⟨b, rfl, aj (fun hbt => ?_) (fun _ => ?_)⟩
   rotate_left
   ·have hJ : ∃ (f8 : Nat -> UnF) (d8 : Nat -> aK) (fr8 : Nat -> RuF) (P8 : Nat -> List RuE) (top8 : Nat -> Int) (S8 : Nat -> UnS), ea A wb w165 rx (m + 3) r rd r2 f8 d8 fr8 P8 top8 S8 p up ep cs /\ ObF w165 (FB 6 r rd f8) r6 (dy (x1, x2, x3, x4)) := ⟨f, d, fr, P, top, S, h165.lift (by omega), n6F k165⟩
    exact ⟨⟨⟨hJ, hJ⟩, hJ⟩, hJ⟩
   have hr := hb.1 hbt
   have hl1 := hr.2.1
   obtain ⟨c0, hc0⟩ : ∃ c0, cs[0]'(by omega) = c0 := ⟨_, rfl⟩
   obtain ⟨hc1, hc3, _⟩ := hr.2.2.1 _ (List.getElem_mem (show 0 < cs.length by omega))
   rw [hc0] at hc1 hc3
   obtain ⟨v1, sl1, hv1, hcell1, hi1, hcap1⟩ := h7.c1.2 0 (by omega)
   obtain ⟨v2, sl2, hv2, hcell2, hi2, hcap2⟩ := h7.c2.2 0 (by omega)
   rw [hc0] at hi1 hi2
   rw [Nat.zero_mul, add_zero'] at hcell1 hcell2
   have I1 : ∀ {w2 : World}, ah wb w2 -> gQ w2 (FB 6 r rd f) sl1 c0 := fun hk => gQ.old hi1 hcap1 hc1 hk h7.U.U.F.ge
   have I2 : ∀ {w2 : World}, ah wb w2 -> gQ w2 (RB 6 r2 fr) sl2 c0 := fun hk => gQ.old hi2 hcap2 hc1 hk h7.U.rn
   have f1 : ∀ {w2 : World}, ah wb w2 -> ∃ s : Slc, World.cell? w2 v1 = some s.v /\ s.v = sl1.v := fun hk => ⟨_, hk.cell hcell1, rfl⟩
   have f2 : ∀ {w2 : World}, ah wb w2 -> ∃ s : Slc, World.cell? w2 v2 = some s.v /\ s.v = sl2.v := fun hk => ⟨_, hk.cell hcell2, rfl⟩
   have hsl1 := h7.c1.1
   have hsl2 := h7.c2.1
   have kb165 := h165.kb
   have o7 := n6F (Ext.refl fp w7)
   have n6R : ¬ RB 6 r2 fr r6 := fun hh => by have := lt r6 (.inr (.inr (.inl hh))); omega
   have finJ : ∀ {wA w1 wC w3 : World} {f1 : Nat -> UnF} {d1 : Nat -> aK} {S1 : Nat -> UnS}, ah w7 wA -> ChU A w1 wb.heap.size 6 (m + 3) r rd f1 d1 S1 p.us up -> FTo 6 r rd f f1 wA w1 -> ah w1 wC -> rq wC 6 (m + 3) r2 fr p.ws up S1 w3 ->
     ∃ (f8 : Nat -> UnF) (d8 : Nat -> aK) (fr8 : Nat -> RuF) (P8 : Nat -> List RuE) (top8 : Nat -> Int) (S8 : Nat -> UnS), ea A wb w3 rx (m + 3) r rd r2 f8 d8 fr8 P8 top8 S8 p up ep cs /\ ObF w3 (FB 6 r rd f8) r6 (dy (x1, x2, x3, x4)) := by
    rintro wA w1 wC w3 f1 d1 S1 hkA hU ft hk ⟨f3, P3, t3, hR, rt⟩
    have oA := ((n6F hkA).go ft.1 ft.2.1).ae hk
    exact ⟨f1, d1, f3, P3, t3, S1, (h7.ae hkA).step hU ft hk hR rt, ⟨oA.ob.ext rt.1 n6R, oA.f⟩⟩
   refine aa rfl ⟨_, u0 h165.o, aa rfl ⟨_, u4 h165.o, aa rfl ⟨_, u5 h165.o, aa hv1 ⟨by omega, by omega, _, kb165.cell hcell1, _, a3 g165, aa rfl ⟨_, u2 h165.o, aa rfl ⟨_, u6 h165.o, aa rfl ⟨_, u7 h165.o, aa hv2 ⟨by omega, by omega, _, kb165.cell hcell2, _, a3 g165, ?_⟩⟩⟩⟩⟩⟩⟩⟩
  -- <OTHERS>
   have C : ∀ {w2 : World} {sa : Slc}, ah w7 w2 -> Txt w2 (FB 6 r rd f) sa x4 -> Calls Tryz.prog bS ⟨[p.us.v, .int .i64 ep, sl1.v, .int .i64 5, sa.v]⟩ w2 fun e w' => zy A w2 wb.heap.size 6 (m + 3) r rd f p.us up (othP 6 up ep 5 x4 c0.tail S) e w' := fun hk hs => mW (h7.ae hk).U.U (by omega) ep 5 (I1 (h7.ae hk).kb) hc3 _ x4 hs
   have R : ∀ {w1 w2 w3 : World} {f1 : Nat -> UnF} {sb : Slc}, ah w7 w1 -> FTo 6 r rd f f1 w1 w2 -> ah w2 w3 -> Txt w3 (RB 6 r2 fr) sb x4 -> Calls Tryz.prog bg ⟨[p.ws.v, .int .i64 ep, sl2.v, .int .i64 5, sb.v]⟩ w3 fun e w' => rJ w3 6 (m + 3) r2 fr p.ws up (othP 6 up ep 5 x4 c0.tail S) e w' := fun hk ft hk2 hs => yR ((h7.ae hk).mid ft hk2).1 (by omega) ep 5 (I2 ((h7.ae hk).mid ft hk2).2.2.2.1) hc3 _ x4 hs
   have ltB := h7.lt
   have lB : ∀ {w2 : World}, ah w7 w2 -> ∀ k, qa 6 r rd r2 f fr k -> k < w2.heap.size := fun hk k hh => by have := ltB k hh; have := hk.size; omega
   have lR : ∀ {w1 w2 w3 : World} {f1 : Nat -> UnF}, ah w7 w1 -> FTo 6 r rd f f1 w1 w2 -> ah w2 w3 -> ∀ k, RB 6 r2 fr k -> k < w3.heap.size := fun hk ft hk2 k hh => by
    have := ltB k (.inr (.inr (.inl hh))); have := hk.size; have := ft.1.size; have := hk2.size; omega
   have mid : ∀ {w1 w2 w3 : World} {f1 : Nat -> UnF}, ah w7 w1 -> FTo 6 r rd f f1 w1 w2 -> ah w2 w3 -> aq w3 rx (fk p ep) /\ aq w3 r6 (dy (x1, x2, x3, x4)) /\ ah wb w3 := fun hk ft hk2 => by
    have hM := (h7.ae hk).mid ft hk2
    exact ⟨hM.2.1, (((o7.ae hk).go ft.1 ft.2.1).ae hk2).ob, hM.2.2.2.1⟩
   have oo : ∀ {w2 : World}, ah w7 w2 -> aq w2 rx (fk p ep) /\ aq w2 r6 (dy (x1, x2, x3, x4)) /\ ah wb w2 := fun hk => ⟨(h7.ae hk).o, (o7.ae hk).ob, (h7.ae hk).kb⟩
   have tF : ∀ {w2 : World} {sa : Slc}, Txt w2 (qa 6 r rd r2 f fr) sa x4 -> Txt w2 (FB 6 r rd f) sa x4 := fun ht => ht.mono (fun k hk => .inl hk)
   have hlt := po (N := 6) (up := up) ep 5 x4 c0.tail S
   refine ⟨byt (lB k165) (fun sA wA tA kA' => ?_), byt (lB k165) (fun sD wD tD kD' => ?_)⟩
   ·have kA := k165.trans kA'
    obtain ⟨bA, gA, vA⟩ := oo kA
    refine ⟨c3 gA, f2 vA, d7 bA, d6 bA, d2 bA, f1 vA, d5 bA, d4 bA, d0 bA, (C kA (tF tA)).mono ?_, byt (lB kA) (fun sB wB tB kB' => ?_)⟩
    ·rintro e wC ⟨rfl, f1, d1, hU1, ft⟩
     obtain ⟨bC, gC, vC⟩ := mid kA ft (Ext.refl fp _)
     refine ⟨_, rfl, c3 gC, f2 vC, d7 bC, d6 bC, d2 bC, (num _ hlt vC).mono ?_, byt (lR kA ft (Ext.refl fp _)) (fun sE wE tE kE => ?_)⟩
     ·rintro e wN ⟨rfl, kN⟩
      obtain ⟨bN, gN, vN⟩ := mid kA ft kN
      refine ⟨_, rfl, c3 gN, f2 vN, d7 bN, d6 bN, d2 bN, byt (lR kA ft kN) (fun sE wE tE kE => ?_)⟩
      obtain ⟨bE, gE, vE⟩ := mid kA ft (kN.trans kE)
      refine ⟨f2 vE, d7 bE, d6 bE, d2 bE, (R kA ft (kN.trans kE) tE).mono ?_⟩
      rintro e wZ ⟨rfl, hx⟩
      exact ⟨_, rfl, aT (fun g => absurd rfl g) (fun _ => finJ kA hU1 ft (kN.trans kE) hx)⟩
     ·obtain ⟨bE, gE, vE⟩ := mid kA ft kE
      refine ⟨f2 vE, d7 bE, d6 bE, d2 bE, (num _ hlt vE).mono ?_⟩
      rintro e wN ⟨rfl, kN⟩
      obtain ⟨bN, gN, vN⟩ := mid kA ft (kE.trans kN)
      refine ⟨_, rfl, f2 vN, d7 bN, d6 bN, d2 bN, (R kA ft (kE.trans kN) (tE.ae kN)).mono ?_⟩
      rintro e wZ ⟨rfl, hx⟩
      exact ⟨_, rfl, aT (fun g => absurd rfl g) (fun _ => finJ kA hU1 ft (kE.trans kN) hx)⟩
    ·have kB := kA.trans kB'
     obtain ⟨bB, gB, vB⟩ := oo kB
     refine ⟨f2 vB, d7 bB, d6 bB, d2 bB, f1 vB, d5 bB, d4 bB, d0 bB, (C kB ((tF tA).ae kB')).mono ?_⟩
     rintro e wC ⟨rfl, f1, d1, hU1, ft⟩
     obtain ⟨bC, gC, vC⟩ := mid kB ft (Ext.refl fp _)
     refine ⟨_, rfl, f2 vC, d7 bC, d6 bC, d2 bC, (num _ hlt vC).mono ?_⟩
     rintro e wN ⟨rfl, kN⟩
     obtain ⟨bN, gN, vN⟩ := mid kB ft kN
     refine ⟨_, rfl, f2 vN, d7 bN, d6 bN, d2 bN, (R kB ft kN ((tB.mid ft).ae kN)).mono ?_⟩
     rintro e wZ ⟨rfl, hx⟩
     exact ⟨_, rfl, aT (fun g => absurd rfl g) (fun _ => finJ kB hU1 ft kN hx)⟩
   ·have kD := k165.trans kD'
    obtain ⟨bD, gD, vD⟩ := oo kD
    refine ⟨f2 vD, d7 bD, d6 bD, d2 bD, c3 gD, f1 vD, d5 bD, d4 bD, d0 bD, byt (lB kD) (fun sG wG tG kG' => ?_)⟩
    have kG := kD.trans kG'
    obtain ⟨bG, gG, vG⟩ := oo kG
    refine ⟨f2 vG, d7 bG, d6 bG, d2 bG, f1 vG, d5 bG, d4 bG, d0 bG, (C kG (tF tG)).mono ?_⟩
    rintro e wC ⟨rfl, f1, d1, hU1, ft⟩
    obtain ⟨bC, gC, vC⟩ := mid kG ft (Ext.refl fp _)
    refine ⟨_, rfl, f2 vC, d7 bC, d6 bC, d2 bC, (num _ hlt vC).mono ?_⟩
    rintro e wN ⟨rfl, kN⟩
    obtain ⟨bN, gN, vN⟩ := mid kG ft kN
    refine ⟨_, rfl, f2 vN, d7 bN, d6 bN, d2 bN, (R kG ft kN (((tD.ae kG').mid ft).ae kN)).mono ?_⟩
    rintro e wZ ⟨rfl, hx⟩
    exact ⟨_, rfl, aT (fun g => absurd rfl g) (fun _ => finJ kG hU1 ft kN hx)⟩
  -- </OTHERS>
  ·rintro w302 ⟨f8, d8, fr8, P8, top8, S8, h8, o8⟩
   intros
   have k302 : ah w302 (World.drew w302) := Ext.drew _ _
   have hd8 := h8.ae k302
   have od8 := (o8.ae k302).ob
   refine aa rfl ⟨_, u0 hd8.o, aa rfl ⟨_, _, q4 hd8.o, _, a1 od8, _, a3 od8, aa rfl ⟨_, u2 hd8.o, aa rfl ⟨_, _, q6 hd8.o, _, a1 od8, _, a3 od8, ?_⟩⟩⟩⟩
  -- <WRITE>
   have C : ∀ {w2 : World} {sa : Slc}, ah w302 w2 -> Txt w2 (FB 6 r rd f8) sa x4 -> Calls Tryz.prog dP ⟨[p.us.v, .agg ⟨[.int .i64 ep, p.s.v]⟩, .int .i64 x2, sa.v]⟩ w2 fun e w' => zy A w2 wb.heap.size 6 (m + 3 + 4) r rd f8 p.us up (wrA 6 up ep cs x2 x4 S8) e w' := fun hk hs => yM (h8.ae hk).U.U (by omega) ep x2 (h8.ae hk).plF (by omega) _ x4 hs
   have R : ∀ {w1 w2 w3 : World} {f1 : Nat -> UnF} {sb : Slc}, ah w302 w1 -> FTo 6 r rd f8 f1 w1 w2 -> ah w2 w3 -> Txt w3 (RB 6 r2 fr8) sb x4 -> Calls Tryz.prog bh ⟨[p.ws.v, .agg ⟨[.int .i64 ep, p.s2.v]⟩, .int .i64 x2, sb.v]⟩ w3 fun e w' => rJ w3 6 (m + 3 + 4) r2 fr8 p.ws up (wrA 6 up ep cs x2 x4 S8) e w' := fun hk ft hk2 hs => wk ((h8.ae hk).mid ft hk2).1 (by omega) ep x2 ((h8.ae hk).mid ft hk2).2.2.1 (by omega) _ x4 hs
   have ltB := h8.lt
   have lB : ∀ {w2 : World}, ah w302 w2 -> ∀ k, qa 6 r rd r2 f8 fr8 k -> k < w2.heap.size := fun hk k hh => by have := ltB k hh; have := hk.size; omega
   have lR : ∀ {w1 w2 w3 : World} {f1 : Nat -> UnF}, ah w302 w1 -> FTo 6 r rd f8 f1 w1 w2 -> ah w2 w3 -> ∀ k, RB 6 r2 fr8 k -> k < w3.heap.size := fun hk ft hk2 k hh => by
    have := ltB k (.inr (.inr (.inl hh))); have := hk.size; have := ft.1.size; have := hk2.size; omega
   have mid : ∀ {w1 w2 w3 : World} {f1 : Nat -> UnF}, ah w302 w1 -> FTo 6 r rd f8 f1 w1 w2 -> ah w2 w3 -> aq w3 rx (fk p ep) /\ aq w3 r6 (dy (x1, x2, x3, x4)) /\ ah wb w3 := fun hk ft hk2 => by
    have hM := (h8.ae hk).mid ft hk2
    exact ⟨hM.2.1, (((o8.ae hk).go ft.1 ft.2.1).ae hk2).ob, hM.2.2.2.1⟩
   have oo : ∀ {w2 : World}, ah w302 w2 -> aq w2 rx (fk p ep) /\ aq w2 r6 (dy (x1, x2, x3, x4)) /\ ah wb w2 := fun hk => ⟨(h8.ae hk).o, (o8.ae hk).ob, (h8.ae hk).kb⟩
   have tF : ∀ {w2 : World} {sa : Slc}, Txt w2 (qa 6 r rd r2 f8 fr8) sa x4 -> Txt w2 (FB 6 r rd f8) sa x4 := fun ht => ht.mono (fun k hk => .inl hk)
   have hlt := HM (S := S8) (up := up) (ep := ep) (cs := cs) (t := x4) (a := x2) (N := 6)
   refine ⟨byt (lB k302) (fun sA wA tA kA' => ?_), byt (lB k302) (fun sD wD tD kD' => ?_)⟩
   ·have kA := k302.trans kA'
    obtain ⟨bA, gA, vA⟩ := oo kA
    refine ⟨c3 gA, c1 gA, e6 bA, d2 bA, c1 gA, e4 bA, d0 bA, (C kA (tF tA)).mono ?_, byt (lB kA) (fun sB wB tB kB' => ?_)⟩
    ·rintro e wC ⟨rfl, f1, d1, hU1, ft⟩
     obtain ⟨bC, gC, vC⟩ := mid kA ft (Ext.refl fp _)
     refine ⟨_, rfl, c3 gC, c1 gC, e6 bC, d2 bC, (num _ hlt vC).mono ?_, byt (lR kA ft (Ext.refl fp _)) (fun sE wE tE kE => ?_)⟩
     ·rintro e wN ⟨rfl, kN⟩
      obtain ⟨bN, gN, vN⟩ := mid kA ft kN
      refine ⟨_, rfl, c3 gN, c1 gN, e6 bN, d2 bN, byt (lR kA ft kN) (fun sE wE tE kE => ?_)⟩
      obtain ⟨bE, gE, vE⟩ := mid kA ft (kN.trans kE)
      refine ⟨c1 gE, e6 bE, d2 bE, (R kA ft (kN.trans kE) tE).mono ?_⟩
      rintro e wZ ⟨rfl, hx⟩
      exact ⟨_, rfl, fin (h8.ae kA) hU1 ft (kN.trans kE) hx (by omega) rfl⟩
     ·obtain ⟨bE, gE, vE⟩ := mid kA ft kE
      refine ⟨c1 gE, e6 bE, d2 bE, (num _ hlt vE).mono ?_⟩
      rintro e wN ⟨rfl, kN⟩
      obtain ⟨bN, gN, vN⟩ := mid kA ft (kE.trans kN)
      refine ⟨_, rfl, c1 gN, e6 bN, d2 bN, (R kA ft (kE.trans kN) (tE.ae kN)).mono ?_⟩
      rintro e wZ ⟨rfl, hx⟩
      exact ⟨_, rfl, fin (h8.ae kA) hU1 ft (kE.trans kN) hx (by omega) rfl⟩
    ·have kB := kA.trans kB'
     obtain ⟨bB, gB, vB⟩ := oo kB
     refine ⟨c1 gB, e6 bB, d2 bB, c1 gB, e4 bB, d0 bB, (C kB ((tF tA).ae kB')).mono ?_⟩
     rintro e wC ⟨rfl, f1, d1, hU1, ft⟩
     obtain ⟨bC, gC, vC⟩ := mid kB ft (Ext.refl fp _)
     refine ⟨_, rfl, c1 gC, e6 bC, d2 bC, (num _ hlt vC).mono ?_⟩
     rintro e wN ⟨rfl, kN⟩
     obtain ⟨bN, gN, vN⟩ := mid kB ft kN
     refine ⟨_, rfl, c1 gN, e6 bN, d2 bN, (R kB ft kN ((tB.mid ft).ae kN)).mono ?_⟩
     rintro e wZ ⟨rfl, hx⟩
     exact ⟨_, rfl, fin (h8.ae kB) hU1 ft kN hx (by omega) rfl⟩
   ·have kD := k302.trans kD'
    obtain ⟨bD, gD, vD⟩ := oo kD
    refine ⟨c1 gD, e6 bD, d2 bD, c3 gD, c1 gD, e4 bD, d0 bD, byt (lB kD) (fun sG wG tG kG' => ?_)⟩
    have kG := kD.trans kG'
    obtain ⟨bG, gG, vG⟩ := oo kG
    refine ⟨c1 gG, e6 bG, d2 bG, c1 gG, e4 bG, d0 bG, (C kG (tF tG)).mono ?_⟩
    rintro e wC ⟨rfl, f1, d1, hU1, ft⟩
    obtain ⟨bC, gC, vC⟩ := mid kG ft (Ext.refl fp _)
    refine ⟨_, rfl, c1 gC, e6 bC, d2 bC, (num _ hlt vC).mono ?_⟩
    rintro e wN ⟨rfl, kN⟩
    obtain ⟨bN, gN, vN⟩ := mid kG ft kN
    refine ⟨_, rfl, c1 gN, e6 bN, d2 bN, (R kG ft kN (((tD.ae kG').mid ft).ae kN)).mono ?_⟩
    rintro e wZ ⟨rfl, hx⟩
    exact ⟨_, rfl, fin (h8.ae kG) hU1 ft kN hx (by omega) rfl⟩
  -- </WRITE>
 ·-- Read
  have lt7 := h7.lt
  refine aa rfl ⟨_, u0 hd.o, aa rfl ⟨_, _, q4 hd.o, _, a1 od, (EK hd.U.U (by omega) ep x2 hd.plF (by omega)).mono ?_⟩⟩
  rintro e wC ⟨u, rfl, hbu, hfu, f1, d1, hU1, ft⟩
  have kC : ah wC (World.drew wC) := Ext.drew _ _
  obtain ⟨hM1, hM2, hM3, hM4, _⟩ := hd.mid ft kC
  have gC := (((n6F kd).go ft.1 ft.2.1).ae kC).ob
  refine ⟨u, _, rfl, aa rfl ⟨_, u2 hM2, aa rfl ⟨_, _, q6 hM2, _, a1 gC, (yT hM1 (by omega) ep x2 hM3 (by omega)).mono ?_⟩⟩⟩
  rintro e w3 ⟨v, rfl, hbv, hx⟩
  have hb3 : au w3 u (rdA 6 up ep cs x2 S).2.1 := by
   obtain ⟨f3, P3, t3, hR3, rt3⟩ := hx
   refine cC (aG hbu kC) rt3.1 (fun k hk hh => ?_)
   have g1 := hfu k hk
   have g2 := lt7 k (.inr (.inr (.inl hh)))
   have g3 := kd.size
   omega
  obtain ⟨g1, g2⟩ := fin (x := (rdA 6 up ep cs x2 S).1) hd hU1 ft kC hx (by omega) rfl
  refine ⟨v, _, rfl, _, hb3, _, hbv, af (fun _ => (num _ (HO (S := S)) (by obtain ⟨f4, d4, fr4, P4, t4, S4, up4, g4⟩ := g2; exact g4.kb)).mono ?_) (fun hh => absurd rfl hh)⟩
  rintro e w4 ⟨rfl, k4⟩
  refine ⟨_, rfl, g1, ?_⟩
  obtain ⟨f4, d4, fr4, P4, t4, S4, up4, g4⟩ := g2
  exact ⟨f4, d4, fr4, P4, t4, S4, up4, g4.ae k4⟩
 ·-- Fill
  have lt7 := h7.lt
  refine aa rfl ⟨_, u0 hd.o, aa rfl ⟨_, _, q4 hd.o, _, a1 od, (Ai hd.U.U (by omega) ep x2 hd.plF (by omega)).mono ?_⟩⟩
  rintro e wC ⟨u, rfl, hbu, hfu, f1, d1, hU1, ft⟩
  have kC : ah wC (World.drew wC) := Ext.drew _ _
  obtain ⟨hM1, hM2, hM3, hM4, _⟩ := hd.mid ft kC
  have gC := (((n6F kd).go ft.1 ft.2.1).ae kC).ob
  refine ⟨u, _, rfl, aa rfl ⟨_, u2 hM2, aa rfl ⟨_, _, q6 hM2, _, a1 gC, (yU hM1 (by omega) ep x2 hM3 (by omega)).mono ?_⟩⟩⟩
  rintro e w3 ⟨v, rfl, hbv, hx⟩
  have hb3 : au w3 u (flA 6 up ep cs x2 S).2.1 := by
   obtain ⟨f3, P3, t3, hR3, rt3⟩ := hx
   refine cC (aG hbu kC) rt3.1 (fun k hk hh => ?_)
   have g1 := hfu k hk
   have g2 := lt7 k (.inr (.inr (.inl hh)))
   have g3 := kd.size
   omega
  obtain ⟨g1, g2⟩ := fin (x := (flA 6 up ep cs x2 S).1) hd hU1 ft kC hx (by omega) rfl
  refine ⟨v, _, rfl, _, hb3, _, hbv, af (fun _ => (num _ (HP (S := S)) (by obtain ⟨f4, d4, fr4, P4, t4, S4, up4, g4⟩ := g2; exact g4.kb)).mono ?_) (fun hh => absurd rfl hh)⟩
  rintro e w4 ⟨rfl, k4⟩
  refine ⟨_, rfl, g1, ?_⟩
  obtain ⟨f4, d4, fr4, P4, t4, S4, up4, g4⟩ := g2
  exact ⟨f4, d4, fr4, P4, t4, S4, up4, g4.ae k4⟩
 ·-- Trim
  refine aa rfl ⟨_, u0 hd.o, aa rfl ⟨_, _, q4 hd.o, _, a1 od, aa rfl ⟨_, u2 hd.o, aa rfl ⟨_, _, q6 hd.o, _, a1 od, (EN hd.U.U (by omega) ep x2 hd.plF (by omega)).mono ?_⟩⟩⟩⟩
  rintro e wC ⟨rfl, f1, d1, hU1, ft⟩
  have kC : ah wC wC := Ext.refl _ _
  obtain ⟨hM1, hM2, hM3, hM4, _⟩ := hd.mid ft kC
  have gC := ((n6F kd).go ft.1 ft.2.1).ob
  refine ⟨_, rfl, c1 gC, e6 hM2, d2 hM2, (num _ (HQ (S := S)) hM4).mono ?_⟩
  rintro e wN ⟨rfl, kN⟩
  obtain ⟨hN1, hN2, hN3, hN4, _⟩ := hd.mid ft kN
  have gN := (((n6F kd).go ft.1 ft.2.1).ae kN).ob
  refine ⟨_, rfl, c1 gN, e6 hN2, d2 hN2, (yV hN1 (by omega) ep x2 hN3 (by omega)).mono ?_⟩
  rintro e w3 ⟨rfl, hx⟩
  exact ⟨_, rfl, fin hd hU1 ft kN hx (by omega) rfl⟩
 ·-- Tail
  refine aa rfl ⟨_, u0 hd.o, aa rfl ⟨_, _, q4 hd.o, (EP hd.U.U ep hd.plF (by omega)).mono ?_⟩⟩
  rintro e wC ⟨rfl, kC⟩
  have kC' : ah (World.drew w7) (World.drew wC) := kC.drew
  have hC := hd.ae kC'
  refine ⟨_, _, rfl, aa rfl ⟨_, u2 hC.o, aa rfl ⟨_, _, q6 hC.o, (yW hC.U.R ep hC.plR (by omega)).mono ?_⟩⟩⟩
  rintro e w3 ⟨rfl, k3⟩
  have h3' := hC.ae k3
  refine ⟨_, _, rfl, af (fun _ => (num _ (HR (S := S)) h3'.kb).mono ?_) (fun hh => absurd rfl hh)⟩
  rintro e w4 ⟨rfl, k4⟩
  exact ⟨_, rfl, by rw [decide_eq_true rfl], (h3'.ae k4).ex (by omega)⟩
 ·-- Seal
  rw [hwk']
  obtain ⟨v1, hv1, hcell1⟩ := bc hd.al.cells (i := kn) (by rw [bO]; exact hwl)
  have e1 : (usL 6 dN r)[kn]'(by rw [bO]; exact hwl) = av (r kn) := by rw [ll]; rfl
  rw [e1] at hcell1
  have hal := hd.al.1
  rw [bO] at hal
  refine aa rfl ⟨_, u1 hd.o, aa hv1 ⟨by omega, by omega, _, by rw [Int.toNat_natCast, Nat.mul_one]; exact hcell1, _, a1 od, ?_⟩⟩
  refine (Dj A (hd.U.U.F.U kn hwl) hd.U.U.F.E (by omega) x2).mono ?_
  rintro e wC ⟨n, e', rfl, hout, hnum⟩
  obtain ⟨rfl, f1, d1, hU1, hn1, hs1, uf⟩ := hout.live (hd.U.U.F.k kn hwl).2
  have hnn := hnum rfl
  rw [(hd.U.U.F.k kn hwl).1] at hU1 hnn ⊢
  obtain ⟨hF1, ft⟩ := hd.U.U.F.step hwl hU1 (by omega) hn1 hs1 uf
  have hUC := hd.U.U.to hF1 ft
  have kC : ah wC (World.drew wC) := Ext.drew _ _
  obtain ⟨hM1, hM2, hM3, hM4, hM5⟩ := hd.mid ft kC
  have gC := (((n6F kd).go ft.1 ft.2.1).ae kC).ob
  obtain ⟨v2, hv2, hcell2⟩ := bc hM5.cells (i := kn) (by rw [bO]; exact hwl)
  have e2 : (usL 6 dN r2)[kn]'(by rw [bO]; exact hwl) = av (r2 kn) := by rw [ll]; rfl
  rw [e2] at hcell2
  have hod := hM5.1
  rw [bO] at hod
  refine ⟨n, _, rfl, aa rfl ⟨_, u3 hM2, aa hv2 ⟨by omega, by omega, _, by rw [Int.toNat_natCast, Nat.mul_one]; exact hcell2, _, a1 gC, ?_⟩⟩⟩
  have hp := hM1.F.pl kn hwl
  refine (zD (hM1.F.R kn hwl) hp.2.ok (by omega) x2).mono ?_
  rintro e w3 ⟨rfl, fr1, hR1, hto⟩
  obtain ⟨hFR, rt⟩ := hM1.F.step hwl hR1 (m' := m + 1) (by omega) (by omega) (Gd hp.2 x2) hto
  have hPl := hd.step hUC ft kC (hM1.to hFR rt) rt
  refine ⟨_, _, rfl, af (fun _ => (num _ (Gb (k := 2) (s := S kn) (epoch := x2)) hPl.kb).mono ?_) (fun hh => absurd hnn hh)⟩
  rintro e w4 ⟨rfl, k4⟩
  exact ⟨_, rfl, by rw [decide_eq_true rfl], (hPl.ae k4).ex (by omega)⟩
 ·-- a unit goes down
  rw [hwk']
  obtain ⟨v1, v2, hv1, hv2, g1, g2⟩ := hd.put hwl false
  have hsu := hd.U.U.sl
  have hsw := hd.U.R.sl
  refine aa rfl ⟨_, u0 hd.o, aa rfl ⟨_, u2 hd.o, aa hv1 ⟨by omega, by omega, by rw [Int.toNat_natCast]; exact g1, fun w610 hw610 => ?_⟩⟩⟩
  rw [Int.toNat_natCast] at hw610
  obtain ⟨g3, g4⟩ := g2 w610 hw610
  refine aa hv2 ⟨by omega, by omega, by rw [Int.toNat_natCast]; exact g3, fun w612 hw612 => ?_⟩
  rw [Int.toNat_natCast] at hw612
  exact ⟨rfl, (g4 w612 hw612).ex (by omega)⟩
 ·-- a unit is up again
  rw [hwk']
  obtain ⟨v1, v2, hv1, hv2, g1, g2⟩ := hd.put hwl true
  have hsu := hd.U.U.sl
  have hsw := hd.U.R.sl
  obtain ⟨y1, hy1, hcell1⟩ := bc hd.al.cells (i := kn) (by rw [bO]; exact hwl)
  have e1 : (usL 6 dN r)[kn]'(by rw [bO]; exact hwl) = av (r kn) := by rw [ll]; rfl
  rw [e1] at hcell1
  obtain ⟨y2, hy2, hcell2⟩ := bc hd.od.cells (i := kn) (by rw [bO]; exact hwl)
  have e2 : (usL 6 dN r2)[kn]'(by rw [bO]; exact hwl) = av (r2 kn) := by rw [ll]; rfl
  rw [e2] at hcell2
  have hal := hd.al.1
  have hod := hd.od.1
  rw [bO] at hal hod
  refine aa rfl ⟨_, u0 hd.o, aa rfl ⟨_, u2 hd.o, aa rfl ⟨_, u1 hd.o, aa hy1 ⟨by omega, by omega, _, by rw [Int.toNat_natCast, Nat.mul_one]; exact hcell1, aa rfl ⟨_, u3 hd.o, aa hy2 ⟨by omega, by omega, _, by rw [Int.toNat_natCast, Nat.mul_one]; exact hcell2, ?_⟩⟩⟩⟩⟩⟩
  refine aa hv1 ⟨by omega, by omega, by rw [Int.toNat_natCast]; exact g1, fun w626 hw626 => ?_⟩
  rw [Int.toNat_natCast] at hw626
  obtain ⟨g3, g4⟩ := g2 w626 hw626
  refine aa hv2 ⟨by omega, by omega, by rw [Int.toNat_natCast]; exact g3, fun w628 hw628 => ?_⟩
  rw [Int.toNat_natCast] at hw628
  exact ⟨rfl, (g4 w628 hw628).ex (by omega)⟩
end
end Go.D
namespace Go.D
open Go Go.Proofs
theorem wm (A : Nat -> Addr) (ep : Int) (s : Slc) (cs : List (List Int)) (sl : Slc) (xs : List Aj) (w : World) (hC : Chs w s cs) (hl : CB w sl xs) (hE : cP A w) :
  Calls Tryz.prog dm ⟨[.agg ⟨[.int .i64 ep, s.v]⟩, sl.v]⟩ w fun e w' => e = .returned (.bool true) /\ ah w w' := by
 refine kz _ _ _ ?_
 unfold gY
 have hll := hl.1
 have hlc := hl.2.1
 refine ao (fun r4 w5 hr4 hb4 k4 hs4 => ?_)
 have o4 := aq.eS hb4
 refine (A9 A w5 (hE.ae k4)).mono ?_
 rintro e w7 ⟨rfl, k7'⟩
 have k7 := k4.trans k7'
 refine ⟨_, rfl, aj (fun g => by cases g) (fun _ => ⟨fun w2 => ah w5 w2 /\ xs.length <= 60 /\ (cs.length <= 10 /\ ∀ c ∈ cs, c.length <= 10), ⟨ep, s, (o4.ae k7').row, (Cw ep s cs w7 (hC.ae k7)).mono ?_⟩, ?_⟩)⟩
 ·rintro e w13 ⟨b, rfl, k13', hlong⟩
  have k13 := k7.trans k13'
  exact ⟨b, rfl, aj (fun _ => ⟨rfl, k13⟩) (fun g => af (fun h1 => ⟨rfl, k13⟩) (fun h1 => ⟨k7'.trans k13', by omega, hlong g⟩))⟩
 rintro w15 ⟨k15', hx60, hlg⟩
 intros
 have k15 := k4.trans k15'
 refine ⟨ep, s, (o4.ae k15').row, (Bb A w w15 hE k15 ep s cs (hC.ae k15) hlg).mono ?_⟩
 rintro e w27 ⟨wb, rx, r, rd, r2, f, d, fr, P, top, S, p, rfl, kwb, hPl, hS⟩
 have kwb0 : ah w wb := k15.trans kwb
 have hEb : cP A wb := hE.ae kwb0
 have husl := hPl.U.U.sl
 refine ⟨_, rfl, aa rfl ⟨_, hPl.o.cell 0 (by simp [fk]), aT (fun g => absurd (by omega) g) (fun _ => ?_)⟩⟩
 refine ⟨fun i w2 => ∃ j : Nat, i = j /\ j <= xs.length /\ DW A wb rx (9 * j) r rd r2 p ep cs w2, fun i _ => ((xs.length : Int) - i).toNat, ⟨0, rfl, by omega, hPl.ex (by omega)⟩, ?_⟩
 rintro i w34 ⟨j, rfl, hj, f, d, fr, P, top, S, up, hP⟩
 intros
 have kw := kwb0.trans hP.kb
 refine af (fun h1 => ?_) (fun h1 => ⟨rfl, kw⟩)
 have hjl : j < xs.length := by omega
 obtain ⟨a, ha, hrow⟩ := hl.2.2 j hjl
 generalize xs[j] = x at hrow
 obtain ⟨x1, x2, x3, x4⟩ := x
 refine aa ha ⟨by omega, h1, _, _, _, _, by rw [Int.toNat_natCast]; exact xm hrow kw, ?_⟩
 refine qh (cs := dy (x1, x2, x3, x4)) rfl rfl (fun r54 w56 hr54 o54 k54 hs54 => ⟨_, o54.cell 3 (by simp [dy]), af (fun _ => ⟨rfl, kw.trans k54⟩) (fun h2 => ⟨_, _, _, _, o54.row, ?_⟩)⟩)
 refine (ES (hP.ae k54) (by omega) hlg.1 hEb x1 x2 x3 x4 (by have h3 : ¬ (300 : Int) < (x4.length : Int) := h2; omega)).mono ?_
 rintro e w63 ⟨rfl, hx⟩
 exact ⟨_, rfl, aj (fun g => by cases g) (fun _ => ⟨ar (by omega), ⟨j + 1, rfl, hjl, by rw [show 9 * (j + 1) = 9 * j + 9 by omega]; exact hx⟩, by dsimp only; omega⟩)⟩
theorem xN (x : Array Value) (b : Int × (Slc × List (Slc × List Int))) (sl : Slc) (xs : List Aj) (w : World) (hx : Cz.R w b x.toList) (hl : zL DV w sl xs) (A : Nat -> Addr) (hE : cP A w) :
  Calls Tryz.prog dm ⟨[.agg x, sl.v]⟩ w fun e w' => e = .returned (.bool true) /\ ah w w' := by
 obtain ⟨rfl, h, _⟩ := CA hx
 exact wm A b.1 b.2.1 _ sl xs w h (ER hl) hE
end Go.D

