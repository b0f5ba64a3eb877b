/-
  WHAT IS PROVED: contracts of functions, and the plain law, for this proof. No further conditions.
-/
import Derived.Test.YtnbddjghhmbmcaaGreatDoorAll2
import Derived.Test.YtnbddjghhmbmcaaGreatDoorVCref08
import Derived.Test.YtnbddjghhmbmcaaGreatDoorVCref04
import Derived.Test.YtnbddjghhmbmcaaGreatDoorAll1
import Derived.Test.YtnbddjghhmbmcaaGreatDoorArgs
import Derived.Test.YtnbddjghhmbmcaaGreatDoorRd
import Derived.Test.YtnbddjghhmbmcaaGreatDoorVCref09
import Derived.Test.YtnbddjghhmbmcaaGreatDoorIsNil
import Derived.Test.YtnbddjghhmbmcaaGreatDoorVCchain
import Derived.Test.YtnbddjghhmbmcaaGreatDoorVCsort
import Derived.Test.YtnbddjghhmbmcaaGreatDoorFlat
import Derived.Test.YtnbddjghhmbmcaaGreatDoorVCplan
set_option linter.unusedVariables false
set_option linter.unusedSimpArgs false
namespace Go.D
open Go Go.Proofs
section
variable {w w' : World} {n0 r rd m : Nat} {f : UnF} {d : aK} {s : UnS}
theorem UnM.H9 {st : Nat} {x : UnP} {tr ep top : Int} {pg : Int -> Option (List UInt8)} {ins : Int -> List Int} (h : UnM w r st x tr ep top pg ins) : ∀ k, UnY x k -> ¬ UnW r x k := by
 rintro k ⟨b, s0, hs0, h00, hk0⟩ hh
 obtain ⟨y1, y2⟩ := h.pb b s0 hs0 h00 k hk0
 obtain ⟨t0, _, hb0, _⟩ := (h.pv b).1 s0 hs0
 rcases hh with hh | hh | hh | ⟨n, s1, hs1, hk1⟩
 ·exact y1 hh
 ·obtain ⟨_, _, hp1, _⟩ := h.p.at'
  exact cV hb0 h00 hk0 (by rw [hh]; exact hp1)
 ·obtain ⟨_, _, hp1, _⟩ := h.i.at'
  exact cV hb0 h00 hk0 (by rw [hh]; exact hp1)
 ·exact y2 n s1 hs1 hk1
theorem F8 (P : List (Nat × List UInt8)) (tr : Nat) : (P.map fun y => (y.1 : Int)).all (fun a => decide (a < (tr : Int))) = P.all fun y => decide (y.1 < tr) := by
 rw [List.all_map]
 congr 1
 funext y
 simp [decide_eq_decide]
theorem sO {tr ep T : Nat} : ∀ U : List aO, gb U tr ep T -> pQ U tr ep -> pgM (dC tr U) tr = pgM U tr
 | [], _, _ => rfl
 | [g], _, _ => rfl
 | g :: h :: t, hO, hend => by
  show pgM (if _ then _ else _) tr = _
  split
  ·rename_i hall
   obtain ⟨hO3, hpgA⟩ := gb.drop hO hend.tail.all (fun y hy => by
    have := List.all_eq_true.1 hall y hy
    simpa using this)
   rw [sO (h :: t) hO3 hend.tail, Cn hpgA]
  ·rfl
theorem zq (A : Nat -> Addr) (h : UAt w n0 r rd f d s (m + 1)) (hE : dL A n0 w) (hm : m + 1 <= 2 ^ 60) (hend : pQ s.U s.tr s.ep) :
  Calls Tryz.prog gq ⟨[av r]⟩ w fun e w' => ∃ e', e = .returned (cm A e') /\ AY w n0 r rd f d s m (none, ⟨dC s.tr s.U, s.tr, s.ep, s.T⟩) e' w' := by
 refine qx _ ?_
 unfold mE
 have hUL := h.S.len
 have hk19 := h.S.k
 have hULe : (sU s.U).length = s.U.length := by simp
 have hso := mU (R := fun a b => a < b) h.S.I.so
 refine ao (fun r2 w3 hr2 hb2 k2 hs2 => ?_)
 have o2 := aq.eS hb2
 have lt := h.lt
 refine ⟨_, o2.cell 0 (by simp), aa rfl ⟨_, (h.ae k2).M.c.1, (qH (h.ae k2).S.B.S (by omega)).mono ?_⟩⟩
 rintro e w8 ⟨s9, rfl, hI9, hf9, k8⟩
 have z3 := k2.size
 have z8 := k8.size
 have hl9 : s9.l = s.U.length := by
  have := Rows.sl hI9
  simpa using this
 have hne : s.U ≠ [] := by
  obtain ⟨M, p, n, rs, e⟩ := hend
  rw [e]; simp
 have hpos : 0 < s.U.length := List.length_pos_iff.2 hne
 refine ⟨s9, rfl, fun i w2 => ∃ (j : Nat) (f2 : UnF) (d2 : aK) (s2 : UnS), i = j /\ j < s.U.length /\ UAt w2 n0 r rd f2 d2 s2 (m + 1) /\ s2.U = s.U.drop j /\ s2.tr = s.tr /\ s2.ep = s.ep /\ s2.T = s.T /\ pgM s2.U s.tr = pgM s.U s.tr /\ dC s.tr s2.U = dC s.tr s.U /\ pQ s2.U s.tr s.ep /\
   d2.n = d.n /\ d2.stops = d.stops /\ jq r rd f f2 w w2 /\ aB w2 s9 ((sU s.U).map fun g => (g.num : Int)) /\ (∀ k, UB r rd f2 k -> ¬ ai s9 k /\ k ≠ r2) /\ aq w2 r2 [av r], fun i _ => ((s.U.length : Int) - i).toNat,
  ⟨0, f, d, s, rfl, hpos, (h.ae k2).ae k8, by simp, rfl, rfl, rfl, rfl, rfl, hend, rfl, rfl, (k2.trans k8).Hk (jq.refl _ _ _ _), hI9, fun k hk => ⟨fun hh => ?_, ?_⟩, o2.ae k8⟩, ?_⟩
 ·have := hf9 k hh; have := lt.1 k hk; omega
 ·have := lt.1 k hk; omega
 rintro i w13 ⟨j, f2, d2, s2, rfl, hj, h2, e1, e2, e3, e4, e5, e6, hend2, hdn, hds, uf, hI13, hap, o13⟩
 intros
 have z13 := uf.1.1.size
 -- what there is
 have hdrop : s.U.drop j = s.U[j] :: s.U.drop (j + 1) := List.drop_eq_getElem_cons hj
 have same : ∀ U, yx U s2 -> yx U s := fun U ⟨t1, t2⟩ => by
  rw [e2, e3, e4] at t1
  refine ⟨t1, fun a => ?_⟩
  have := t2 a
  rw [e2] at this
  rw [this, e5]
 have done : ∀ {w5}, ah w13 w5 -> dC s.tr s2.U = s2.U -> AY w n0 r rd f d s m (none, ⟨dC s.tr s.U, s.tr, s.ep, s.T⟩) none w5 := fun k5 hr => by
  refine .inl ⟨rfl, f2, d2, ?_, hdn, hds, uf.ae k5⟩
  have := h2.ae k5
  rw [hr] at e6
  have e7 : s2 = ⟨dC s.tr s.U, s.tr, s.ep, s.T⟩ := by
   cases s2
   simp only at e2 e3 e4 e6 ⊢
   rw [e2, e3, e4, e6]
  rw [<- e7]; exact this
 refine af (fun h0 => ?_) (fun h0 => absurd h0 (by omega))
 obtain ⟨a52, ha52, hc52⟩ := hI13.get (i := j) (by simpa using hj)
 have hnum : (((sU s.U).map fun g => (g.num : Int))[j]'(by simpa using hj)) = (s.U[j].num : Int) := by simp [aO.s]
 rw [hnum] at hc52
 refine aa ha52 ⟨by omega, h0, _, by rw [Int.toNat_natCast]; exact hc52, ?_⟩
 refine ⟨fun w2 => ah w13 w2 /\ ∃ g' t', s2.U = s.U[j] :: g' :: t' /\ (pagesOf s.U[j].rs).all (fun y => decide (y.1 < s.tr)) = true, ⟨_, o13.cell 0 (by simp), aa rfl ⟨_, h2.M.c.1, (xZ h2.S.B.S (by have := h2.S.len; omega)).mono ?_⟩⟩, ?_⟩
 ·rintro e w59 ⟨rfl, k59⟩
  have h59 := h2.ae k59
  have hlen2 : (sU s2.U).length = s.U.length - j := by rw [e1]; simp
  have hlast := ot (L := sU s2.U) (by omega)
  have hso2 := mU (R := fun a b => a < b) h2.S.I.so
  have e0 : s2.U = s.U[j] :: s.U.drop (j + 1) := by rw [e1, hdrop]
  refine ⟨_, rfl, af (fun h3 => ?_) (fun h3 => ?_)⟩
  ·refine ⟨none, rfl, done k59 ?_⟩
   cases ht : s.U.drop (j + 1) with
   | nil => rw [e0, ht]; rfl
   | cons g' t' =>
    exfalso
    rw [hlast] at h3
    have hl : (s2.U).length = t'.length + 2 := by rw [e0, ht]; simp
    have e8 : ((sU s2.U)[(sU s2.U).length - 1]'(by omega)).num = (s2.U[s2.U.length - 1]'(by omega)).num := by simp [aO.s]
    rw [e8] at h3
    have := List.pairwise_iff_getElem.1 hso2 0 (s2.U.length - 1) (by omega) (by omega) (by omega)
    have e9 : s2.U[0]'(by omega) = s.U[j] := by simp [e0]
    rw [e9] at this
    omega
  ·cases ht : s.U.drop (j + 1) with
   | nil =>
    exfalso
    rw [hlast] at h3
    have hl : (s2.U).length = 1 := by rw [e0, ht]; simp
    have e8 : ((sU s2.U)[(sU s2.U).length - 1]'(by omega)).num = (s2.U[s2.U.length - 1]'(by omega)).num := by simp [aO.s]
    rw [e8] at h3
    have e9 : s2.U[s2.U.length - 1]'(by omega) = s.U[j] := by simp [e0, ht]
    rw [e9] at h3
    omega
   | cons g' t' =>
    rw [ht] at e0
    have hdist : ∀ y ∈ g' :: t', y.num ≠ s.U[j].num := fun y hy => by
     rw [e0] at hso2
     have := (List.pairwise_cons.1 hso2).1 y hy; omega
    obtain ⟨es, g1, g2⟩ := h59.M.i.get
    have hiv := h59.M.iv (s.U[j].num : Int)
    have hfew := h2.O.AX (s.U[j].num : Int)
    have hin : jw s2.U (s.U[j].num : Int) = (pagesOf s.U[j].rs).map fun y => (y.1 : Int) := by rw [e0]; exact EB hdist
    refine ⟨_, (o13.ae k59).cell 0 (by simp), aa rfl ⟨_, h59.M.c.2.2.1, es, g1, lookL f2.x.il (s.U[j].num : Int), g2 _, (yz h59.M (o13.ae k59) _ _ hiv (by omega)).mono ?_⟩⟩
    rintro e w67 ⟨rfl, rfl⟩
    rw [hin, e2, F8]
    refine ⟨_, rfl, aj (fun h4 => ⟨none, rfl, done k59 ?_⟩) (fun h4 => ⟨k59, g', t', e0, by simpa using h4⟩)⟩
    have h5 : (pagesOf s.U[j].rs).all (fun y => decide (y.1 < s.tr)) = false := by simpa using h4
    rw [e0]
    show (if _ then _ else _) = _
    rw [h5, if_neg (by simp)]
 ·rintro w69 ⟨k69, g', t', e0, hall⟩
  intros
  have h69 := h2.ae k69
  have z69 := k69.size
  have hG : dL A n0 w69 := ((hE.ext uf.1.1 h.ge).ae k69)
  have hso2 := mU (R := fun a b => a < b) h2.S.I.so
  refine ⟨_, (o13.ae k69).cell 0 (by simp), aa rfl ⟨_, h69.M.c.1, (C8 A h69.S (hG.g.sub tZ) hm (s.U[j].num : Int)).mono ?_⟩⟩
  rintro e w92 ⟨e', rfl, q', d', hD', hdn', hds', hcase⟩
  rw [e0, yA] at hcase
  have hok2 := h2.O
  rw [e0] at hok2
  have hend3 : pQ (g' :: t') s.tr s.ep := by rw [e0] at hend2; exact hend2.tail
  obtain ⟨hO3, hpgA⟩ := gb.drop (tr := s2.tr) (ep := s2.ep) (T := s2.T) hok2 (by rw [e2, e3]; exact hend3.all) (fun y hy => by
   have := List.all_eq_true.1 hall y hy
   rw [e2]; simpa using this)
  have hpgD := Cn hpgA
  have hdist : ∀ y ∈ g' :: t', y.num ≠ s.U[j].num := fun y hy => by
   rw [e0] at hso2
   have := (List.pairwise_cons.1 hso2).1 y hy; omega
  rcases hcase with ⟨h5, _⟩ | ⟨_, rfl, u', hS', ft⟩ | ⟨_, rfl, hst, hcr, ft⟩
  ·exact absurd rfl h5
  ·refine ⟨_, rfl, aF A _, aj (fun hh => by cases hh) (fun _ => ?_)⟩
   have hM92 := h69.M.ext ft.1 h69.sep (fun k hk hh => h69.uv k hk (.inr hh))
   have sepW : ∀ k, UnW r f2.x k -> ¬ cJ f2.st u' rd q' k := fun k hk hh => (ft.2 k hh).elim (h2.sep k hk) (fun hh => by have := h69.M.lt.1 k hk; omega)
   have hb92 : ∀ k, cJ f2.st u' rd q' k -> ¬ ai s9 k /\ k ≠ r2 := fun k hk => by
    rcases ft.2 k hk with g | g
    ·exact hap k (.inr g)
    ·refine ⟨fun hh => ?_, fun hh => ?_⟩
     ·have := Rows.lt hI13 k hh; omega
     ·have := o13.lt; omega
   have I92 := (hI13.ae k69).ext ft.1 (fun k hk hh => (hap k (.inr hh)).1 hk)
   have o92 := (o13.ae k69).ext ft.1 (fun hh => (hap _ (.inr hh)).2 rfl)
   obtain ⟨es1, ck1, es2, m1, m2, m3⟩ := hM92.i.del (s.U[j].num : Int)
   refine ⟨_, o92.cell 0 (by simp), aa rfl ⟨_, hM92.c.2.2.1, f2.x.mi, es1, ck1, es2, rfl, m1, m2, fun w101 hw101 => ?_⟩⟩
   obtain ⟨i101, e101, z101⟩ := m3 w101 hw101
   have hM101 := hM92.Iu (s.U[j].num : Int) i101 e101
   have hin : jw (g' :: t') = ju (jw s2.U) (s.U[j].num : Int) [] := by rw [e0]; exact EC hdist
   rw [<- hin] at hM101
   have hpg : pgM s2.U s2.tr = pgM (g' :: t') s2.tr := by rw [e0]; exact hpgD.symm
   rw [hpg] at hM101
   have hS101 := hS'.ext e101 (fun k hk hh => sepW f2.x.mi (.inr (.inr (.inl rfl))) (by rw [<- show k = f2.x.mi from hh]; exact hk))
   have jlt : j + 1 < s.U.length := by
    have : (s.U.drop j).length = t'.length + 2 := by rw [<- e1, e0]; simp
    rw [List.length_drop] at this; omega
   have subW : ∀ k, UnW r { f2.x with il := jZ f2.x.il (s.U[j].num : Int) } k -> UnW r f2.x k := by
    rintro k (hk | hk | hk | ⟨b, s1, hs1, hk⟩)
    ·exact .inl hk
    ·exact .inr (.inl hk)
    ·exact .inr (.inr (.inl hk))
    ·dsimp only at hs1
     rw [tC _ b h2.M.i.nd] at hs1
     by_cases e : b = (s.U[j].num : Int)
     ·rw [if_pos e] at hs1; cases hs1
     ·rw [if_neg e] at hs1
      exact .inr (.inr (.inr ⟨b, s1, hs1, hk⟩))
   have x101 : Ext (UB r rd f2) w13 w101 := (Ext.trans k69 (ft.1.mono (fun k hk => Or.inr hk)) (fun _ h => h.elim) (fun _ h => .inl h)).trans e101 (fun _ h => h) (fun k hk => .inl (.inl (.inr (.inr (.inl hk)))))
   have uf101 : jq r rd f2 ⟨f2.st, { f2.x with il := jZ f2.x.il (s.U[j].num : Int) }, u', q', f2.top⟩ w13 w101 := by
    refine ⟨⟨x101, fun k hk => ?_⟩, fun k hk => .inl hk⟩
    rcases hk with hk | hk
    ·exact .inl (.inl (subW k hk))
    ·exact (ft.2 k hk).elim (fun g => .inl (.inr g)) (fun g => .inr (by omega))
   refine ⟨ar (by omega), ⟨j + 1, ⟨f2.st, { f2.x with il := jZ f2.x.il (s.U[j].num : Int) }, u', q', f2.top⟩, d', ⟨g' :: t', s2.tr, s2.ep, s2.T⟩, rfl, jlt, ⟨hS101, hM101, hO3, h2.t, h2.T, fun k hk hh => sepW k (subW k hk) hh, fun k hk hh => ?_, fun k hk => h2.n k (subW k hk)⟩, ?_, e2, e3, e4, ?_, ?_, hend3, by rw [hdn', hdn], by rw [hds', hds], uf.trans uf101, ?_, ?_, ?_⟩, by dsimp only; omega⟩
   ·rcases hh with hh | hh
    ·exact h2.uv k hk (.inl (subW k hh))
    ·rcases ft.2 k hh with g | g
     ·exact h2.uv k hk (.inr g)
     ·have := h69.M.lt.2 k hk; omega
   ·show g' :: t' = s.U.drop (j + 1)
    have : (s.U.drop j).tail = (s2.U).tail := by rw [e1]
    rw [hdrop, e0] at this
    exact this.symm
   ·show pgM (g' :: t') s.tr = _
    rw [<- e5, <- e2, hpg]
   ·show dC s.tr (g' :: t') = _
    rw [<- e6, e0]
    show _ = (if _ then _ else _)
    rw [hall, if_pos rfl]
   ·exact I92.ext e101 (fun k hk hh => (hap k (.inl (.inr (.inr (.inl hh))))).1 hk)
   ·rintro k (hk | hk)
    ·exact hap k (.inl (subW k hk))
    ·exact hb92 k hk
   ·exact o92.ext e101 (fun hh => (hap r2 (.inl (.inr (.inr (.inl hh))))).2 rfl)
  ·refine ⟨_, rfl, aF A _, aj (fun _ => ⟨some 11, rfl, .inr ⟨rfl, by rw [<- hds]; exact hst, q', d', hD', by rw [hdn', hdn], by rw [hds', hds], ⟨hcr.1, fun a b c => ?_⟩, ?_⟩⟩) (fun hh => by cases hh)⟩
   ·obtain ⟨L, hL, hI⟩ := hcr.2 a b c
    rw [hdn] at hI
    simp only [List.mem_cons, List.not_mem_nil, or_false] at hL
    rcases hL with rfl | rfl
    ·refine ⟨s.U[j] :: g' :: t', hI, fun g hg => h2.S.N g (by rw [e0]; exact hg), s, by simp, same _ ⟨hok2, fun a => by rw [e0]⟩⟩
    ·refine ⟨g' :: t', hI, fun g hg => h2.S.N g (by rw [e0]; exact List.mem_cons_of_mem _ hg), s, by simp, same _ ⟨hO3, fun a => by rw [hpgD, e0]⟩⟩
   ·have f1 : bJ (UB r rd f2) (bp rd q') w13 w92 := ⟨Ext.trans k69 (ft.1.mono (fun k hk => Or.inr hk)) (fun _ h => h.elim) (fun _ h => .inl h), fun k hk => (ft.2 k hk).elim (fun g => .inl (.inr g)) (fun g => .inr (by omega))⟩
    exact uf.1.trans f1
theorem yx.trans {U : List aO} {s1 s2 : UnS} (h : yx U s1) (e1 : s2.tr = s1.tr) (e2 : s2.ep = s1.ep) (e3 : s2.T = s1.T) (e4 : ∀ a, pgM s1.U s1.tr a = pgM s2.U s1.tr a) : yx U s2 := by
 obtain ⟨t1, t2⟩ := h
 refine ⟨by rw [e1, e2, e3]; exact t1, fun a => ?_⟩
 rw [e1, t2 a, e4 a]
theorem Dk (A : Nat -> Addr) (h : UAt w n0 r rd f d s m) (hE : dL A n0 w) (hm : m + 1 <= 2 ^ 60) (epoch to : Int) :
  Calls Tryz.prog iY ⟨[av r, .int .i64 epoch, .int .i64 to]⟩ w fun e w' => ∃ e', e = .returned (cm A e') /\ AY w n0 r rd f d s m (jo (d.n / 64) s epoch to) e' w' := by
 refine tw _ _ _ ?_
 unfold qy
 have hG : bK Ev A n0 w := hE.g.sub qJ
 refine (qK A h.M epoch to 4096 hG).mono ?_
 rintro e w6 ⟨rfl, rfl⟩
 unfold jo
 cases hc : eu s.ep epoch to 4096 with
 | some c => exact ⟨_, rfl, aF A _, aj (fun _ => ⟨_, rfl, h.we (Ext.refl _ _)⟩) (fun hh => by cases hh)⟩
 | none =>
  have ha : 0 <= to /\ to <= 4096 := by
   unfold eu at hc
   split at hc
   ·cases hc
   ·split at hc
    ·cases hc
    ·omega
  refine ⟨_, rfl, aF A _, aj (fun hh => by cases hh) (fun _ => aa rfl ⟨_, h.M.c.2.2.2.1, af (fun h0 => ?_) (fun h0 => ?_)⟩)⟩
  ·dsimp only
   rw [if_pos h0]
   exact ⟨none, rfl, h.we (Ext.refl _ _)⟩
  dsimp only
  rw [if_neg h0]
  obtain ⟨tn, rfl⟩ : ∃ tn : Nat, to = tn := ⟨to.toNat, by omega⟩
  rw [Int.toNat_natCast]
  have hok : okR (.trim tn s.ep) := ⟨by omega, h.T.2⟩
  have ht4 := h.T.1
  have htt := h.t
  have htl := h.O.tl
  refine (ph A h.S h.M hE (by omega) (.trim tn s.ep) hok (fun _ _ hh => by cases hh; rfl) ⟨none, 0, 0⟩ (fun ⟨_, _, hh⟩ => by cases hh)).mono ?_
  rintro e w53 ⟨n, e', w1, rfl, k1, hp⟩
  rcases hp.unit hok with ⟨ha1, rfl, hD, hk⟩ | ⟨n', V, ha1, rfl, rfl, u', q', d', hS', hn', hst', ft⟩ | ⟨n', V, ha1, rfl, hst, q', d', hD', hn', hst', hcr, ft⟩
  ·rw [ha1]
   exact ⟨_, _, rfl, aF A _, aj (fun _ => ⟨_, rfl, h.we (k1.trans hk)⟩) (fun hh => by cases hh)⟩
  ·rw [ha1]
   have hO' := uw h.O hok ha1 (fun a' t' he y hy => by cases he)
   have eT : max (ef (pgU s.U)) tn = max s.T tn := by omega
   have ft' : bJ (cJ f.st f.u rd f.q) (cJ f.st u' rd q') w6 w53 := k1.kh ft
   obtain ⟨hM53, sepW, uv⟩ := h.Hl hok (fun _ _ hh => by cases hh) ha1 hS' ft'
   obtain ⟨c1, c2⟩ := hM53.o.bf 3 (by simp) (.int .i64 (tn : Int))
   refine ⟨_, _, rfl, aF A _, aj (fun hh => by cases hh) (fun _ => aa rfl ?_)⟩
   rw [add_lit]
   refine ⟨c1, fun w14 hw14 => ?_⟩
   obtain ⟨o14, e14, _⟩ := c2 w14 hw14
   have hM14 := hM53.Ci e14 o14
   have hS14 := hS'.ext e14 (fun k hk hh => sepW r (.inl rfl) (by rw [<- show k = r from hh]; exact hk))
   have x14 : Ext (UB r rd f) w6 w14 := (ft'.1.mono (fun k hk => Or.inr hk)).trans e14 (fun _ h => h) (fun k hk => .inl (.inl (.inl hk)))
   refine (uj hM14).mono ?_
   rintro e w16 ⟨rfl, x', hM16, t1, t2, t3⟩
   have z53 := ft'.1.size
   have z14 := e14.size
   have z16 := t1.size
   have hcut : yq (tn : Int) (pgM V s.tr) = pgM V tn := by
    funext a
    unfold yq pgM
    by_cases e : a < (tn : Int)
    ·rw [if_pos e, if_pos e]
    ·rw [if_neg e, if_neg e, if_neg (by omega)]
   rw [hcut] at hM16
   have hSlt := hS'.B.lt
   have x16 : Ext (UB r rd f) w6 w16 := x14.trans t1 (fun _ h => h) (fun k hk => .inl (.inl hk))
   have hO1 : gb V tn s.ep (max s.T tn) := by
    have := hO'
    simp only [mb, tailR] at this
    rw [eT] at this; exact this
   have h16 : UAt w16 n0 r rd ⟨f.st, x', u', q', f.top⟩ d' ⟨V, tn, s.ep, max s.T tn⟩ (m + 1) := by
    refine ⟨hS14.ext t1 (fun k hk hh => sepW k hh hk), hM16, hO1, ⟨htt.1, by show max f.top (tn : Int) = ((max s.T tn : Nat) : Int); omega⟩, ⟨by show max s.T tn <= 4096; omega, h.T.2⟩, fun k hk hh => ?_, fun k hk hh => ?_, fun k hk => ?_⟩
    ·rcases t2 k hk with g | g
     ·exact sepW k g hh
     ·have := hSlt k hh; omega
    ·rcases hh with hh | hh
     ·exact hM16.H9 k hk hh
     ·have hl := hSlt k hh
      rcases t3 k hk with g | g | g
      ·exact uv k g (.inr hh)
      ·exact g
      ·omega
    ·rcases t2 k hk with g | g
     ·exact h.n k g
     ·have := h.S.B.z; omega
   have uf16 : jq r rd f ⟨f.st, x', u', q', f.top⟩ w6 w16 := by
    refine ⟨⟨x16, fun k hk => ?_⟩, fun k hk => ?_⟩
    ·rcases hk with hk | hk
     ·rcases t2 k hk with g | g
      ·exact .inl (.inl g)
      ·exact .inr (by omega)
     ·exact (ft'.2 k hk).imp .inr (fun g => g)
    ·rcases t3 k hk with g | g | g
     ·exact .inl g
     ·exact g.elim
     ·exact .inr (by omega)
   have hend : pQ V tn s.ep := by
    obtain ⟨_, _, M, g, rfl, _⟩ := gk ha1
    exact ⟨M, g.place, g.num, g.rs, rfl⟩
   refine ⟨rfl, (zq A h16 (hE.ext x16 h.ge) hm hend).mono ?_⟩
   rintro e w18 ⟨e', rfl, hcase⟩
   refine ⟨_, rfl, e', rfl, ?_⟩
   rcases hcase with ⟨rfl, f2, d2, h2, hd1, hd2, uf⟩ | ⟨rfl, hst, q2, d2, hD2, hd1, hd2, hcr, ft2⟩
   ·exact .inl ⟨rfl, f2, d2, h2, by rw [hd1, hn'], by rw [hd2, hst'], uf16.trans uf⟩
   ·refine .inr ⟨rfl, by rw [<- hst']; exact hst, q2, d2, hD2, by rw [hd1, hn'], by rw [hd2, hst'], ⟨hcr.1, fun a b c => ?_⟩, uf16.1.trans ft2⟩
    obtain ⟨U2, g1, g2, s2, g3, g4⟩ := hcr.2 a b c
    rw [hn'] at g1
    refine ⟨U2, g1, g2, _, List.mem_cons_of_mem _ (List.mem_singleton.2 rfl), ?_⟩
    simp only [List.mem_cons, List.not_mem_nil, or_false] at g3
    rcases g3 with rfl | rfl
    ·exact g4.trans rfl rfl rfl (fun a => by rw [sO V hO1 hend])
    ·exact g4
  ·rw [ha1]
   have hO' := uw h.O hok ha1 (fun a' t' he y hy => by cases he)
   have eT : max (ef (pgU s.U)) tn = max s.T tn := by omega
   have hO1 : gb V tn s.ep (max s.T tn) := by
    have := hO'
    simp only [mb, tailR] at this
    rw [eT] at this; exact this
   have hend : pQ V tn s.ep := by
    obtain ⟨_, _, M, g, rfl, _⟩ := gk ha1
    exact ⟨M, g.place, g.num, g.rs, rfl⟩
   exact ⟨_, _, rfl, aF A _, aj (fun _ => ⟨some 11, rfl, .inr ⟨rfl, hst, q', d', hD', hn', hst', hcr.unit h.S.N ha1 rfl h.O ⟨hO1, fun a => by rw [sO V hO1 hend]⟩, ⟨(k1.kh ft).1.mono (fun k hk => .inr hk), fun k hk => ((k1.kh ft).2 k hk).imp .inr (fun g => g)⟩⟩⟩) (fun hh => by cases hh)⟩
end
end Go.D
namespace Go.D
open Go Go.Proofs
structure Rz where
 g : aJ
 n : Int
 s : Slc
 c : List (List Value)
def rzC (z : Rz) : List Value := [.int .i64 (z.g.place : Int), .int .i64 (z.g.num : Int), .int .i64 z.n, z.s.v]
theorem q9 {z : Rz} {k : Nat} (h : lK (rzC z) k) : 0 < z.s.l /\ ai z.s k := by
 obtain ⟨s', hs, h1, h2⟩ := h
 have : s' = z.s := by
  obtain ⟨g, n, ⟨p, l, c⟩, c2⟩ := z
  obtain ⟨p', l', c'⟩ := s'
  simp [rzC, Slc.v] at hs
  obtain ⟨rfl, rfl, rfl⟩ := hs
  rfl
 subst this
 exact ⟨h1, h2⟩
def RzR : AA Rz where
 n := 4
 pos := by omega
 R w z cs := cs = rzC z /\ ∀ k, ai z.s k -> k < w.heap.size
 len h := by rw [h.1]; rfl
 one h := by rw [h.1]; intro v hv; simp [rzC] at hv; rcases hv with rfl | rfl | rfl | rfl <;> rfl
 ext h he _ := ⟨h.1, fun k hk => Nat.lt_of_lt_of_le (h.2 k hk) he.size⟩
 lt h := by rw [h.1]; intro k hk; exact h.2 k (q9 hk).2
theorem F9 {M : Nat -> Prop} {w w' : World} {sl : Slc} {zs : List Rz} {css : List (List Value)} (h : Rows RzR w sl zs css) (he : Ext M w w') (h1 : ∀ k, ai sl k -> ¬ M k) : Rows RzR w' sl zs css :=
 ⟨h.own.ext he h1, h.len, fun i hi hi' => ⟨(h.row i hi hi').1, fun k hk => Nat.lt_of_lt_of_le ((h.row i hi hi').2 k hk) he.size⟩, h.sep⟩
abbrev gL (zs : List Rz) : List aJ := zs.map (·.g)
structure gP (w : World) (r k : Nat) (sl : Slc) (zs : List Rz) : Prop where
 o : aq w r [.int .i64 (k : Int), sl.v]
 s : Rows RzR w sl zs (zs.map rzC)
 b : ∀ z ∈ zs, Rows pY w z.s z.g.bP z.c
 n : ∀ z ∈ zs, z.n = (sumN z.g.bP : Int)
 sep : zs.Pairwise fun x y => ∀ k, ai x.s k -> ¬ ai y.s k
 nr : ¬ ai sl r
 ds : ∀ z ∈ zs, ∀ k, ai z.s k -> k ≠ r /\ ¬ ai sl k
 bt : ∀ z ∈ zs, ∀ k, dK z.c k -> k ≠ r /\ ¬ ai sl k /\ ∀ y ∈ zs, ¬ ai y.s k
def RfW (r : Nat) (sl : Slc) (zs : List Rz) (k : Nat) : Prop := k = r \/ ai sl k \/ ∃ z ∈ zs, ai z.s k
def RfY (zs : List Rz) (k : Nat) : Prop := ∃ z ∈ zs, dK z.c k
section
variable {w w' : World} {r k : Nat} {sl : Slc} {zs : List Rz}
theorem gP.ext {M : Nat -> Prop} (h : gP w r k sl zs) (he : Ext M w w') (h1 : ∀ j, RfW r sl zs j -> ¬ M j) (h2 : ∀ j, RfY zs j -> ¬ M j) : gP w' r k sl zs := by
 refine ⟨h.o.ext he (h1 _ (.inl rfl)), h.s.ext he (fun j hj => h1 j (.inr (.inl hj))) (fun j hj => ?_), fun z hz => (h.b z hz).ext he (fun j hj => h1 j (.inr (.inr ⟨z, hz, hj⟩))) (fun j hj => h2 j ⟨z, hz, hj⟩), h.n, h.sep, h.nr, h.ds, h.bt⟩
 obtain ⟨cs, hc, hk⟩ := hj
 obtain ⟨z, hz, rfl⟩ := List.mem_map.1 hc
 exact h1 j (.inr (.inr ⟨z, hz, (q9 hk).2⟩))
theorem gP.ae (h : gP w r k sl zs) (he : ah w w') : gP w' r k sl zs := h.ext he (fun _ _ h => h) (fun _ _ h => h)
theorem gP.lt (h : gP w r k sl zs) : (∀ j, RfW r sl zs j -> j < w.heap.size) /\ ∀ j, RfY zs j -> j < w.heap.size := by
 refine ⟨?_, ?_⟩
 ·rintro j (rfl | hj | ⟨z, hz, hj⟩)
  ·exact h.o.lt
  ·exact h.s.lt j hj
  ·exact (h.b z hz).lt j hj
 ·rintro j ⟨z, hz, hj⟩
  exact (h.b z hz).flt j hj
theorem gP.c0 (h : gP w r k sl zs) : w.cell? ⟨r, 0, none⟩ = some (.int .i64 (k : Int)) := h.o.cell 0 (by simp)
theorem gP.c1 (h : gP w r k sl zs) : w.cell? ((⟨r, 0, none⟩ : Addr).add 1) = some sl.v := by rw [add_lit]; exact h.o.cell 1 (by simp)
theorem gP.at (h : gP w r k sl zs) {i : Nat} (hi : i < zs.length) : ∃ a : Addr, sl.p = some a /\ rowAt w (a.add (i * 4)) 0 (rzC zs[i]) := by
 obtain ⟨a, ha, _, hrow⟩ := h.s.get (i := i) (by simpa using hi)
 rw [List.getElem_map] at hrow
 exact ⟨a, ha, hrow⟩
theorem yB (s : Slc) (w : World) (hl : s.l <= 2 ^ 30) : Calls Tryz.prog dI ⟨[s.v]⟩ w fun e w' => e = .returned (.int .i64 (de s.l : Int)) /\ w' = w := by
 refine oR _ ?_
 unfold kL de bT
 refine ⟨ar (by omega), by omega, by omega, ar (by omega), ar (by omega), ?_, rfl⟩
 congr 2
theorem zr (h : gP w r k sl zs) (hz : zs.length <= 2 ^ 20) (hf : ∀ z ∈ zs, sumN z.g.bP <= 2 ^ 40) (s : Slc) (hl : s.l <= 2 ^ 30) :
  Calls Tryz.prog du ⟨[av r, s.v]⟩ w fun e w' => e = .returned (.bool (jn (gL zs) s.l)) /\ ah w w' := by
 refine kr _ _ ?_
 unfold gU
 have hsl := h.s.sl
 have kd : ah w (World.drew w) := Ext.drew _ _
 refine aa rfl ⟨_, h.c1, af (fun h0 => ?_) (fun h0 => ?_)⟩
 ·have hi : zs.length - 1 < zs.length := by omega
  obtain ⟨a, ha, hrow⟩ := (h.ae kd).at hi
  have e1 : Int.toNat (((sl.l : Nat) : Int) - 1) = zs.length - 1 := by omega
  have hzn := h.n _ (List.getElem_mem hi)
  have hf1 := hf _ (List.getElem_mem hi)
  refine aa rfl ⟨_, (h.ae kd).c1, ar (by omega), aa ha ⟨by omega, by omega, _, by rw [e1]; exact jk hrow 2 (by simp [rzC]), (yB s _ hl).mono ?_⟩⟩
  rintro e w10 ⟨rfl, rfl⟩
  have hnl : de s.l <= 2 ^ 30 := by unfold de bT; omega
  refine ⟨_, rfl, ⟨_, by rw [e1]; exact jk hrow 2 (by simp [rzC]), rfl⟩, ⟨_, (h.ae kd).c1, rfl⟩, ar (by omega), ?_, kd⟩
  have e2 : jn (gL zs) s.l = decide ((zs[zs.length - 1].g).fin + de s.l <= 64) := by
   have e3 : (gL zs).getLast? = some zs[zs.length - 1].g := by
    rw [List.getLast?_map, List.getLast?_eq_getElem?, List.getElem?_eq_getElem hi]; rfl
   unfold jn
   rw [e3]
  rw [e2]
  have e4 : decide (zs[zs.length - 1].n + (de s.l : Int) <= 63) = decide ((zs[zs.length - 1].g).fin + de s.l <= 64) := by
   rw [decide_eq_decide, hzn]
   unfold aJ.fin; omega
  rw [<- e4]
 ·have : zs = [] := List.length_eq_zero_iff.1 (by omega)
  subst this
  exact ⟨rfl, kd⟩
theorem Co {L : List aJ} {p i : Nat} (hi : i < L.length) : eP (L.take (i + 1)) p = (eP (L.take i) p && decide (L[i].place ≠ p)) := by
 unfold eP
 rw [fP _ _ hi, List.all_append]
 simp
theorem zt (h : gP w r k sl zs) (hk : k <= 2 ^ 20) (hz : zs.length <= 2 ^ 20) (hN : ∀ z ∈ zs, z.g.num <= 2 ^ 60) :
  Calls Tryz.prog dx ⟨[av r]⟩ w fun e w' => match gz k (gL zs) with
   | none => e = .returned (.bool false) /\ ah w w'
   | some p => e = .returned (.bool true) /\ ∃ sl', gP w' r k sl' (zs ++ [⟨⟨p, cd (gL zs), []⟩, 0, ⟨none, 0, 0⟩, []⟩]) /\ Ext (RfW r sl zs) w w' /\ ∀ j, RfW r sl' (zs ++ [⟨⟨p, cd (gL zs), []⟩, 0, ⟨none, 0, 0⟩, []⟩]) j -> RfW r sl zs j \/ w.heap.size <= j := by
 refine kq _ ?_
 unfold gT
 have hsl := h.s.sl
 refine aa rfl ⟨_, h.c0, ar (by omega), fun at_ p w2 => ∃ j : Nat, p = (j : Int) - 1 /\ j <= k /\ ah w w2 /\ (at_ = -1 /\ (∀ q, j <= q -> q < k -> eP (gL zs) q = false) \/ ∃ q0 : Nat, at_ = q0 /\ j <= q0 /\ q0 < k /\ eP (gL zs) q0 = true /\ ∀ q, j <= q -> q < q0 -> eP (gL zs) q = false), fun _ p _ => (p + 1).toNat,
  ⟨k, rfl, Nat.le_refl _, Ext.refl _ _, .inl ⟨rfl, fun q h1 h2 => by omega⟩⟩, ?_⟩
 rintro at_ p w8 ⟨j, rfl, hj, hkk, hat⟩
 intros
 have h8 := h.ae hkk
 refine af (fun h0 => ?_) (fun h0 => ?_)
 ·obtain ⟨p, rfl⟩ : ∃ p, j = p + 1 := ⟨j - 1, by omega⟩
  have ep : (((p + 1 : Nat) : Int) - 1) = (p : Int) := by omega
  rw [ep]
  refine aa rfl ⟨_, h8.c1, fun tk i w2 => ∃ n : Nat, i = n /\ n <= zs.length /\ tk = !eP ((gL zs).take n) p /\ ah w8 w2, fun _ i _ => ((zs.length : Int) - i).toNat, ⟨0, rfl, by omega, rfl, Ext.refl _ _⟩, ?_⟩
  rintro tk i w41 ⟨n, rfl, hn, rfl, hkn⟩
  intros
  refine af (fun h1 => ?_) (fun h1 => ?_)
  ·have hnl : n < zs.length := by omega
   obtain ⟨a, ha, hrow⟩ := (h8.ae hkn).at hnl
   have hnl2 : n < (gL zs).length := by simpa using hnl
   have hft := Co (p := p) hnl2
   have hgn : (gL zs)[n] = zs[n].g := List.getElem_map _
   rw [hgn] at hft
   refine aa ha ⟨by omega, h1, _, _, _, _, by rw [Int.toNat_natCast]; exact hrow, qh (cs := rzC zs[n]) rfl rfl (fun r59 w61 hr o59 k61 hs => ?_)⟩
   refine aj (fun h2 => ?_) (fun h2 => ?_)
   ·refine ⟨ar (by omega), ⟨n + 1, rfl, hnl, ?_, hkn.trans k61⟩, by dsimp only; omega⟩
    rw [hft]
    have : eP ((gL zs).take n) p = false := by simpa using h2
    rw [this]; rfl
   ·refine ⟨_, o59.cell 0 (by simp [rzC]), ar (by omega), ⟨n + 1, rfl, hnl, ?_, hkn.trans k61⟩, by dsimp only; omega⟩
    rw [hft]
    have : eP ((gL zs).take n) p = true := by simpa using h2
    rw [this, Bool.true_and]
    by_cases e : zs[n].g.place = p
    ·rw [decide_eq_true (show ((zs[n].g.place : Nat) : Int) = (p : Int) by omega), decide_eq_false (by omega)]; rfl
    ·rw [decide_eq_false (show ¬ ((zs[n].g.place : Nat) : Int) = (p : Int) by omega), decide_eq_true e]; rfl
  ·have hne : n = zs.length := by omega
   subst hne
   have ht : (gL zs).take zs.length = gL zs := List.take_of_length_le (by simp)
   rw [ht]
   refine aj (fun h2 => ?_) (fun h2 => ?_)
   ·have hfr : eP (gL zs) p = true := by simpa using h2
    refine ⟨ar (by omega), ⟨p, rfl, by omega, hkk.trans hkn, .inr ⟨p, rfl, by omega, by omega, hfr, fun q h3 h4 => by omega⟩⟩, by dsimp only; omega⟩
   ·have hfr : eP (gL zs) p = false := by simpa using h2
    have stp : ∀ q, p <= q -> q ≠ p -> p + 1 <= q := fun q h1 h2 => by omega
    refine ⟨ar (by omega), ⟨p, rfl, by omega, hkk.trans hkn, ?_⟩, by dsimp only; omega⟩
    rcases hat with ⟨rfl, hno⟩ | ⟨q0, rfl, g1, g2, g3, g4⟩
    ·refine .inl ⟨rfl, fun q h3 h4 => ?_⟩
     by_cases e : q = p
     ·subst e; exact hfr
     ·exact hno q (stp q h3 e) h4
    ·refine .inr ⟨q0, rfl, by omega, g2, g3, fun q h3 h4 => ?_⟩
     by_cases e : q = p
     ·subst e; exact hfr
     ·exact g4 q (stp q h3 e) h4
 ·have hj0 : j = 0 := by omega
  subst hj0
  rcases hat with ⟨rfl, hno⟩ | ⟨q0, rfl, g1, g2, g3, g4⟩
  ·rw [yc (fun q hq => hno q (by omega) hq)]
   exact af (fun _ => ⟨rfl, hkk⟩) (fun h1 => by omega)
  ·rw [yb g2 g3 (fun q hq => g4 q (by omega) hq)]
   refine af (fun h1 => by omega) (fun _ => ⟨fun n w2 => n = ((cd (gL zs) : Nat) : Int) /\ w2 = w8, aa rfl ⟨_, h8.c1, af (fun h2 => ?_) (fun h2 => ?_)⟩, ?_⟩)
   ·have hi : zs.length - 1 < zs.length := by omega
    obtain ⟨a, ha, hrow⟩ := h8.at hi
    have e1 : Int.toNat (((sl.l : Nat) : Int) - 1) = zs.length - 1 := by omega
    have hNi := hN _ (List.getElem_mem hi)
    have hnx := qW (gL zs)
    rw [ot (by simp; omega)] at hnx
    have e2 : (gL zs)[(gL zs).length - 1]'(by simp; omega) = zs[zs.length - 1].g := by simp
    rw [e2] at hnx
    exact aa rfl ⟨_, h8.c1, ar (by omega), aa ha ⟨by omega, by omega, _, by rw [e1]; exact jk hrow 1 (by simp [rzC]), ar (by omega), hnx, rfl⟩⟩
   ·have : zs = [] := List.length_eq_zero_iff.1 (by omega)
    subst this
    exact ⟨rfl, rfl⟩
   ·rintro n w71 ⟨rfl, rfl⟩
    intros
    refine aa rfl ⟨_, h8.c1, ao (fun r92 w93 hr hb k93 hs => ?_)⟩
    have h93 := h8.ae k93
    refine h93.s.snoc (cs := rzC ⟨⟨q0, cd (gL zs), []⟩, 0, ⟨none, 0, 0⟩, []⟩) (x := ⟨⟨q0, cd (gL zs), []⟩, 0, ⟨none, 0, 0⟩, []⟩) (z := [.int .i64 0, .int .i64 0, .int .i64 0, (⟨none, 0, 0⟩ : Slc).v]) rfl ⟨rfl, (by rintro j ⟨a, ha, _⟩; cases ha)⟩ (fun j hj => by
     obtain ⟨_, a, ha, _⟩ := q9 hj
     cases ha) hb (.inl (by simp)) (by omega) (fun s' w95 g1' g2' g3' => aa rfl ?_)
    have o95 := h93.o.ext g2' h93.nr
    have hs' : ¬ ai s' r := fun hh => by
     rcases g3' r hh with h5 | h5
     ·exact h93.nr h5
     ·have := h93.o.lt; omega
    obtain ⟨c1, c2⟩ := o95.bf 1 (by simp) s'.v
    rw [add_lit]
    refine ⟨c1, fun w97 hw97 => ⟨rfl, s', ?_, ?_, ?_⟩⟩
    ·obtain ⟨o97, e97, _⟩ := c2 w97 hw97
     have hmap : zs.map rzC ++ [rzC ⟨⟨q0, cd (gL zs), []⟩, 0, ⟨none, 0, 0⟩, []⟩] = (zs ++ [(⟨⟨q0, cd (gL zs), []⟩, 0, ⟨none, 0, 0⟩, []⟩ : Rz)]).map rzC := by simp
     rw [hmap] at g1'
     have lt := h93.lt
     have old : ∀ j, j < w93.heap.size -> ¬ ai sl j -> ¬ ai s' j := fun j h1 h2 hh => (g3' j hh).elim h2 (fun h3 => by omega)
     have e2 : ∀ {j}, RfW r sl zs j -> j < w93.heap.size := fun hj => lt.1 _ hj
     refine ⟨o97, g1'.ext e97 (fun j hj hh => hs' (by rw [<- show j = r from hh]; exact hj)) (fun j hj hh => ?_), fun z hz => ?_, fun z hz => ?_, ?_, hs', fun z hz j hj => ?_, fun z hz j hj => ?_⟩
     ·obtain ⟨cs, hc, hk'⟩ := hj
      obtain ⟨z, hz, rfl⟩ := List.mem_map.1 hc
      obtain ⟨_, hk'⟩ := q9 hk'
      rcases List.mem_append.1 hz with hz | hz
      ·exact (h93.ds z hz j hk').1 hh
      ·rw [List.mem_singleton] at hz; subst hz
       obtain ⟨a, ha, _⟩ := hk'; cases ha
     ·rcases List.mem_append.1 hz with hz | hz
      ·exact ((h93.b z hz).ext g2' (fun j hj hh => (h93.ds z hz j hj).2 hh) (fun j hj hh => (h93.bt z hz j hj).2.1 hh)).ext e97 (fun j hj hh => (h93.ds z hz j hj).1 hh) (fun j hj hh => (h93.bt z hz j hj).1 hh)
      ·rw [List.mem_singleton] at hz; subst hz
       exact Rows.nil _ _
     ·rcases List.mem_append.1 hz with hz | hz
      ·exact h93.n z hz
      ·rw [List.mem_singleton] at hz; subst hz; rfl
     ·refine List.pairwise_append.2 ⟨h93.sep, List.pairwise_singleton _ _, fun y hy x hx j hj hh => ?_⟩
      rw [List.mem_singleton] at hx; subst hx
      obtain ⟨a, ha, _⟩ := hh; cases ha
     ·rcases List.mem_append.1 hz with hz | hz
      ·obtain ⟨v1, v2⟩ := h93.ds z hz j hj
       exact ⟨v1, old j (e2 (.inr (.inr ⟨z, hz, hj⟩))) v2⟩
      ·rw [List.mem_singleton] at hz; subst hz
       obtain ⟨a, ha, _⟩ := hj; cases ha
     ·rcases List.mem_append.1 hz with hz | hz
      ·obtain ⟨v1, v2, v3⟩ := h93.bt z hz j hj
       refine ⟨v1, old j (lt.2 j ⟨z, hz, hj⟩) v2, fun y hy => ?_⟩
       rcases List.mem_append.1 hy with hy | hy
       ·exact v3 y hy
       ·rw [List.mem_singleton] at hy; subst hy
        rintro ⟨a, ha, _⟩; cases ha
      ·rw [List.mem_singleton] at hz; subst hz
       obtain ⟨cs, hc, _⟩ := hj; simp at hc
    ·obtain ⟨o97, e97, _⟩ := c2 w97 hw97
     exact (Ext.trans (hkk.trans k93) (g2'.mono (fun j hj => Or.inr (Or.inl hj))) (fun _ h => h.elim) (fun _ h => .inl h)).trans e97 (fun _ h => h) (fun j hj => .inl (.inl hj))
    ·have zz := (hkk.trans k93).size
     rintro j (hj | hj | ⟨z, hz, hj⟩)
     ·exact .inl (.inl hj)
     ·rcases g3' j hj with h5 | h5
      ·exact .inl (.inr (.inl h5))
      ·exact .inr (by omega)
     ·rcases List.mem_append.1 hz with hz | hz
      ·exact .inl (.inr (.inr ⟨z, hz, hj⟩))
      ·rw [List.mem_singleton] at hz; subst hz
       obtain ⟨a, ha, _⟩ := hj; cases ha
end
end Go.D
namespace Go.D
open Go Go.Proofs
theorem Ad {n : Nat} : ∀ (css : List (List Value)), (∀ cs ∈ css, cs.length = n) -> ∀ i, css.flatten.take (i * n) = (css.take i).flatten
 | [], _, i => by simp
 | a :: l, h, 0 => by simp
 | a :: l, h, i + 1 => by
  have ha := h a (by simp)
  rw [List.flatten_cons, List.take_succ_cons, List.flatten_cons, show (i + 1) * n = a.length + i * n by rw [ha, Nat.add_mul]; omega, List.take_length_add_append, Ad l (fun c hc => h c (by simp [hc])) i]
theorem Ae {n : Nat} : ∀ (css : List (List Value)), (∀ cs ∈ css, cs.length = n) -> ∀ i, css.flatten.drop (i * n) = (css.drop i).flatten
 | [], _, i => by simp
 | a :: l, h, 0 => by simp
 | a :: l, h, i + 1 => by
  have ha := h a (by simp)
  rw [List.flatten_cons, List.drop_succ_cons, show (i + 1) * n = a.length + i * n by rw [ha, Nat.add_mul]; omega, List.drop_length_add_append, Ae l (fun c hc => h c (by simp [hc])) i]
section
variable {w w' : World} {r k : Nat} {sl : Slc} {M zs : List Rz} {z z' : Rz}
theorem yC (h : Rows RzR w sl (M ++ [z]) ((M ++ [z]).map rzC)) : ∃ a : Addr, sl.p = some a /\ rowAt w (a.add (M.length * 4)) 0 (rzC z) := by
 obtain ⟨a, ha, _, hrow⟩ := h.get (i := M.length) (by simp)
 have e : ((M ++ [z]).map rzC)[M.length]'(by simp) = rzC z := by simp
 rw [e] at hrow
 exact ⟨a, ha, hrow⟩
theorem ux (h : Rows RzR w sl (M ++ [z]) ((M ++ [z]).map rzC)) {a : Addr} (ha : sl.p = some a) (j : Nat) (hj : j < 4) (v : Value) (hz : (rzC z).take j ++ [v] ++ (rzC z).drop (j + 1) = rzC z') (hlt : ∀ k, ai z'.s k -> k < w.heap.size) (hd : ∀ k, ai z'.s k -> ¬ ai sl k) :
  aw w ((a.add (M.length * 4)).add j) 1 /\ ∀ w', w' = w.setCell ((a.add (M.length * 4)).add j) v -> Rows RzR w' sl (M ++ [z']) ((M ++ [z']).map rzC) /\ Ext (ai sl) w w' /\ w'.heap.size = w.heap.size := by
 have hi : M.length < ((M ++ [z]).map rzC).length := by simp
 have e : ((M ++ [z]).map rzC)[M.length]'hi = rzC z := by simp
 obtain ⟨c1, c2⟩ := Rows.set h hi j [v] (by show j + 1 <= 4; omega) z' ha (fun w' he => ⟨by rw [e]; exact hz, fun k hk => Nat.lt_of_lt_of_le (hlt k hk) he.size⟩) (fun k hk => by
  rw [e] at hk
  have : lK (rzC z') k := by rw [<- hz]; exact hk
  exact hd k (q9 this).2)
 refine ⟨c1, fun w' hw => ?_⟩
 have h0 : ((a.add (M.length * 4)).add j).add 0 = (a.add (M.length * 4)).add j := by
  generalize (a.add (M.length * 4)).add j = b
  simp [Addr.add]
 obtain ⟨g1, g2, g3⟩ := c2 w' (by rw [hw]; simp only [setCells]; rw [show (Addr.add (a.add (M.length * RzR.n)) j) = (a.add (M.length * 4)).add j from rfl, h0])
 refine ⟨?_, g2, g3⟩
 have e1 : (M ++ [z]).set M.length z' = M ++ [z'] := by simp
 have e2 : ((M ++ [z]).map rzC).set M.length (((M ++ [z]).map rzC)[M.length].take j ++ [v] ++ ((M ++ [z]).map rzC)[M.length].drop (j + [v].length)) = (M ++ [z']).map rzC := by
  rw [e]
  have : (rzC z).take j ++ [v] ++ (rzC z).drop (j + [v].length) = rzC z' := hz
  rw [this]; simp
 rw [e1, e2] at g1
 exact g1
theorem gP.last (h : gP w r k sl (M ++ [z])) (he : Ext (fun j => ai sl j \/ ai z.s j) w w') (hs : Rows RzR w' sl (M ++ [z']) ((M ++ [z']).map rzC)) (hb : Rows pY w' z'.s z'.g.bP z'.c) (hn : z'.n = (sumN z'.g.bP : Int))
  (h1 : ∀ j, ai z'.s j -> ai z.s j \/ w.heap.size <= j) (h2 : ∀ j, dK z'.c j -> dK z.c j \/ w.heap.size <= j) :
  gP w' r k sl (M ++ [z']) /\ (∀ j, RfW r sl (M ++ [z']) j -> RfW r sl (M ++ [z]) j \/ w.heap.size <= j) /\ ∀ j, RfY (M ++ [z']) j -> RfY (M ++ [z]) j \/ w.heap.size <= j := by
 have lt := h.lt
 have hz : z ∈ M ++ [z] := by simp
 have hM : ∀ y ∈ M, y ∈ M ++ [z] := fun y hy => by simp [hy]
 obtain ⟨p1, _, p3⟩ := List.pairwise_append.1 h.sep
 have ltW : ∀ {j}, RfW r sl (M ++ [z]) j -> j < w.heap.size := fun hj => lt.1 _ hj
 have dz : ∀ j, ai z'.s j -> j ≠ r /\ ¬ ai sl j := fun j hj => by
  rcases h1 j hj with g | g
  ·exact h.ds z hz j g
  ·exact ⟨fun e => by have := ltW (.inl e); omega, fun hh => by have := ltW (.inr (.inl hh)); omega⟩
 have dM : ∀ y ∈ M, ∀ j, ai y.s j -> ¬ ai z'.s j := fun y hy j hj hh => by
  rcases h1 j hh with g | g
  ·exact p3 y hy z (by simp) j hj g
  ·have := ltW (.inr (.inr ⟨y, hM y hy, hj⟩)); omega
 refine ⟨⟨h.o.ext he (fun hh => hh.elim h.nr (fun g => (h.ds z hz r g).1 rfl)), hs, fun y hy => ?_, fun y hy => ?_, ?_, h.nr, fun y hy j hj => ?_, fun y hy j hj => ?_⟩, ?_, ?_⟩
 ·rcases List.mem_append.1 hy with hy | hy
  ·refine (h.b y (hM y hy)).ext he (fun j hj hh => ?_) (fun j hj hh => ?_)
   ·exact hh.elim (h.ds y (hM y hy) j hj).2 (fun g => p3 y hy z (by simp) j hj g)
   ·obtain ⟨v1, v2, v3⟩ := h.bt y (hM y hy) j hj
    exact hh.elim v2 (v3 z hz)
  ·rw [List.mem_singleton] at hy; subst hy; exact hb
 ·rcases List.mem_append.1 hy with hy | hy
  ·exact h.n y (hM y hy)
  ·rw [List.mem_singleton] at hy; subst hy; exact hn
 ·refine List.pairwise_append.2 ⟨p1, List.pairwise_singleton _ _, fun y hy x hx j hj hh => ?_⟩
  rw [List.mem_singleton] at hx; subst hx
  exact dM y hy j hj hh
 ·rcases List.mem_append.1 hy with hy | hy
  ·exact h.ds y (hM y hy) j hj
  ·rw [List.mem_singleton] at hy; subst hy; exact dz j hj
 ·rcases List.mem_append.1 hy with hy' | hy
  ·obtain ⟨v1, v2, v3⟩ := h.bt y (hM y hy') j hj
   refine ⟨v1, v2, fun x hx => ?_⟩
   rcases List.mem_append.1 hx with hx | hx
   ·exact v3 x (hM x hx)
   ·rw [List.mem_singleton] at hx; subst hx
    intro hh
    have hjl := lt.2 j ⟨y, List.mem_append_left _ hy', hj⟩
    rcases h1 j hh with g | g
    ·exact v3 z hz g
    ·omega
  ·rw [List.mem_singleton] at hy; subst hy
   rcases h2 j hj with g | g
   ·obtain ⟨v1, v2, v3⟩ := h.bt z hz j g
    refine ⟨v1, v2, fun x hx => ?_⟩
    rcases List.mem_append.1 hx with hx | hx
    ·exact v3 x (hM x hx)
    ·rw [List.mem_singleton] at hx; subst hx
     exact hb.sep j hj
   ·refine ⟨fun e => by have := ltW (.inl e); omega, fun hh => by have := ltW (.inr (.inl hh)); omega, fun x hx => ?_⟩
    rcases List.mem_append.1 hx with hx | hx
    ·intro hh
     have := ltW (.inr (.inr ⟨x, hM x hx, hh⟩)); omega
    ·rw [List.mem_singleton] at hx; subst hx
     exact hb.sep j hj
 ·rintro j (hj | hj | ⟨y, hy, hj⟩)
  ·exact .inl (.inl hj)
  ·exact .inl (.inr (.inl hj))
  ·rcases List.mem_append.1 hy with hy | hy
   ·exact .inl (.inr (.inr ⟨y, hM y hy, hj⟩))
   ·rw [List.mem_singleton] at hy; subst hy
    rcases h1 j hj with g | g
    ·exact .inl (.inr (.inr ⟨z, hz, g⟩))
    ·exact .inr g
 ·rintro j ⟨y, hy, hj⟩
  rcases List.mem_append.1 hy with hy | hy
  ·exact .inl ⟨y, hM y hy, hj⟩
  ·rw [List.mem_singleton] at hy; subst hy
   rcases h2 j hj with g | g
   ·exact .inl ⟨z, hz, g⟩
   ·exact .inr g
def ow (r : Nat) (sl sl' : Slc) (zs zs' : List Rz) (w w' : World) : Prop := Ext (RfW r sl zs) w w' /\ (∀ j, RfW r sl' zs' j -> RfW r sl zs j \/ w.heap.size <= j) /\ ∀ j, RfY zs' j -> RfY zs j \/ w.heap.size <= j
theorem ow.trans {sl1 sl2 sl3 : Slc} {z1 z2 z3 : List Rz} {a b c : World} (h1 : ow r sl1 sl2 z1 z2 a b) (h2 : ow r sl2 sl3 z2 z3 b c) : ow r sl1 sl3 z1 z3 a c :=
 ⟨h1.1.trans h2.1 (fun _ h => h) (fun j hj => h1.2.1 j hj), fun j hj => (h2.2.1 j hj).elim (h1.2.1 j) (fun h => .inr (Nat.le_trans h1.1.size h)), fun j hj => (h2.2.2 j hj).elim (h1.2.2 j) (fun h => .inr (Nat.le_trans h1.1.size h))⟩
theorem ow.ae {w w' : World} (hk : ah w w') : ow r sl sl zs zs w w' := ⟨hk.mono (fun _ h => h.elim), fun j hj => .inl hj, fun j hj => .inl hj⟩
structure Ia (zs : List Rz) : Prop where
 l : zs.length <= 1000
 n : ∀ z ∈ zs, z.g.num <= 2 ^ 59
 s : ∀ z ∈ zs, sumN z.g.bP <= 100
theorem wg (h : gP w r k sl zs) (hz : Ia zs) (hk : k <= 2 ^ 20) (s : Slc) (b : List UInt8) (hb : au w s b) (hbl : b.length <= 2 ^ 20) (hbs : 0 < s.l -> ∀ j, ai s j -> ¬ RfW r sl zs j) :
  Calls Tryz.prog aV ⟨[av r, s.v]⟩ w fun e w' => e = .returned (.tuple ⟨[.int .i64 (j8 k (gL zs) b).2.1, .int .i64 (eN (j8 k (gL zs) b).1)]⟩) /\ ∃ sl' zs', gL zs' = (j8 k (gL zs) b).2.2 /\ gP w' r k sl' zs' /\ ow r sl sl' zs zs' w w' := by
 refine jL _ _ ?_
 unfold gi
 have hsl := hb.1
 have form : b.length = 0 \/ 3968 < b.length -> (j8 k (gL zs) b) = (some 3, 0, gL zs) := fun hh => by unfold j8; rw [if_pos hh]
 refine ⟨fun w2 => w2 = w /\ 0 < b.length /\ b.length <= 3968, af (fun h0 => ?_) (fun h0 => af (fun h1 => ?_) (fun h1 => ⟨rfl, by omega, by omega⟩)), ?_⟩
 ·rw [form (by omega)]
  exact ⟨rfl, sl, zs, rfl, h, ow.ae (Ext.refl _ _)⟩
 ·rw [form (by omega)]
  exact ⟨rfl, sl, zs, rfl, h, ow.ae (Ext.refl _ _)⟩
 rintro w4 ⟨rfl, hb0, hb1⟩
 intros
 have happ : j8 k (gL zs) b = match jB k (gL zs) b.length with | none => (some 12, 0, gL zs) | some L0 => (none, lastN L0, addRec L0 b) := by unfold j8; rw [if_neg (by omega)]; try rfl
 refine ⟨fun w2 => ∃ sl2 M z, jB k (gL zs) b.length = some (gL (M ++ [z])) /\ z.g.fin <= 200 /\ (M ++ [z]).length <= 2000 /\ gP w2 r k sl2 (M ++ [z]) /\ ow r sl sl2 zs (M ++ [z]) w4 w2, (zr h (by have := hz.l; omega) (fun z hzz => by have := hz.s z hzz; omega) s (by omega)).mono ?_, ?_⟩
 ·rintro e w17 ⟨rfl, k17⟩
  rw [hsl]
  refine ⟨_, rfl, aj (fun h2 => ?_) (fun h2 => ?_)⟩
  ·have hf : jn (gL zs) b.length = false := by simpa using h2
   have hbase : jB k (gL zs) b.length = (gz k (gL zs)).map fun p => pO p (gL zs) := by unfold jB; rw [hf]; rfl
   refine (zt (h.ae k17) hk (by have := hz.l; omega) (fun z hzz => by have := hz.n z hzz; omega)).mono ?_
   rintro e w20 hR
   cases hfp : gz k (gL zs) with
   | none =>
    rw [hfp] at hR
    obtain ⟨rfl, k20⟩ := hR
    refine ⟨_, rfl, aj (fun _ => ?_) (fun h => by cases h)⟩
    rw [happ, hbase, hfp]
    exact ⟨rfl, sl, zs, rfl, (h.ae k17).ae k20, ow.ae (k17.trans k20)⟩
   | some p =>
    rw [hfp] at hR
    obtain ⟨rfl, sl', hR', e20, f20⟩ := hR
    refine ⟨_, rfl, aj (fun h => by cases h) (fun _ => ⟨sl', zs, ⟨⟨p, cd (gL zs), []⟩, 0, ⟨none, 0, 0⟩, []⟩, by rw [hbase, hfp]; simp, by show 1 + 0 <= 200; omega, by have := hz.l; simp; omega, hR', Ext.trans k17 e20 (fun _ h => h.elim) (fun _ h => .inl h), fun j hj => (f20 j hj).imp (fun h => h) (fun h => Nat.le_trans k17.size h), fun j hj => ?_⟩)⟩
    obtain ⟨y, hy, hj⟩ := hj
    rcases List.mem_append.1 hy with hy | hy
    ·exact .inl ⟨y, hy, hj⟩
    ·rw [List.mem_singleton] at hy; subst hy
     obtain ⟨cs, hc, _⟩ := hj; simp at hc
  ·have hf : jn (gL zs) b.length = true := by simpa using h2
   have hne : zs ≠ [] := fun e => by subst e; simp [jn] at hf
   have hzs : zs = zs.dropLast ++ [zs.getLast hne] := (List.dropLast_concat_getLast hne).symm
   refine ⟨sl, zs.dropLast, zs.getLast hne, by rw [<- hzs]; unfold jB; rw [hf]; rfl, by have := hz.s _ (List.getLast_mem hne); unfold aJ.fin; omega, by rw [<- hzs]; have := hz.l; omega, by rw [<- hzs]; exact h.ae k17, by rw [<- hzs]; exact ow.ae k17⟩
 ·rintro w22 ⟨sl2, M, z, hbase, hfin, hlen, hA, hT⟩
  intros
  rw [happ, hbase]
  have hgl : gL (M ++ [z]) = gL M ++ [z.g] := by simp
  have e0 : (match some (gL (M ++ [z])) with | none => (some 12, 0, gL zs) | some L0 => (none, lastN L0, addRec L0 b) : Option Nat × Int × List aJ) = (none, (z.g.num : Int), gL M ++ [{ z.g with bP := z.g.bP ++ [b] }]) := by
   show (none, lastN (gL (M ++ [z])), addRec (gL (M ++ [z])) b) = _
   rw [hgl, l9, j7]
  rw [e0]
  have kd : ah w22 (World.drew (World.drew w22)) := ah.trans (Ext.drew _ _) (Ext.drew _ _)
  have hd := hA.ae kd
  have hsl2 := hA.s.sl
  have hlM : (M ++ [z]).length = M.length + 1 := by simp
  obtain ⟨a, ha, hrow⟩ := yC hd.s
  have e1 : Int.toNat (((sl2.l : Nat) : Int) - 1) = M.length := by omega
  have hzm : z ∈ M ++ [z] := by simp
  have hzn := hA.n z hzm
  refine aa rfl ⟨_, (hA.ae (Ext.drew _ _)).c1, aa rfl ⟨_, (hA.ae (Ext.drew _ _)).c1, ar (by omega), aa ha ⟨by omega, by omega, ?_⟩⟩⟩
  rw [e1]
  refine ⟨_, jk hrow 2 (by simp [rzC]), (yB s _ (by omega)).mono ?_⟩
  rintro e w41 ⟨rfl, rfl⟩
  have hnl : de s.l <= 2 ^ 30 := by unfold de bT; omega
  have hfz : z.g.fin = 1 + sumN z.g.bP := rfl
  have hds := hd.ds z hzm
  have hbz := hd.b z hzm
  obtain ⟨c1, c2⟩ := ux hd.s ha 2 (by omega) (.int .i64 (z.n + (de s.l : Int))) (z' := { z with n := z.n + (de s.l : Int) }) rfl (fun j hj => hbz.lt j hj) (fun j hj => (hds j hj).2)
  refine ⟨_, rfl, ⟨_, jk hrow 2 (by simp [rzC]), rfl⟩, ar (by omega), c1, fun w44 hw44 => ?_⟩
  obtain ⟨r44, e44, z44⟩ := c2 w44 hw44
  have kd44 : ah w44 (World.drew w44) := Ext.drew _ _
  have rd44 := r44.ae kd44
  obtain ⟨a', ha', hrow44⟩ := yC rd44
  rw [ha] at ha'; cases ha'
  have c3 : ∀ {w2 : World}, ah (World.drew w44) w2 -> World.cell? w2 ((a.add (M.length * 4)).add 3) = some z.s.v := fun hk => hk.cell (jk hrow44 3 (by simp [rzC]))
  refine ⟨_, c3 (Ext.refl _ _), ao (fun r46 w47 hr46 hb46 k46 hs46 => ⟨⟨_, c3 k46, rfl⟩, ?_⟩)⟩
  have x44 : Ext (ai sl2) (World.drew (World.drew w22)) (World.drew w44) := e44.trans kd44 (fun _ h => h) (fun _ h => h.elim)
  have hb22 : au (World.drew w44) s b := by
   have h1 : au w22 s b := aZ hb hT.1 hbs
   refine aZ (aG h1 kd) x44 (fun h0 j hj hh => ?_)
   rcases hT.2.1 j (.inr (.inl hh)) with g | g
   ·exact hbs h0 j hj g
   ·have := fu hb h0 j hj; omega
  refine fx (vs := []) (w0 := World.drew w44) (Own.new (sz := 1) (n := 0) hb46 (.inl (by simp)) rfl) rfl (aN.at (by omega)) k46 (eD (aG hb22 k46)) (by simp only [Src.n]; omega) (fun s49 w50 h49 k50 f49 x50 => ⟨⟨_, c3 k50, rfl⟩, ao (fun r52 w53 hr52 hb52 k52 hs52 => ⟨⟨_, c3 (k50.trans k52), rfl⟩, ?_⟩)⟩)
  rw [List.nil_append] at h49
  have k53 := k50.trans k52
  have hb44 : Rows pY (World.drew w44) z.s z.g.bP z.c := hbz.ext x44 (fun j hj hh => (hds j hj).2 hh) (fun j hj hh => (hd.bt z hzm j hj).2.1 hh)
  have hb53 := hb44.ae k53
  have hrl := wv z.g.bP
  refine hb53.snoc (cs := [s49.v]) (x := b) (z := [(⟨none, 0, 0⟩ : Slc).v]) rfl ⟨s49, rfl, (h49.ae k52).bytes⟩ (fun j hj hh => ?_) hb52 (.inl (by simp)) (by omega) (fun s55 w56 q1 q2 q3 => ?_)
  ·have h5 := f49 j (gx hj).2
   have h6 := hb44.lt j hh
   omega
  ·have r53 := rd44.ae k53
   have r56 : Rows RzR w56 sl2 (M ++ [{ z with n := z.n + (de s.l : Int) }]) ((M ++ [{ z with n := z.n + (de s.l : Int) }]).map rzC) := F9 r53 q2 (fun j hj hh => (hds j hh).2 hj)
   have q3' : ∀ j, ai s55 j -> ai z.s j \/ (World.drew (World.drew w22)).heap.size <= j := fun j hj => (q3 j hj).imp (fun h => h) (fun h => by
    have := k53.size
    have := x44.size
    omega)
   have ltd := hd.lt
   obtain ⟨c5, c6⟩ := ux r56 ha 3 (by omega) s55.v (z' := ⟨{ z.g with bP := z.g.bP ++ [b] }, z.n + (de s.l : Int), s55, z.c ++ [[s49.v]]⟩) rfl (fun j hj => q1.lt j hj) (fun j hj => by
    rcases q3' j hj with g | g
    ·exact (hds j g).2
    ·intro hh
     have := ltd.1 j (.inr (.inl hh)); omega)
   refine ⟨c5, fun w57 hw57 => ?_⟩
   obtain ⟨r57, e57, z57⟩ := c6 w57 hw57
   obtain ⟨a', ha', hrow57⟩ := yC r57
   rw [ha] at ha'; cases ha'
   have hb57 : Rows pY w57 s55 (z.g.bP ++ [b]) (z.c ++ [[s49.v]]) := q1.ext e57 (fun j hj hh => by
    rcases q3' j hj with g | g
    ·exact (hds j g).2 hh
    ·have := ltd.1 j (.inr (.inl hh)); omega) (fun j hj hh => by
    obtain ⟨cs, hc, hk'⟩ := hj
    rcases List.mem_append.1 hc with hc | hc
    ·exact (hd.bt z hzm j ⟨cs, hc, hk'⟩).2.1 hh
    ·rw [List.mem_singleton] at hc; subst hc
     have h5 := f49 j (gx hk').2
     have := ltd.1 j (.inr (.inl hh))
     have := x44.size
     omega)
   have xx : Ext (fun j => ai sl2 j \/ ai z.s j) (World.drew (World.drew w22)) w57 := (((x44.mono (fun j hj => Or.inl hj)).trans k53 (fun _ h => h) (fun _ h => h.elim)).trans q2 (fun _ h => h) (fun j hj => .inl (.inr hj))).trans e57 (fun _ h => h) (fun j hj => .inl (.inl hj))
   obtain ⟨F, FW, FY⟩ := hd.last xx r57 hb57 (by
    show z.n + (de s.l : Int) = _
    rw [jM, hzn, hsl]; omega) q3' (fun j hj => by
    obtain ⟨cs, hc, hk'⟩ := hj
    rcases List.mem_append.1 hc with hc | hc
    ·exact .inl ⟨cs, hc, hk'⟩
    ·rw [List.mem_singleton] at hc; subst hc
     have h5 := f49 j (gx hk').2
     have := x44.size
     exact .inr (by omega))
   refine ⟨_, jk hrow57 1 (by simp [rzC]), rfl, sl2, M ++ [⟨{ z.g with bP := z.g.bP ++ [b] }, z.n + (de s.l : Int), s55, z.c ++ [[s49.v]]⟩], by simp, F, hT.trans ((ow.ae kd).trans ⟨?_, FW, FY⟩)⟩
   exact xx.mono (fun j hj => hj.elim (fun h => .inr (.inl h)) (fun h => .inr (.inr ⟨z, hzm, h⟩)))
end
end Go.D
namespace Go.D
open Go Go.Proofs
section
variable {w w' : World} {r k : Nat} {sl sl' : Slc} {zs zs' : List Rz}
theorem gP.sub (h : gP w r k sl zs) (hsub : zs'.Sublist zs) (he : Ext (fun j => j = r) w w') (ho : aq w' r [.int .i64 (k : Int), sl'.v]) (hs : Rows RzR w' sl' zs' (zs'.map rzC)) (hf : ∀ j, ai sl' j -> w.heap.size <= j) :
  gP w' r k sl' zs' /\ ow r sl sl' zs zs' w w' := by
 have lt := h.lt
 have mem : ∀ z ∈ zs', z ∈ zs := fun z hz => hsub.subset hz
 refine ⟨⟨ho, hs, fun z hz => (h.b z (mem z hz)).ext he (fun j hj hh => (h.ds z (mem z hz) j hj).1 hh) (fun j hj hh => (h.bt z (mem z hz) j hj).1 hh), fun z hz => h.n z (mem z hz), h.sep.sublist hsub, fun hh => ?_, fun z hz j hj => ⟨(h.ds z (mem z hz) j hj).1, fun hh => ?_⟩, fun z hz j hj => ?_⟩, he.mono (fun j hj => .inl hj), ?_, ?_⟩
 ·have := hf r hh; have := h.o.lt; omega
 ·have := hf j hh; have := lt.1 j (.inr (.inr ⟨z, mem z hz, hj⟩)); omega
 ·obtain ⟨v1, v2, v3⟩ := h.bt z (mem z hz) j hj
  exact ⟨v1, fun hh => by have := hf j hh; have := lt.2 j ⟨z, mem z hz, hj⟩; omega, fun y hy => v3 y (mem y hy)⟩
 ·rintro j (hj | hj | ⟨z, hz, hj⟩)
  ·exact .inl (.inl hj)
  ·exact .inr (hf j hj)
  ·exact .inl (.inr (.inr ⟨z, mem z hz, hj⟩))
 ·rintro j ⟨z, hz, hj⟩
  exact .inl ⟨z, mem z hz, hj⟩
theorem wx (l : List Rz) : ∀ cs ∈ l.map rzC, cs.length = 4 := by
 intro cs hc
 obtain ⟨z, _, rfl⟩ := List.mem_map.1 hc
 rfl
theorem Ga (l : List Rz) : ∀ v ∈ (l.map rzC).flatten, v.oneCell' = true := by
 intro v hv
 obtain ⟨cs, hc, hv⟩ := List.mem_flatten.1 hv
 obtain ⟨z, _, rfl⟩ := List.mem_map.1 hc
 simp [rzC] at hv
 rcases hv with rfl | rfl | rfl | rfl <;> rfl
theorem zu (h : gP w r k sl zs) (hz : zs.length <= 2 ^ 20) (n : Int) :
  Calls Tryz.prog dt ⟨[av r, .int .i64 n]⟩ w fun e w' => e = .returned (.int .i64 (eN (dropR (gL zs) n).1)) /\ ∃ sl' zs', gL zs' = (dropR (gL zs) n).2 /\ gP w' r k sl' zs' /\ ow r sl sl' zs zs' w w' := by
 refine ku _ _ ?_
 unfold gV
 have hsl := h.s.sl
 have hcap := h.s.cap
 refine aa rfl ⟨_, h.c1, fun i w2 => ∃ m : Nat, i = m /\ m <= zs.length /\ ah w w2 /\ ∀ j (hj : j < zs.length), j < m -> decide ((zs[j].g.num : Int) = n) = false, fun i _ => ((zs.length : Int) - i).toNat, ⟨0, rfl, by omega, Ext.refl _ _, fun j _ hj => by omega⟩, ?_⟩
 rintro i w8 ⟨m, rfl, hm, hkk, hno⟩
 intros
 have hgl : (gL zs).length = zs.length := by simp
 have hgj : ∀ j (hj : j < (gL zs).length), (gL zs)[j] = zs[j].g := fun j hj => List.getElem_map _
 refine af (fun h0 => ?_) (fun h0 => ?_)
 ·have hml : m < zs.length := by omega
  obtain ⟨a, ha, hrow⟩ := (h.ae hkk).at hml
  refine aa ha ⟨by omega, h0, _, _, _, _, by rw [Int.toNat_natCast]; exact hrow, qh (cs := rzC zs[m]) rfl rfl (fun r53 w55 hr o53 k53 hs => ?_)⟩
  have k55 := hkk.trans k53
  have h55 := h.ae k55
  refine ⟨_, o53.cell 1 (by simp [rzC]), aT (fun h1 => ?_) (fun h1 => ?_)⟩
  ·refine ⟨ar (by omega), ⟨m + 1, rfl, hml, k55, fun j hj hjm => ?_⟩, by dsimp only; omega⟩
   by_cases e : j = m
   ·subst e; exact decide_eq_false h1
   ·exact hno j hj (by omega)
  ·have hseek : seekI (fun g => decide ((g.num : Int) = n)) (gL zs) = m := sJ (by omega) (by rw [hgj]; exact decide_eq_true h1) (fun j hj => by rw [hgj]; exact hno j (by omega) hj)
   have hdr := yk hseek
   refine aa rfl ⟨_, h55.c1, ar (by omega), af (fun h2 => ?_) (fun h2 => ?_)⟩
   ·rw [if_pos (by omega)] at hdr
    rw [hdr]
    exact ⟨rfl, sl, zs, rfl, h55, ow.ae k55⟩
   ·rw [if_neg (by omega)] at hdr
    rw [hdr]
    have kd : ah w55 (World.drew w55) := Ext.drew _ _
    have hd := h55.ae kd
    refine aa rfl ⟨_, hd.c1, by omega, by omega, by omega, by omega, aa rfl ⟨_, hd.c1, ar (by omega), by omega, by omega, by omega, by omega, ao (fun r65 w66 hr65 hb65 k65 hs65 => ?_)⟩⟩
    have h66 := hd.ae k65
    refine ⟨⟨_, h66.c1, rfl⟩, ⟨_, h66.c1, rfl⟩, ?_⟩
    rw [Int.toNat_natCast, show Int.toNat ((m : Int) + 1) = m + 1 by omega]
    have hlen4 := eA (zs.map rzC) (wx zs)
    rw [List.length_map] at hlen4
    obtain ⟨p1, p2⟩ := h66.s.own.part (lo := 0) (hi := m) (c := sl.c) (by omega) (by omega) (by omega)
    have e1 : (((zs.map rzC).flatten.take (m * 4)).drop (0 * 4)) = ((zs.take m).map rzC).flatten := by
     rw [Ad _ (wx zs), Nat.zero_mul, List.drop_zero, List.map_take]
    have p1' : eW w66 (Slc.sub sl 4 0 m sl.c).p ((zs.take m).map rzC).flatten := by rw [<- e1]; exact p1
    have p2' : (((zs.take m).map rzC).flatten).length = (Slc.sub sl 4 0 m sl.c).l * 4 := by rw [<- e1]; exact p2
    refine cX (Own.new (sz := 4) (n := 0) hb65 (.inl (by simp)) rfl) (by omega) rfl (iO p1' p2') (Ga _) (by simp only [Src.n, Slc.sub]; omega) (fun s69 w70 g1 g2 g3 g4 => ?_)
    rw [List.nil_append] at g1
    have own65 : ∀ j, ai (⟨some ⟨r65, 0, none⟩, 0, 0⟩ : Slc) j -> j = r65 := by rintro j ⟨a, ha, rfl⟩; cases ha; rfl
    have k70 : ah (World.drew w55) w70 := k65.ext g2 (fun j hj => by rw [own65 j hj]; omega)
    have h70 := hd.ae k70
    have f69 : ∀ j, ai s69 j -> (World.drew w55).heap.size <= j := fun j hj => (g3 j hj).elim (fun h => by rw [own65 j h]; omega) (fun h => by have := k65.size; omega)
    refine ⟨⟨_, h70.c1, rfl⟩, ?_⟩
    obtain ⟨p3, p4⟩ := h70.s.own.part (lo := m + 1) (hi := sl.l) (c := sl.c) (by omega) (by omega) (by omega)
    have e2 : (((zs.map rzC).flatten.take (sl.l * 4)).drop ((m + 1) * 4)) = ((zs.drop (m + 1)).map rzC).flatten := by
     rw [List.take_of_length_le (by rw [hlen4]; show zs.length * 4 <= sl.l * 4; rw [hsl]; omega), Ae _ (wx zs), List.map_drop]
    have p3' : eW w70 (Slc.sub sl 4 (m + 1) sl.l sl.c).p ((zs.drop (m + 1)).map rzC).flatten := by rw [<- e2]; exact p3
    have p4' : (((zs.drop (m + 1)).map rzC).flatten).length = (Slc.sub sl 4 (m + 1) sl.l sl.c).l * 4 := by rw [<- e2]; exact p4
    have hs69 := g1.1
    have hl69 : s69.l = m := by
     rw [eA _ (wx (zs.take m)), List.length_map, List.length_take] at hs69
     omega
    refine cX g1 (by omega) rfl (iO p3' p4') (Ga _) (by simp only [Src.n, Slc.sub]; omega) (fun s72 w73 q1 q2 q3 q4 => aa rfl ?_)
    have k73 : ah (World.drew w55) w73 := k70.ext q2 (fun j hj => f69 j hj)
    have h73 := hd.ae k73
    have f72 : ∀ j, ai s72 j -> (World.drew w55).heap.size <= j := fun j hj => (q3 j hj).elim (fun h => f69 j h) (fun h => by have := k70.size; omega)
    have hdz : (World.drew w55).heap.size = w55.heap.size := rfl
    obtain ⟨c1, c2⟩ := h73.o.bf 1 (by simp) s72.v
    rw [add_lit]
    refine ⟨c1, fun w75 hw75 => ?_⟩
    obtain ⟨o75, e75, _⟩ := c2 w75 hw75
    have hflat : ((zs.take m).map rzC).flatten ++ ((zs.drop (m + 1)).map rzC).flatten = ((zs.eraseIdx m).map rzC).flatten := by
     rw [List.eraseIdx_eq_take_drop_succ, List.map_append, List.flatten_append]
    rw [hflat] at q1
    have hsub := List.eraseIdx_sublist zs m
    have r72 : ∀ j, ai s72 j -> j ≠ r := fun j hj e => by
     have := f72 j hj; have := hd.o.lt; omega
    have hrows : Rows RzR w73 s72 (zs.eraseIdx m) ((zs.eraseIdx m).map rzC) := by
     refine ⟨q1, by simp, fun i hi hi' => ?_, fun j hj hh => ?_⟩
     ·rw [List.getElem_map]
      exact ⟨rfl, fun j hj => h73.lt.1 j (.inr (.inr ⟨_, hsub.subset (List.getElem_mem _), hj⟩))⟩
     ·obtain ⟨cs, hc, hk'⟩ := hj
      obtain ⟨z, hzz, rfl⟩ := List.mem_map.1 hc
      have := hd.lt.1 j (.inr (.inr ⟨z, hsub.subset hzz, (q9 hk').2⟩))
      have := f72 j hh
      omega
    have x75 : Ext (fun j => j = r) (World.drew w55) w75 := Ext.trans k73 e75 (fun _ h => h.elim) (fun _ h => .inl h)
    obtain ⟨F, FT⟩ := gP.sub (zs' := zs.eraseIdx m) (sl' := s72) (w := World.drew w55) (w' := w75) hd hsub x75 o75 (F9 hrows e75 (fun j hj hh => r72 j hj hh)) f72
    refine ⟨rfl, s72, zs.eraseIdx m, ?_, F, (ow.ae (k55.trans kd)).trans FT⟩
    show (zs.eraseIdx m).map (·.g) = (zs.map (·.g)).eraseIdx m
    rw [qY]
 ·have hseek : seekI (fun g => decide ((g.num : Int) = n)) (gL zs) = -1 := sI (fun j hj => by rw [hgj]; exact hno j (by omega) (by omega))
  rw [yj hseek]
  exact ⟨rfl, sl, zs, rfl, h.ae hkk, ow.ae hkk⟩
end
end Go.D
namespace Go.D
open Go Go.Proofs
end Go.D
namespace Go.D
open Go Go.Proofs
theorem wh : ∀ (n : Nat) (z : Int) (w : World), z = n -> n <= 9223372036854775807 ->
  Calls Tryz.prog aL ⟨[.int .i64 z]⟩ w fun e w' => ∃ s : Slc, e = .returned s.v /\ Own w' s 1 ((bQ n).map aS) /\ aN w s /\ ah w w' := by
 intro n
 induction n using Nat.strongRecOn with
 | ind n ih =>
  intro z w hz hn
  refine pV _ ?_
  unfold lP
  refine af (fun h => ?_) (fun h => ?_)
  ·refine ao (fun r w3 hr hb hk hs => ?_)
   rw [hz, BV] at hb
   refine ⟨_, rfl, ?_, aN.at (by omega), hk⟩
   rw [AP (by omega)]
   exact Own.new (sz := 1) hb (.inl (by simp)) rfl
  ·refine ⟨by omega, by omega, ar (by omega), ao (fun r w5 hr hb hk hs => ?_)⟩
   rw [show (z % 128 + 128) = ((n % 128 + 128 : Nat) : Int) by omega, BV] at hb
   refine ⟨by omega, by omega, ar (by omega), ?_⟩
   refine (ih (n / 128) (by omega) (z / 128) w5 (by omega) (by omega)).mono ?_
   rintro e w7 ⟨s8, rfl, h8, f8, k8⟩
   have ho : Own w7 ⟨some ⟨r, 0, none⟩, 1, 1⟩ 1 ([UInt8.ofNat (n % 128 + 128)].map aS) := Own.ae (Own.new (sz := 1) hb (.inl (by simp)) rfl) k8
   have hle := ma (n / 128) 9 (by omega)
   have h81 := h8.bytes.1
   refine ⟨s8, rfl, fx (w0 := w) ho rfl (aN.at (by omega)) (hk.trans k8) (eD h8.bytes) (by simp only [Src.n]; omega) (fun s9 w10 g1 g2 g3 g4 => ?_)⟩
   refine ⟨s9, rfl, ?_, g3, g2⟩
   rw [AQ (by omega)]
   exact g1
theorem dg (n : Nat) (w : World) (h : n <= 9223372036854775807) :
  Calls Tryz.prog aL ⟨[.int .i64 (n : Int)]⟩ w fun e w' => ∃ s : Slc, e = .returned s.v /\ Own w' s 1 ((bQ n).map aS) /\ aN w s /\ ah w w' := wh n n w rfl h
end Go.D
namespace Go.D
open Go Go.Proofs
theorem wi (t : List UInt8) (w : World) (hl : t.length <= 2 ^ 20) :
  Calls Tryz.prog fK ⟨[dA t]⟩ w fun e w' => ∃ s : Slc, e = .returned s.v /\ Own w' s 1 ((bQ t.length ++ t).map aS) /\ aN w s /\ ah w w' := by
 refine oS _ ?_
 unfold kM
 refine (dg t.length w (by omega)).mono ?_
 rintro e w3 ⟨s4, rfl, h4, f4, k4⟩
 have hle := ma t.length 9 (by omega)
 have h41 := h4.bytes.1
 refine ⟨s4, rfl, fx (w0 := w) h4 rfl f4 k4 ⟨rfl, rfl⟩ (by simp only [Src.n]; omega) (fun s9 w10 g1 g2 g3 g4 => ?_)⟩
 exact ⟨s9, rfl, g1, g3, g2⟩
end Go.D
namespace Go.D
open Go Go.Proofs
structure RuE where
 a : Nat
 t : List UInt8
 n : Nat
structure RuF where
 rs : Nat
 sl : Slc
 zs : List Rz
 sa : Slc
 sp : Slc
 si : Slc
 css : List (List Value)
def RuW (r : Nat) (f : RuF) (j : Nat) : Prop := j = r \/ RfW f.rs f.sl f.zs j \/ ai f.sa j \/ ai f.sp j \/ ai f.si j
def RuY (f : RuF) (j : Nat) : Prop := RfY f.zs j \/ dK f.css j
structure RuC (r : Nat) (f : RuF) (c : Nat -> Nat) : Prop where
 cr : c r = 0
 cf : ∀ j, RfW f.rs f.sl f.zs j -> c j = 1
 ca : ∀ j, ai f.sa j -> c j = 2
 cp : ∀ j, ai f.sp j -> c j = 3
 ci : ∀ j, ai f.si j -> c j = 4
 cy : ∀ j, RuY f j -> c j = 5
structure jO (w : World) (r k : Nat) (f : RuF) (P : List RuE) (tr ep top : Int) : Prop where
 o : aq w r [av f.rs, f.sa.v, f.sp.v, f.si.v, .int .i64 tr, .int .i64 ep, .int .i64 top]
 R : gP w f.rs k f.sl f.zs
 a : aB w f.sa (P.map fun e => (e.a : Int))
 p : Rows pY w f.sp (P.map (·.t)) f.css
 i : aB w f.si (P.map fun e => (e.n : Int))
 c : ∃ c, RuC r f c
section
variable {w w' : World} {r k : Nat} {f : RuF} {P : List RuE} {tr ep top : Int}
theorem jO.ext {M : Nat -> Prop} (h : jO w r k f P tr ep top) (he : Ext M w w') (h1 : ∀ j, RuW r f j -> ¬ M j) (h2 : ∀ j, RuY f j -> ¬ M j) : jO w' r k f P tr ep top :=
 ⟨h.o.ext he (h1 _ (.inl rfl)), h.R.ext he (fun j hj => h1 j (.inr (.inl hj))) (fun j hj => h2 j (.inl hj)), h.a.ext he (fun j hj => h1 j (.inr (.inr (.inl hj)))), h.p.ext he (fun j hj => h1 j (.inr (.inr (.inr (.inl hj))))) (fun j hj => h2 j (.inr hj)),
  h.i.ext he (fun j hj => h1 j (.inr (.inr (.inr (.inr hj))))), h.c⟩
theorem jO.ae (h : jO w r k f P tr ep top) (he : ah w w') : jO w' r k f P tr ep top := h.ext he (fun _ _ h => h) (fun _ _ h => h)
theorem jO.lt (h : jO w r k f P tr ep top) : (∀ j, RuW r f j -> j < w.heap.size) /\ ∀ j, RuY f j -> j < w.heap.size := by
 refine ⟨?_, ?_⟩
 ·rintro j (rfl | hj | hj | hj | hj)
  ·exact h.o.lt
  ·exact h.R.lt.1 j hj
  ·exact Rows.lt h.a j hj
  ·exact h.p.lt j hj
  ·exact Rows.lt h.i j hj
 ·rintro j (hj | hj)
  ·exact h.R.lt.2 j hj
  ·exact h.p.flt j hj
theorem jO.cs (h : jO w r k f P tr ep top) : w.cell? ⟨r, 0, none⟩ = some (av f.rs) /\ w.cell? ((⟨r, 0, none⟩ : Addr).add 1) = some f.sa.v /\ w.cell? ((⟨r, 0, none⟩ : Addr).add 2) = some f.sp.v /\ w.cell? ((⟨r, 0, none⟩ : Addr).add 3) = some f.si.v /\
  w.cell? ((⟨r, 0, none⟩ : Addr).add 4) = some (.int .i64 tr) /\ w.cell? ((⟨r, 0, none⟩ : Addr).add 5) = some (.int .i64 ep) /\ w.cell? ((⟨r, 0, none⟩ : Addr).add 6) = some (.int .i64 top) := by
 simp only [add_lit]
 exact ⟨h.o.cell 0 (by simp), h.o.cell 1 (by simp), h.o.cell 2 (by simp), h.o.cell 3 (by simp), h.o.cell 4 (by simp), h.o.cell 5 (by simp), h.o.cell 6 (by simp)⟩
theorem jO.HI (h : jO w r k f P tr ep top) : ∀ j, RuW r f j -> ¬ RuY f j := by
 obtain ⟨c, hc⟩ := h.c
 intro j hj hy
 have h5 := hc.cy j hy
 rcases hj with rfl | hj | hj | hj | hj
 ·have := hc.cr; omega
 ·have := hc.cf j hj; omega
 ·have := hc.ca j hj; omega
 ·have := hc.cp j hj; omega
 ·have := hc.ci j hj; omega
theorem jO.store (h : jO w r k f P tr ep top) {sl' : Slc} {zs' : List Rz} (hR : gP w' f.rs k sl' zs') (ht : ow f.rs f.sl sl' f.zs zs' w w') : jO w' r k { f with sl := sl', zs := zs' } P tr ep top := by
 obtain ⟨c, hc⟩ := h.c
 obtain ⟨t1, t2, t3⟩ := ht
 have lt := h.lt
 have no : ∀ j, c j ≠ 1 -> ¬ RfW f.rs f.sl f.zs j := fun j h1 h2 => h1 (hc.cf j h2)
 refine ⟨h.o.ext t1 (no r (by rw [hc.cr]; omega)), hR, h.a.ext t1 (fun j hj => no j (by rw [hc.ca j hj]; omega)), h.p.ext t1 (fun j hj => no j (by rw [hc.cp j hj]; omega)) (fun j hj => no j (by rw [hc.cy j (.inr hj)]; omega)), h.i.ext t1 (fun j hj => no j (by rw [hc.ci j hj]; omega)), ?_⟩
 -- new blocks: those of the store that are written, and those that are read
 have hltR := hR.lt
 have key : ∀ j, RfW f.rs sl' zs' j -> ¬ RfY zs' j := by
  intro j hj hy
  rcases hj with rfl | hj | ⟨z, hz, hj⟩
  ·obtain ⟨z, hz, hy⟩ := hy; exact (hR.bt z hz _ hy).1 rfl
  ·obtain ⟨z, hz, hy⟩ := hy; exact (hR.bt z hz j hy).2.1 hj
  ·obtain ⟨y, hy0, hy⟩ := hy; exact (hR.bt y hy0 j hy).2.2 z hz hj
 refine ⟨fun j => if j < w.heap.size then c j else @ite _ (RfW f.rs sl' zs' j) (Classical.propDecidable _) 1 5, ?_, fun j hj => ?_, fun j hj => ?_, fun j hj => ?_, fun j hj => ?_, fun j hj => ?_⟩
 ·rw [if_pos h.o.lt]; exact hc.cr
 ·rcases t2 j hj with g | g
  ·rw [if_pos (lt.1 j (.inr (.inl g)))]; exact hc.cf j g
  ·rw [if_neg (by omega)]; exact @if_pos _ (Classical.propDecidable _) hj _ 1 5
 ·rw [if_pos (lt.1 j (.inr (.inr (.inl hj))))]; exact hc.ca j hj
 ·rw [if_pos (lt.1 j (.inr (.inr (.inr (.inl hj)))))]; exact hc.cp j hj
 ·rw [if_pos (lt.1 j (.inr (.inr (.inr (.inr hj)))))]; exact hc.ci j hj
 ·rcases hj with hj | hj
  ·rcases t3 j hj with g | g
   ·rw [if_pos (lt.2 j (.inl g))]; exact hc.cy j (.inl g)
   ·rw [if_neg (by omega)]
    exact @if_neg _ (Classical.propDecidable _) (fun hh => key j hh hj) _ 1 5
  ·rw [if_pos (lt.2 j (.inr hj))]; exact hc.cy j (.inr hj)
def vJ (P : List RuE) (tr a : Int) : Int := if a < tr then -1 else match P.findIdx? (fun e => decide ((e.a : Int) = a)) with | some i => i | none => -1
theorem yD (h : jO w r k f P tr ep top) (hP : P.length <= 2 ^ 20) (a : Int) :
  Calls Tryz.prog cg ⟨[av r, .int .i64 a]⟩ w fun e w' => e = .returned (.int .i64 (vJ P tr a)) /\ w' = w := by
 refine kZ _ _ ?_
 unfold ia
 have hsl := Rows.sl h.a
 rw [List.length_map] at hsl
 refine aa rfl ⟨_, h.cs.2.1, fun i w2 => ∃ n : Nat, i = n /\ n <= P.length /\ (tr <= a -> ∀ j (hj : j < P.length), j < n -> (P[j].a : Int) ≠ a) /\ w2 = w, fun i _ => ((P.length : Int) - i).toNat, ⟨0, rfl, by omega, fun _ j _ hj => by omega, rfl⟩, ?_⟩
 rintro i w8 ⟨n, rfl, hn, hno, rfl⟩
 intros
 refine af (fun h0 => ?_) (fun h0 => ⟨?_, rfl⟩)
 ·have hnl : n < P.length := by omega
  obtain ⟨a29, ha29, hc29⟩ := h.a.get (i := n) (by simpa using hnl)
  rw [List.getElem_map] at hc29
  refine aa ha29 ⟨by omega, h0, _, by rw [Int.toNat_natCast]; exact hc29, af (fun h1 => aa rfl ⟨_, h.cs.2.2.2.2.1, af (fun h2 => ⟨?_, rfl⟩) (fun h2 => ?_)⟩) (fun h1 => ?_)⟩
  ·unfold vJ
   rw [if_neg (by omega), (List.findIdx?_eq_some_iff_getElem (xs := P) (i := n)).2 ⟨hnl, by simpa using h1, fun j hj => by simpa using hno h2 j (by omega) hj⟩]
  ·exact ⟨ar (by omega), ⟨n + 1, rfl, hnl, fun hh => absurd hh h2, rfl⟩, by dsimp only; omega⟩
  ·refine ⟨ar (by omega), ⟨n + 1, rfl, hnl, fun hh j hj hjn => ?_, rfl⟩, by dsimp only; omega⟩
   by_cases e : j = n
   ·subst e; exact h1
   ·exact hno hh j hj (by omega)
 ·unfold vJ
  by_cases e : a < tr
  ·rw [if_pos e]
  ·rw [if_neg e, List.findIdx?_eq_none_iff.2 (fun x hx => by
    obtain ⟨j, hj, rfl⟩ := List.getElem_of_mem hx
    simpa using hno (by omega) j hj (by omega))]
theorem AZ (h : jO w r k f P tr ep top) (hP : P.length <= 2 ^ 20) (a : Int) :
  Calls Tryz.prog dV ⟨[av r, .int .i64 a]⟩ w fun e w' => e = .returned (.bool (decide (0 <= vJ P tr a))) /\ w' = w := by
 refine lN _ _ ?_
 unfold iT
 refine (yD h hP a).mono ?_
 rintro e w' ⟨rfl, rfl⟩
 exact ⟨_, rfl, rfl, rfl⟩
theorem me (h : jO w r k f P tr ep top) (epoch a most : Int) :
  Calls Tryz.prog br ⟨[av r, .int .i64 epoch, .int .i64 a, .int .i64 most]⟩ w fun e w' => e = .returned (.int .i64 (eN (eu ep epoch a most))) /\ w' = w := by
 refine km _ _ _ _ ?_
 unfold gS eu
 refine aa rfl ⟨_, h.cs.2.2.2.2.2.1, af (fun h0 => ⟨?_, rfl⟩) (fun h0 => af (fun h1 => ⟨?_, rfl⟩) (fun h1 => af (fun h2 => ⟨?_, rfl⟩) (fun h2 => af (fun h3 => ⟨?_, rfl⟩) (fun h3 => ⟨?_, rfl⟩))))⟩
 ·rw [if_pos (.inl h0)]; rfl
 ·rw [if_pos (.inr h1)]; rfl
 ·rw [if_neg (by omega), if_pos (.inl h2)]; rfl
 ·rw [if_neg (by omega), if_pos (.inr h3)]; rfl
 ·rw [if_neg (by omega), if_neg (by omega)]; rfl
theorem nv (h : jO w r k f P tr ep top) :
  Calls Tryz.prog bz ⟨[av r]⟩ w fun e w' => e = .returned (.int .i64 (max top tr)) /\ ah w w' := by
 refine lg _ ?_
 unfold ig
 have hd := h.ae (Ext.drew fp w)
 refine aa rfl ⟨_, hd.cs.2.2.2.2.2.2, aa rfl ⟨_, hd.cs.2.2.2.2.1, ?_, Ext.drew _ _⟩⟩
 rw [show (if tr > top then tr else top) = max top tr by split <;> omega]
theorem uX (s : Slc) (l : List (List UInt8)) (css : List (List Value)) (hr : Rows pY w s l css) (hl : l.length <= 10) (hb : ∀ b ∈ l, b.length <= 2 ^ 20) :
  Calls Tryz.prog cK ⟨[s.v]⟩ w fun e w' => ∃ t : Slc, e = .returned t.v /\ Own w' t 1 (l.flatten.map aS) /\ aN w t /\ ah w w' := by
 refine pU _ ?_
 unfold lO
 have hsl := hr.sl
 refine ao (fun r2 w3 hr2 hb2 k2 hs2 => ?_)
 have hflat : ∀ n, n <= l.length -> (l.take n).flatten.length <= n * 2 ^ 20 := by
  intro n
  induction n with
  | zero => intro _; simp
  | succ n ih =>
   intro hn
   rw [fP _ _ (by omega), List.flatten_append, List.length_append]
   have := ih (by omega)
   have h2 := hb _ (List.getElem_mem (show n < l.length by omega))
   simp only [List.flatten_cons, List.flatten_nil, List.append_nil]; omega
 refine ⟨fun o i w2 => ∃ n : Nat, i = n /\ n <= l.length /\ Own w2 o 1 ((l.take n).flatten.map aS) /\ aN w o /\ ah w w2, fun _ i _ => ((l.length : Int) - i).toNat,
  ⟨0, rfl, by omega, Own.new (sz := 1) (n := 0) hb2 (.inl (by simp)) rfl, aN.at (by omega), k2⟩, ?_⟩
 rintro o i w8 ⟨n, rfl, hn, ho, hf, hk⟩
 intros
 refine af (fun h0 => ?_) (fun h0 => ?_)
 ·have hnl : n < l.length := by omega
  have h8 := hr.ae hk
  have hnc : n < css.length := by rw [h8.len]; exact hnl
  obtain ⟨a17, ha17, _, hrow⟩ := h8.get (i := n) hnc
  obtain ⟨s18, hcs, hb18⟩ := h8.row n hnc hnl
  rw [hcs] at hrow
  have hbn := hb _ (List.getElem_mem hnl)
  have hol := ho.1
  have hfl := hflat n (by omega)
  have hb1 := hb18.1
  refine aa ha17 ⟨by omega, h0, s18, by rw [Int.toNat_natCast]; exact jk hrow 0 (by simp), ?_⟩
  refine fx ho rfl hf hk (eD hb18) (by simp only [Src.n]; rw [List.length_map] at hol; omega) (fun s' w' g1 g2 g3 g4 => ⟨ar (by omega), ⟨n + 1, rfl, hnl, ?_, g3, g2⟩, by dsimp only; omega⟩)
  rw [fP _ _ hnl, List.flatten_append]
  simpa using g1
 ·have hnn : n = l.length := by omega
  subst hnn
  rw [List.take_length] at ho
  exact ⟨o, rfl, ho, hf, hk⟩
theorem G6 (ss : List Slc) : (ss.map fun s => [s.v]).flatten = ss.map Slc.v := by
 induction ss with
 | nil => rfl
 | cons s ss ih => simpa using ih
theorem yE {w : World} {T : TypeId} {c : Nat} (ss : List Slc) (bs : List (List UInt8)) (hb : w.heap[c]? = some (.cells ⟨ss.map Slc.v⟩ T)) (hl : ss.length = bs.length) (hs : ∀ i (h : i < ss.length) (h' : i < bs.length), au w ss[i] bs[i]) (hc : ∀ s ∈ ss, ∀ j, ai s j -> j ≠ c) :
  Rows pY w ⟨some ⟨c, 0, none⟩, ss.length, ss.length⟩ bs (ss.map fun s => [s.v]) := by
 have e := G6 ss
 refine ⟨?_, by simpa using hl, fun i h1 h2 => ?_, fun j hj hh => ?_⟩
 ·rw [e]
  exact Own.new (sz := 1) (n := ss.length) hb (.inl (by simp)) (by simp)
 ·rw [List.length_map] at h1
  rw [List.getElem_map]
  exact ⟨_, rfl, hs i h1 h2⟩
 ·obtain ⟨cs, hcs, s', hs', h0, hj'⟩ := hj
  obtain ⟨s, hs0, rfl⟩ := List.mem_map.1 hcs
  rw [List.mem_singleton] at hs'
  have hjc : j = c := by obtain ⟨a, ha, rfl⟩ := hh; cases ha; rfl
  have e2 : s' = s := by
   obtain ⟨p, l, cc⟩ := s
   obtain ⟨p', l', c'⟩ := s'
   simp [Slc.v] at hs'
   obtain ⟨rfl, rfl, rfl⟩ := hs'
   rfl
  subst e2
  exact hc _ hs0 j hj' hjc
end
end Go.D
namespace Go.D
open Go Go.Proofs
structure PWq where
 sa : Slc
 la : List Int
 sp : Slc
 lp : List (List UInt8)
 css : List (List Value)
 si : Slc
 li : List Int
 X : List (Nat × List Value)
 B : List Slc
structure PWC (r : Nat) (f : RuF) (b4 : Slc) (z : PWq) (c : Nat -> Nat) : Prop where
 cr : c r = 0
 cf : ∀ j, RfW f.rs f.sl f.zs j -> c j = 1
 ca : ∀ j, ai z.sa j -> c j = 2
 cp : ∀ j, ai z.sp j -> c j = 3
 ci : ∀ j, ai z.si j -> c j = 4
 cy : ∀ j, RfY f.zs j \/ dK z.css j \/ ai b4 j -> c j = 5
 cx : ∀ v ∈ z.X, c v.1 = if v.2 = [] then 6 else 5
 cb : ∀ s ∈ z.B, ∀ j, ai s j -> c j = 5
structure PW (w0 : World) (r k : Nat) (f : RuF) (tr ep top : Int) (b4 : Slc) (t : List UInt8) (z : PWq) (w : World) : Prop where
 o : aq w r [av f.rs, f.sa.v, f.sp.v, f.si.v, .int .i64 tr, .int .i64 ep, .int .i64 top]
 R : gP w f.rs k f.sl f.zs
 a : aB w z.sa z.la
 p : Rows pY w z.sp z.lp z.css
 i : aB w z.si z.li
 b : au w b4 t
 bl : ∀ j, ai b4 j -> j < w.heap.size
 x : ∀ v ∈ z.X, ∃ T, w.heap[v.1]? = some (.cells ⟨v.2⟩ T)
 y : ∀ s ∈ z.B, au w s t /\ ∀ j, ai s j -> j < w.heap.size
 c : ∃ c, PWC r f b4 z c
 e : Ext (RuW r f) w0 w
 g : (∀ j, ai z.sa j -> ai f.sa j \/ w0.heap.size <= j) /\ (∀ j, ai z.sp j -> ai f.sp j \/ w0.heap.size <= j) /\ (∀ j, ai z.si j -> ai f.si j \/ w0.heap.size <= j) /\ (∀ j, dK z.css j -> dK f.css j \/ w0.heap.size <= j) /\
  (∀ v ∈ z.X, w0.heap.size <= v.1) /\ ∀ s ∈ z.B, ∀ j, ai s j -> w0.heap.size <= j
section
variable {w0 w : World} {r k : Nat} {f : RuF} {tr ep top : Int} {b4 : Slc} {t : List UInt8} {sa sp si : Slc} {la li : List Int} {lp : List (List UInt8)} {css : List (List Value)} {X : List (Nat × List Value)} {B : List Slc}
theorem PW.c1 {z : PWq} (h : PW w0 r k f tr ep top b4 t z w) : w.cell? ((⟨r, 0, none⟩ : Addr).add 1) = some f.sa.v := by rw [add_lit]; exact h.o.cell 1 (by simp)
theorem PW.c2 {z : PWq} (h : PW w0 r k f tr ep top b4 t z w) : w.cell? ((⟨r, 0, none⟩ : Addr).add 2) = some f.sp.v := by rw [add_lit]; exact h.o.cell 2 (by simp)
theorem PW.c3 {z : PWq} (h : PW w0 r k f tr ep top b4 t z w) : w.cell? ((⟨r, 0, none⟩ : Addr).add 3) = some f.si.v := by rw [add_lit]; exact h.o.cell 3 (by simp)
theorem PW.start {P : List RuE} (h : jO w r k f P tr ep top) (hb : au w b4 t) (ht : 0 < t.length) (hs : ∀ j, ai b4 j -> ¬ RuW r f j) :
  PW w r k f tr ep top b4 t ⟨f.sa, P.map fun e => (e.a : Int), f.sp, P.map (·.t), f.css, f.si, P.map fun e => (e.n : Int), [], []⟩ w := by
 obtain ⟨c, hc⟩ := h.c
 have hl := hb.1
 refine ⟨h.o, h.R, h.a, h.p, h.i, hb, fun j hj => fu hb (by omega) j hj, by simp, by simp, ⟨fun j => @ite _ (ai b4 j) (Classical.propDecidable _) 5 (c j), ?_, fun j hj => ?_, fun j hj => ?_, fun j hj => ?_, fun j hj => ?_, fun j hj => ?_, by simp, by simp⟩, Ext.refl _ _, fun j hj => .inl hj, fun j hj => .inl hj, fun j hj => .inl hj, fun j hj => .inl hj, by simp, by simp⟩
 ·rw [@if_neg _ (Classical.propDecidable _) (fun hh => hs r hh (.inl rfl))]; exact hc.cr
 ·rw [@if_neg _ (Classical.propDecidable _) (fun hh => hs j hh (.inr (.inl hj)))]; exact hc.cf j hj
 ·rw [@if_neg _ (Classical.propDecidable _) (fun hh => hs j hh (.inr (.inr (.inl hj))))]; exact hc.ca j hj
 ·rw [@if_neg _ (Classical.propDecidable _) (fun hh => hs j hh (.inr (.inr (.inr (.inl hj)))))]; exact hc.cp j hj
 ·rw [@if_neg _ (Classical.propDecidable _) (fun hh => hs j hh (.inr (.inr (.inr (.inr hj)))))]; exact hc.ci j hj
 ·by_cases e : ai b4 j
  ·rw [@if_pos _ (Classical.propDecidable _) e]
  ·rw [@if_neg _ (Classical.propDecidable _) e]
   rcases hj with hj | hj | hj
   ·exact hc.cy j (.inl hj)
   ·exact hc.cy j (.inr hj)
   ·exact absurd hj e
theorem PW.stay {z : PWq} {w' : World} {M : Nat -> Prop} {c : Nat -> Nat} {n : Nat} (h : PW w0 r k f tr ep top b4 t z w) (hc : PWC r f b4 z c) (he : Ext M w w') (hM : ∀ j, M j -> c j = n) :
  (n ≠ 0 -> aq w' r [av f.rs, f.sa.v, f.sp.v, f.si.v, .int .i64 tr, .int .i64 ep, .int .i64 top]) /\ (n ≠ 1 -> n ≠ 5 -> gP w' f.rs k f.sl f.zs) /\ (n ≠ 2 -> aB w' z.sa z.la) /\ (n ≠ 3 -> n ≠ 5 -> Rows pY w' z.sp z.lp z.css) /\ (n ≠ 4 -> aB w' z.si z.li) /\ (n ≠ 5 -> au w' b4 t) /\
   (∀ j, ai b4 j -> j < w'.heap.size) /\ (n ≠ 5 -> n ≠ 6 -> ∀ v ∈ z.X, ∃ T, w'.heap[v.1]? = some (.cells ⟨v.2⟩ T)) /\ (n ≠ 5 -> ∀ v ∈ z.X, v.2 ≠ [] -> ∃ T, w'.heap[v.1]? = some (.cells ⟨v.2⟩ T)) /\ (n ≠ 5 -> ∀ s ∈ z.B, au w' s t /\ ∀ j, ai s j -> j < w'.heap.size) := by
 have sz := he.size
 refine ⟨fun h0 => h.o.ext he (fun hh => h0 (by rw [<- hM r hh, hc.cr])), fun h1 h5 => h.R.ext he (fun j hj hh => h1 (by rw [<- hM j hh, hc.cf j hj])) (fun j hj hh => h5 (by rw [<- hM j hh, hc.cy j (.inl hj)])), fun h2 => h.a.ext he (fun j hj hh => h2 (by rw [<- hM j hh, hc.ca j hj])),
  fun h3 h5 => h.p.ext he (fun j hj hh => h3 (by rw [<- hM j hh, hc.cp j hj])) (fun j hj hh => h5 (by rw [<- hM j hh, hc.cy j (.inr (.inl hj))])), fun h4 => h.i.ext he (fun j hj hh => h4 (by rw [<- hM j hh, hc.ci j hj])), fun h5 => cC h.b he (fun j hj hh => h5 (by rw [<- hM j hh, hc.cy j (.inr (.inr hj))])),
  fun j hj => by have := h.bl j hj; omega, fun h5 h6 v hv => ?_, fun h5 v hv hne => ?_, fun h5 s hs => ⟨cC (h.y s hs).1 he (fun j hj hh => h5 (by rw [<- hM j hh, hc.cb s hs j hj])), fun j hj => by have := (h.y s hs).2 j hj; omega⟩⟩
 ·obtain ⟨T, hT⟩ := h.x v hv
  refine ⟨T, he.heap hT (fun hh => ?_)⟩
  have h1 := hM _ hh
  rw [hc.cx v hv] at h1
  split at h1 <;> omega
 ·obtain ⟨T, hT⟩ := h.x v hv
  refine ⟨T, he.heap hT (fun hh => ?_)⟩
  have h1 := hM _ hh
  rw [hc.cx v hv, if_neg hne] at h1
  omega
theorem PW.lt {z : PWq} (h : PW w0 r k f tr ep top b4 t z w) : r < w.heap.size /\ (∀ j, RfW f.rs f.sl f.zs j -> j < w.heap.size) /\ (∀ j, ai z.sa j -> j < w.heap.size) /\ (∀ j, ai z.sp j -> j < w.heap.size) /\ (∀ j, ai z.si j -> j < w.heap.size) /\
  (∀ j, RfY f.zs j \/ dK z.css j \/ ai b4 j -> j < w.heap.size) /\ (∀ v ∈ z.X, v.1 < w.heap.size) /\ ∀ s ∈ z.B, ∀ j, ai s j -> j < w.heap.size :=
 ⟨h.o.lt, h.R.lt.1, Rows.lt h.a, h.p.lt, Rows.lt h.i, fun j hj => hj.elim (h.R.lt.2 j) (fun g => g.elim (h.p.flt j) (h.bl j)), fun v hv => by obtain ⟨T, hT⟩ := h.x v hv; exact bL hT, fun s hs => (h.y s hs).2⟩
theorem PW.mkC {z z' : PWq} {c : Nat -> Nat} (h : PW w0 r k f tr ep top b4 t z w) (hc : PWC r f b4 z c) (n : Nat)
  (h1 : ∀ j, ai z'.sa j -> ai z.sa j \/ w.heap.size <= j /\ n = 2) (h2 : ∀ j, ai z'.sp j -> ai z.sp j \/ w.heap.size <= j /\ n = 3) (h3 : ∀ j, ai z'.si j -> ai z.si j \/ w.heap.size <= j /\ n = 4)
  (h4 : ∀ j, dK z'.css j -> dK z.css j \/ ∃ s ∈ z.B, ai s j) (h5 : ∀ v ∈ z'.X, v ∈ z.X \/ w.heap.size <= v.1 /\ n = if v.2 = [] then 6 else 5) (h6 : ∀ s ∈ z'.B, s ∈ z.B) :
  PWC r f b4 z' (fun j => if j < w.heap.size then c j else n) := by
 obtain ⟨l0, l1, l2, l3, l4, l5, l6, l7⟩ := h.lt
 refine ⟨?_, fun j hj => ?_, fun j hj => ?_, fun j hj => ?_, fun j hj => ?_, fun j hj => ?_, fun v hv => ?_, fun s hs j hj => ?_⟩
 ·rw [if_pos l0]; exact hc.cr
 ·rw [if_pos (l1 j hj)]; exact hc.cf j hj
 ·rcases h1 j hj with g | ⟨g, e⟩
  ·rw [if_pos (l2 j g)]; exact hc.ca j g
  ·rw [if_neg (by omega)]; exact e
 ·rcases h2 j hj with g | ⟨g, e⟩
  ·rw [if_pos (l3 j g)]; exact hc.cp j g
  ·rw [if_neg (by omega)]; exact e
 ·rcases h3 j hj with g | ⟨g, e⟩
  ·rw [if_pos (l4 j g)]; exact hc.ci j g
  ·rw [if_neg (by omega)]; exact e
 ·rcases hj with hj | hj | hj
  ·rw [if_pos (l5 j (.inl hj))]; exact hc.cy j (.inl hj)
  ·rcases h4 j hj with g | ⟨s, hs, g⟩
   ·rw [if_pos (l5 j (.inr (.inl g)))]; exact hc.cy j (.inr (.inl g))
   ·rw [if_pos (l7 s hs j g)]; exact hc.cb s hs j g
  ·rw [if_pos (l5 j (.inr (.inr hj)))]; exact hc.cy j (.inr (.inr hj))
 ·rcases h5 v hv with g | ⟨g, e⟩
  ·rw [if_pos (l6 v g)]; exact hc.cx v g
  ·rw [if_neg (by omega)]; exact e
 ·rw [if_pos (l7 s (h6 s hs) j hj)]; exact hc.cb s (h6 s hs) j hj
theorem PW.new (h : PW w0 r k f tr ep top b4 t ⟨sa, la, sp, lp, css, si, li, X, B⟩ w) (vs : List Value) (T : TypeId) {K : Nat -> World -> Prop} (hK : ∀ r9 w', PW w0 r k f tr ep top b4 t ⟨sa, la, sp, lp, css, si, li, (r9, vs) :: X, B⟩ w' -> K r9 w') : aA w (.cells ⟨vs⟩ T) K := by
 refine ao (fun r9 w' hr hb k9 hs => hK r9 w' ?_)
 obtain ⟨c, hc⟩ := h.c
 obtain ⟨s1, s2, s3, s4, s5, s6, s7, s8, _, s9⟩ := h.stay (n := 7) hc k9 (fun _ h => h.elim)
 obtain ⟨g1, g2, g3, g4, g5, g6⟩ := h.g
 have z0 := h.e.size
 refine ⟨s1 (by decide), s2 (by decide) (by decide), s3 (by decide), s4 (by decide) (by decide), s5 (by decide), s6 (by decide), s7, fun v hv => ?_, s9 (by decide), ⟨_, h.mkC (z' := ⟨sa, la, sp, lp, css, si, li, (r9, vs) :: X, B⟩) hc (if vs = [] then 6 else 5) (fun j hj => .inl hj) (fun j hj => .inl hj) (fun j hj => .inl hj) (fun j hj => .inl hj) (fun v hv => ?_) (fun s hs => hs)⟩,
  h.e.trans k9 (fun _ h => h) (fun _ h => h.elim), g1, g2, g3, g4, fun v hv => ?_, g6⟩
 ·rcases List.mem_cons.1 hv with rfl | hv
  ·exact ⟨T, hb⟩
  ·exact s8 (by decide) (by decide) v hv
 ·rcases List.mem_cons.1 hv with rfl | hv
  ·exact .inr ⟨by show w.heap.size <= r9; omega, rfl⟩
  ·exact .inl hv
 ·rcases List.mem_cons.1 hv with rfl | hv
  ·show _ <= r9; omega
  ·exact g5 v hv
theorem PW.yF (h : PW w0 r k f tr ep top b4 t ⟨sa, la, sp, lp, css, si, li, X, B⟩ w) {a : Int} {r9 : Nat} (hx : (r9, [Value.int .i64 a]) ∈ X) (hl : la.length < 2 ^ 30) {E : TypeId} {K : Slc -> World -> Prop} (hK : ∀ s' w', PW w0 r k f tr ep top b4 t ⟨s', la ++ [a], sp, lp, css, si, li, X, B⟩ w' -> K s' w') :
  ak 1 E [Value.int .i64 0] w sa (.slc ⟨some ⟨r9, 0, none⟩, 1, 1⟩) K := by
 obtain ⟨T, hb⟩ := h.x _ hx
 obtain ⟨c, hc⟩ := h.c
 refine Rows.snoc (cs := qG a) (x := a) (z := [.int .i64 0]) h.a rfl rfl (fun k hk => (lX hk).elim) hb (.inl (by simp)) hl (fun s' w' q1 q2 q3 => hK s' w' ?_)
 obtain ⟨s1, s2, s3, s4, s5, s6, s7, s8, _, s9⟩ := h.stay (n := 2) hc q2 (fun j hj => hc.ca j hj)
 obtain ⟨g1, g2, g3, g4, g5, g6⟩ := h.g
 have z0 := h.e.size
 refine ⟨s1 (by decide), s2 (by decide) (by decide), aB.of (by simpa using q1), s4 (by decide) (by decide), s5 (by decide), s6 (by decide), s7, s8 (by decide) (by decide), s9 (by decide), ⟨_, h.mkC (z' := ⟨s', la ++ [a], sp, lp, css, si, li, X, B⟩) hc 2 (fun j hj => (q3 j hj).imp (fun h => h) (fun h => ⟨h, rfl⟩)) (fun j hj => .inl hj) (fun j hj => .inl hj) (fun j hj => .inl hj) (fun v hv => .inl hv) (fun s hs => hs)⟩,
  h.e.trans q2 (fun _ h => h) (fun j hj => (g1 j hj).elim (fun g => .inl (.inr (.inr (.inl g)))) .inr), fun j hj => (q3 j hj).elim (g1 j) (fun h => .inr (by omega)), g2, g3, g4, g5, g6⟩
theorem PW.nw (h : PW w0 r k f tr ep top b4 t ⟨sa, la, sp, lp, css, si, li, X, B⟩ w) {a : Int} {r9 : Nat} (hx : (r9, [Value.int .i64 a]) ∈ X) (hl : li.length < 2 ^ 30) {E : TypeId} {K : Slc -> World -> Prop} (hK : ∀ s' w', PW w0 r k f tr ep top b4 t ⟨sa, la, sp, lp, css, s', li ++ [a], X, B⟩ w' -> K s' w') :
  ak 1 E [Value.int .i64 0] w si (.slc ⟨some ⟨r9, 0, none⟩, 1, 1⟩) K := by
 obtain ⟨T, hb⟩ := h.x _ hx
 obtain ⟨c, hc⟩ := h.c
 refine Rows.snoc (cs := qG a) (x := a) (z := [.int .i64 0]) h.i rfl rfl (fun k hk => (lX hk).elim) hb (.inl (by simp)) hl (fun s' w' q1 q2 q3 => hK s' w' ?_)
 obtain ⟨s1, s2, s3, s4, s5, s6, s7, s8, _, s9⟩ := h.stay (n := 4) hc q2 (fun j hj => hc.ci j hj)
 obtain ⟨g1, g2, g3, g4, g5, g6⟩ := h.g
 have z0 := h.e.size
 refine ⟨s1 (by decide), s2 (by decide) (by decide), s3 (by decide), s4 (by decide) (by decide), aB.of (by simpa using q1), s6 (by decide), s7, s8 (by decide) (by decide), s9 (by decide), ⟨_, h.mkC (z' := ⟨sa, la, sp, lp, css, s', li ++ [a], X, B⟩) hc 4 (fun j hj => .inl hj) (fun j hj => .inl hj) (fun j hj => (q3 j hj).imp (fun h => h) (fun h => ⟨h, rfl⟩)) (fun j hj => .inl hj) (fun v hv => .inl hv) (fun s hs => hs)⟩,
  h.e.trans q2 (fun _ h => h) (fun j hj => (g3 j hj).elim (fun g => .inl (.inr (.inr (.inr (.inr g))))) .inr), g1, g2, fun j hj => (q3 j hj).elim (g3 j) (fun h => .inr (by omega)), g4, g5, g6⟩
theorem PW.ny (h : PW w0 r k f tr ep top b4 t ⟨sa, la, sp, lp, css, si, li, X, B⟩ w) {s9 : Slc} {r9 : Nat} (hx : (r9, [s9.v]) ∈ X) (hB : s9 ∈ B) (hl : lp.length < 2 ^ 30) {E : TypeId} {K : Slc -> World -> Prop} (hK : ∀ s' w', PW w0 r k f tr ep top b4 t ⟨sa, la, s', lp ++ [t], css ++ [[s9.v]], si, li, X, B⟩ w' -> K s' w') :
  ak 1 E [(⟨none, 0, 0⟩ : Slc).v] w sp (.slc ⟨some ⟨r9, 0, none⟩, 1, 1⟩) K := by
 obtain ⟨T, hb⟩ := h.x _ hx
 obtain ⟨c, hc⟩ := h.c
 have fs : ∀ j, lK [s9.v] j -> ai s9 j := fun j hj => (gx hj).2
 refine Rows.snoc (cs := [s9.v]) (x := t) (z := [(⟨none, 0, 0⟩ : Slc).v]) h.p rfl ⟨s9, rfl, (h.y s9 hB).1⟩ (fun j hj hh => ?_) hb (.inl (by simp)) hl (fun s' w' q1 q2 q3 => hK s' w' ?_)
 ·have e1 := hc.cb s9 hB j (fs j hj)
  have e2 := hc.cp j hh
  omega
 obtain ⟨s1, s2, s3, s4, s5, s6, s7, s8, _, s9'⟩ := h.stay (n := 3) hc q2 (fun j hj => hc.cp j hj)
 obtain ⟨g1, g2, g3, g4, g5, g6⟩ := h.g
 have z0 := h.e.size
 have fc : ∀ j, dK (css ++ [[s9.v]]) j -> dK css j \/ ai s9 j := by
  rintro j ⟨cs, hcs, hj⟩
  rcases List.mem_append.1 hcs with hcs | hcs
  ·exact .inl ⟨cs, hcs, hj⟩
  ·rw [List.mem_singleton] at hcs; subst hcs; exact .inr (fs j hj)
 refine ⟨s1 (by decide), s2 (by decide) (by decide), s3 (by decide), q1, s5 (by decide), s6 (by decide), s7, s8 (by decide) (by decide), s9' (by decide), ⟨_, h.mkC (z' := ⟨sa, la, s', lp ++ [t], css ++ [[s9.v]], si, li, X, B⟩) hc 3 (fun j hj => .inl hj) (fun j hj => (q3 j hj).imp (fun h => h) (fun h => ⟨h, rfl⟩)) (fun j hj => .inl hj) (fun j hj => (fc j hj).imp (fun h => h) (fun h => ⟨s9, hB, h⟩)) (fun v hv => .inl hv) (fun s hs => hs)⟩,
  h.e.trans q2 (fun _ h => h) (fun j hj => (g2 j hj).elim (fun g => .inl (.inr (.inr (.inr (.inl g))))) .inr), g1, fun j hj => (q3 j hj).elim (g2 j) (fun h => .inr (by omega)), g3, fun j hj => (fc j hj).elim (g4 j) (fun h => .inr (g6 s9 hB j h)), g5, g6⟩
theorem PW.sP (h : PW w0 r k f tr ep top b4 t ⟨sa, la, sp, lp, css, si, li, X, B⟩ w) {r9 : Nat} (hx : (r9, []) ∈ X) (hl : t.length <= 2 ^ 20) {E : TypeId} {K : Slc -> World -> Prop} (hK : ∀ s' w', PW w0 r k f tr ep top b4 t ⟨sa, la, sp, lp, css, si, li, X.filter (fun v => !v.2.isEmpty), s' :: B⟩ w' -> K s' w') :
  ak 1 E [Value.int .u8 0] w ⟨some ⟨r9, 0, none⟩, 0, 0⟩ (.slc b4) K := by
 obtain ⟨T, hb⟩ := h.x _ hx
 obtain ⟨c, hc⟩ := h.c
 have hbl := h.b.1
 have how : Own w ⟨some ⟨r9, 0, none⟩, 0, 0⟩ 1 [] := Own.new (sz := 1) (n := 0) hb (.inl (by simp)) rfl
 have hc9 : c r9 = 6 := hc.cx _ hx
 refine cX how (by omega) rfl (eD h.b) (nG t) (by simp only [Src.n]; omega) (fun s' w' q1 q2 q3 _ => hK s' w' ?_)
 have o9 : ∀ j, ai (⟨some ⟨r9, 0, none⟩, 0, 0⟩ : Slc) j -> j = r9 := by rintro j ⟨a, ha, rfl⟩; cases ha; rfl
 obtain ⟨s1, s2, s3, s4, s5, s6, s7, _, s8, s9⟩ := h.stay (n := 6) hc q2 (fun j hj => by rw [o9 j hj]; exact hc9)
 obtain ⟨g1, g2, g3, g4, g5, g6⟩ := h.g
 obtain ⟨l0, l1, l2, l3, l4, l5, l6, l7⟩ := h.lt
 have z0 := h.e.size
 have hr9 := g5 _ hx
 have hlt' : ∀ j, ai s' j -> j < w'.heap.size := cD q1
 have memX : ∀ v, v ∈ X.filter (fun v => !v.2.isEmpty) -> v ∈ X /\ v.2 ≠ [] := fun v hv => by
  obtain ⟨h1, h2⟩ := List.mem_filter.1 hv
  exact ⟨h1, by simpa using h2⟩
 refine ⟨s1 (by decide), s2 (by decide) (by decide), s3 (by decide), s4 (by decide) (by decide), s5 (by decide), s6 (by decide), s7, fun v hv => s8 (by decide) v (memX v hv).1 (memX v hv).2, fun s hs => ?_, ⟨fun j => if j < w.heap.size then (if c j = 6 then 5 else c j) else 5, ?_, fun j hj => ?_, fun j hj => ?_, fun j hj => ?_, fun j hj => ?_, fun j hj => ?_, fun v hv => ?_, fun s hs j hj => ?_⟩,
  h.e.trans q2 (fun _ h => h) (fun j hj => .inr (by rw [o9 j hj]; exact hr9)), g1, g2, g3, g4, fun v hv => g5 v (memX v hv).1, fun s hs j hj => ?_⟩
 ·rcases List.mem_cons.1 hs with rfl | hs
  ·exact ⟨Own.bytes (by simpa using q1), hlt'⟩
  ·exact s9 (by decide) s hs
 ·have := hc.cr
  rw [if_pos l0, if_neg (by omega)]; exact this
 ·have := hc.cf j hj
  rw [if_pos (l1 j hj), if_neg (by omega)]; exact this
 ·have := hc.ca j hj
  rw [if_pos (l2 j hj), if_neg (by omega)]; exact this
 ·have := hc.cp j hj
  rw [if_pos (l3 j hj), if_neg (by omega)]; exact this
 ·have := hc.ci j hj
  rw [if_pos (l4 j hj), if_neg (by omega)]; exact this
 ·have := hc.cy j hj
  rw [if_pos (l5 j hj), if_neg (by omega)]; exact this
 ·obtain ⟨v1, v2⟩ := memX v hv
  have := hc.cx v v1
  rw [if_neg v2] at this ⊢
  rw [if_pos (l6 v v1), if_neg (by omega)]; exact this
 ·rcases List.mem_cons.1 hs with rfl | hs
  ·rcases q3 j hj with g | g
   ·rw [o9 j g, if_pos (l6 _ hx), if_pos hc9]
   ·rw [if_neg (by omega)]
  ·have := hc.cb s hs j hj
   rw [if_pos (l7 s hs j hj), if_neg (by omega)]; exact this
 ·rcases List.mem_cons.1 hs with rfl | hs
  ·rcases q3 j hj with g | g
   ·rw [o9 j g]; exact hr9
   ·omega
  ·exact g6 s hs j hj
def ec (r : Nat) (f f' : RuF) (w w' : World) : Prop := Ext (RuW r f) w w' /\ (∀ j, RuW r f' j -> RuW r f j \/ w.heap.size <= j) /\ ∀ j, RuY f' j -> RuY f j \/ w.heap.size <= j
theorem ec.refl (r : Nat) (f : RuF) (w : World) : ec r f f w w := ⟨Ext.refl _ _, fun j hj => .inl hj, fun j hj => .inl hj⟩
theorem ec.trans {r : Nat} {f1 f2 f3 : RuF} {a b c : World} (h1 : ec r f1 f2 a b) (h2 : ec r f2 f3 b c) : ec r f1 f3 a c :=
 ⟨h1.1.trans h2.1 (fun _ h => h) (fun j hj => h1.2.1 j hj), fun j hj => (h2.2.1 j hj).elim (h1.2.1 j) (fun h => .inr (Nat.le_trans h1.1.size h)), fun j hj => (h2.2.2 j hj).elim (h1.2.2 j) (fun h => .inr (Nat.le_trans h1.1.size h))⟩
theorem ec.ae {r : Nat} {f : RuF} {w w' : World} (hk : ah w w') : ec r f f w w' := ⟨hk.mono (fun _ h => h.elim), fun j hj => .inl hj, fun j hj => .inl hj⟩
theorem PW.fin {P : List RuE} {a n : Nat} (h : PW w0 r k f tr ep top b4 t ⟨sa, (P.map fun e => (e.a : Int)) ++ [(a : Int)], sp, (P.map (·.t)) ++ [t], css, si, (P.map fun e => (e.n : Int)) ++ [(n : Int)], X, B⟩ w) (ha : a <= 2 ^ 40) {K : Value -> World -> Prop}
  (hK : ∀ w', jO w' r k { f with sa := sa, sp := sp, si := si, css := css } (P ++ [(⟨a, t, n⟩ : RuE)]) tr ep (max top ((a : Int) + 1)) -> ec r f { f with sa := sa, sp := sp, si := si, css := css } w0 w' -> K (.int .i64 0) w') :
  needSome (some (⟨r, 0, none⟩ : Addr)) fun a87 => aw w (a87.add 1) 1 /\ ∀ w88 : World, w88 = World.setCell w (a87.add 1) (Slc.v sa) ->
   needSome (some (⟨r, 0, none⟩ : Addr)) fun a89 => aw w88 (a89.add 2) 1 /\ ∀ w90 : World, w90 = World.setCell w88 (a89.add 2) (Slc.v sp) ->
   needSome (some (⟨r, 0, none⟩ : Addr)) fun a91 => aw w90 (a91.add 3) 1 /\ ∀ w92 : World, w92 = World.setCell w90 (a91.add 3) (Slc.v si) ->
   inR .i64 ((a : Int) + (1 : Int)) /\ needSome (some (⟨r, 0, none⟩ : Addr)) fun a93 => ∃ n94 : Int, World.cell? w92 (a93.add 6) = some (Value.int .i64 n94) /\
   BIf (decide (n94 < ((a : Int) + (1 : Int)))) (inR .i64 ((a : Int) + (1 : Int)) /\ needSome (some (⟨r, 0, none⟩ : Addr)) fun a95 =>
    aw w92 (a95.add 6) 1 /\ ∀ w96 : World, w96 = World.setCell w92 (a95.add 6) (Value.int .i64 ((a : Int) + (1 : Int))) -> K (Value.int .i64 (0 : Int)) w96) (K (Value.int .i64 (0 : Int)) w92) := by
 obtain ⟨c, hc⟩ := h.c
 obtain ⟨g1, g2, g3, g4, g5, g6⟩ := h.g
 obtain ⟨c1, d1⟩ := h.o.bf 1 (by simp) sa.v
 refine aa rfl ?_
 rw [add_lit]
 refine ⟨c1, fun w88 hw88 => ?_⟩
 obtain ⟨o88, e88, _⟩ := d1 w88 hw88
 obtain ⟨c2, d2⟩ := o88.bf 2 (by simp) sp.v
 refine aa rfl ?_
 rw [add_lit]
 refine ⟨c2, fun w90 hw90 => ?_⟩
 obtain ⟨o90, e90, _⟩ := d2 w90 hw90
 obtain ⟨c3, d3⟩ := o90.bf 3 (by simp) si.v
 refine aa rfl ?_
 rw [add_lit]
 refine ⟨c3, fun w92 hw92 => ?_⟩
 obtain ⟨o92, e92, _⟩ := d3 w92 hw92
 have fin : ∀ (w9 : World) (top' : Int), Ext (fun j => j = r) w w9 -> aq w9 r [av f.rs, sa.v, sp.v, si.v, .int .i64 tr, .int .i64 ep, .int .i64 top'] -> max top ((a : Int) + 1) = top' -> K (.int .i64 0) w9 := by
  intro w9 top' x9 o9 et
  subst et
  obtain ⟨_, s2, s3, s4, s5, _⟩ := h.stay (n := 0) hc x9 (fun j hj => by rw [hj]; exact hc.cr)
  refine hK w9 ⟨o9, s2 (by decide) (by decide), by rw [List.map_append]; exact s3 (by decide), by rw [List.map_append]; exact s4 (by decide) (by decide), by rw [List.map_append]; exact s5 (by decide), c, hc.cr, hc.cf, hc.ca, hc.cp, hc.ci, fun j hj => hc.cy j (hj.imp (fun h => h) .inl)⟩ ⟨h.e.trans x9 (fun _ h => h) (fun j hj => .inl (.inl hj)), ?_, ?_⟩
  ·rintro j (hj | hj | hj | hj | hj)
   ·exact .inl (.inl hj)
   ·exact .inl (.inr (.inl hj))
   ·exact (g1 j hj).imp (fun h => .inr (.inr (.inl h))) (fun h => h)
   ·exact (g2 j hj).imp (fun h => .inr (.inr (.inr (.inl h)))) (fun h => h)
   ·exact (g3 j hj).imp (fun h => .inr (.inr (.inr (.inr h)))) (fun h => h)
  ·rintro j (hj | hj)
   ·exact .inl (.inl hj)
   ·exact (g4 j hj).imp .inr (fun h => h)
 have x92 : Ext (fun j => j = r) w w92 := (e88.trans e90 (fun _ h => h) (fun _ h => .inl h)).trans e92 (fun _ h => h) (fun _ h => .inl h)
 refine ⟨ar (by omega), aa rfl ⟨_, by rw [add_lit]; exact o92.cell 6 (by simp), af (fun h0 => ⟨ar (by omega), aa rfl ?_⟩) (fun h0 => fin w92 top x92 o92 (by omega))⟩⟩
 obtain ⟨c6, d6⟩ := o92.bf 6 (by simp) (.int .i64 ((a : Int) + 1))
 rw [add_lit]
 refine ⟨c6, fun w96 hw96 => ?_⟩
 obtain ⟨o96, e96, _⟩ := d6 w96 hw96
 exact fin w96 _ (x92.trans e96 (fun _ h => h) (fun _ h => .inl h)) o96 (by omega)
end
end Go.D
namespace Go.D
open Go
structure iV (P : List RuE) (top : Int) (s : UnS) : Prop where
 ok : ∀ e ∈ P, e.a < 4096 /\ e.t.length <= 2048
 fd : ∀ a : Nat, s.tr <= a -> (P.find? (fun e => decide ((e.a : Int) = (a : Int)))).map (·.t) = cQ (pgU s.U) a
 t : 0 <= top /\ max top (s.tr : Int) = s.T
 nn : ∀ e ∈ P, e.n < cd (sU s.U)
 ins : ∀ g ∈ s.U, ∀ a : Nat, (∃ e ∈ P, e.n = g.num /\ e.a = a) ↔ ∃ y ∈ pagesOf g.rs, y.1 = a
theorem Dl (P : List RuE) (a : Int) : (P.findIdx? (fun e => decide ((e.a : Int) = a)) = none /\ P.find? (fun e => decide ((e.a : Int) = a)) = none) \/ ∃ (i : Nat) (hi : i < P.length), P.findIdx? (fun e => decide ((e.a : Int) = a)) = some i /\ P.find? (fun e => decide ((e.a : Int) = a)) = some P[i] := by
 cases h : P.findIdx? (fun e => decide ((e.a : Int) = a)) with
 | none =>
  refine .inl ⟨rfl, List.find?_eq_none.2 (fun x hx => ?_)⟩
  have := List.findIdx?_eq_none_iff.1 h x hx
  simpa using this
 | some i =>
  obtain ⟨hi, h1, h2⟩ := List.findIdx?_eq_some_iff_getElem.1 h
  refine .inr ⟨i, hi, rfl, ?_⟩
  rw [List.find?_eq_some_iff_getElem]
  exact ⟨h1, i, hi, rfl, fun j hj => by simpa using h2 j hj⟩
section
variable {P : List RuE} {top : Int} {s : UnS}
theorem iV.get (h : iV P top s) (a : Nat) : (vJ P s.tr a = -1 /\ pgM s.U s.tr (a : Int) = none) \/ ∃ (i : Nat) (hi : i < P.length), vJ P s.tr a = i /\ pgM s.U s.tr (a : Int) = some P[i].t := by
 unfold vJ pgM
 by_cases e : (a : Int) < (s.tr : Int)
 ·rw [if_pos e, if_pos e]; exact .inl ⟨rfl, rfl⟩
 ·rw [if_neg e, if_neg e, Int.toNat_natCast, <- h.fd a (by omega)]
  rcases Dl P (a : Int) with ⟨h1, h2⟩ | ⟨i, hi, h1, h2⟩
  ·rw [h1, h2]; exact .inl ⟨rfl, rfl⟩
  ·rw [h1, h2]; exact .inr ⟨i, hi, rfl, rfl⟩
theorem iV.has (h : iV P top s) (a : Nat) : decide (0 <= vJ P s.tr (a : Int)) = (pgM s.U s.tr (a : Int)).isSome := by
 rcases h.get a with ⟨h1, h2⟩ | ⟨i, hi, h1, h2⟩
 ·rw [h1, h2]; rfl
 ·rw [h1, h2]; simp
theorem yG (U : List aO) (g : aO) : cd (sU (U ++ [g])) = g.num + 1 := by
 have e : sU (U ++ [g]) = sU U ++ [g.s] := by simp
 unfold cd
 rw [e, l9]
 show ((g.num : Int) + 1).toNat = _
 omega
theorem Af {k n : Nat} {U V : List aO} {x : Rc} (ha : appU k U x = some (n, V)) (hso : U.Pairwise fun g h => g.num < h.num) : ∃ M g, V = M ++ [{ g with rs := g.rs ++ [x] }] /\ g.num = n /\ (∀ y ∈ M, y ∈ U /\ y.num < n) /\ (g ∈ U \/ g.rs = [] /\ n = cd (sU U)) /\ cd (sU V) = n + 1 /\ cd (sU U) <= n + 1 := by
 obtain ⟨h1, h2, M, g, rfl, hM⟩ := gk ha
 have hn : g.num = n := by simpa using h2
 have hV : cd (sU (M ++ [{ g with rs := g.rs ++ [x] }])) = n + 1 := by rw [yG]; show g.num + 1 = _; omega
 refine ⟨M, g, rfl, hn, fun y hy => ?_, ?_, hV, ?_⟩
 ·rcases hM with rfl | ⟨p, _, rfl, rfl⟩
  ·refine ⟨by simp [hy], ?_⟩
   have := (List.pairwise_append.1 hso).2.2 y hy g (by simp); omega
  ·refine ⟨hy, ?_⟩
   have h3 : cd (sU M) = n := hn
   rw [<- h3]
   exact mQ (L := sU M) (by rw [List.pairwise_map]; exact hso) y.s (List.mem_map.2 ⟨y, hy, rfl⟩)
 ·rcases hM with rfl | ⟨p, _, rfl, rfl⟩
  ·exact .inl (by simp)
  ·exact .inr ⟨rfl, hn.symm⟩
 ·rcases hM with rfl | ⟨p, _, rfl, rfl⟩
  ·rw [yG]; omega
  ·have h3 : cd (sU M) = n := hn
   omega
theorem iV.write (h : iV P top s) {k n a : Nat} {V : List aO} {t : List UInt8} (ha : appU k s.U (.dO a t) = some (n, V)) (hso : s.U.Pairwise fun g h => g.num < h.num) (h1 : s.tr <= a) (h4 : a < 4096) (hn : pgM s.U s.tr (a : Int) = none) (ht : t.length <= 2048) :
  iV (P ++ [⟨a, t, n⟩]) (max top ((a : Int) + 1)) ⟨V, s.tr, s.ep, max s.T (a + 1)⟩ := by
 have hal := q8 (gk ha).1
 have hpg : pgU V = pgU s.U ++ [(a, t)] := by unfold pgU; rw [hal, aR]; rfl
 have hn' : cQ (pgU s.U) a = none := by
  unfold pgM at hn
  rw [if_neg (by omega)] at hn
  exact hn
 have htt := h.t
 obtain ⟨M, g, hV, hgn, hM, hg, hx1, hx2⟩ := Af ha hso
 refine ⟨fun e he => ?_, fun b hb => ?_, ⟨by omega, by show max (max top ((a : Int) + 1)) (s.tr : Int) = ((max s.T (a + 1) : Nat) : Int); omega⟩, fun e he => ?_, fun y hy b => ?_⟩
 ·rcases List.mem_append.1 he with he | he
  ·exact h.ok e he
  ·rw [List.mem_singleton] at he; subst he; exact ⟨h4, ht⟩
 ·show _ = cQ (pgU V) b
  have hb' : s.tr <= b := hb
  have h0 := h.fd b hb'
  rw [hpg, mS, List.find?_append]
  by_cases e : a = b
  ·subst e
   rw [hn'] at h0 ⊢
   have h9 : P.find? (fun e => decide ((e.a : Int) = (a : Int))) = none := by simpa using h0
   rw [h9]; simp
  ·rw [<- h0]
   cases P.find? (fun e => decide ((e.a : Int) = (b : Int))) with
   | some y => rfl
   | none =>
    have h8 : ¬ ((a : Int) = (b : Int)) := by omega
    simp [List.find?_cons, h8, e]
 ·show e.n < cd (sU V)
  rw [hx1]
  rcases List.mem_append.1 he with he | he
  ·have := h.nn e he; omega
  ·rw [List.mem_singleton] at he; subst he
   show n < n + 1; omega
 ·have hy' : y ∈ V := hy
  rw [hV] at hy'
  rcases List.mem_append.1 hy' with hy | hy
  ·have hyn := (hM y hy).2
   rw [<- h.ins y (hM y hy).1 b]
   constructor
   ·rintro ⟨e, he, e1, e2⟩
    rcases List.mem_append.1 he with he | he
    ·exact ⟨e, he, e1, e2⟩
    ·rw [List.mem_singleton] at he; subst he
     exact absurd (show n = y.num from e1) (by omega)
   ·rintro ⟨e, he, e1, e2⟩
    exact ⟨e, by simp [he], e1, e2⟩
  ·rw [List.mem_singleton] at hy; subst hy
   simp only
   have hold : (∃ e ∈ P, e.n = g.num /\ e.a = b) ↔ ∃ y ∈ pagesOf g.rs, y.1 = b := by
    rcases hg with hg | ⟨hg1, hg2⟩
    ·exact h.ins g hg b
    ·rw [hg1]
     constructor
     ·rintro ⟨e, he, e1, e2⟩
      have := h.nn e he
      omega
     ·rintro ⟨y, hy, _⟩; simp [pagesOf] at hy
   rw [aR]
   constructor
   ·rintro ⟨e, he, e1, e2⟩
    rcases List.mem_append.1 he with he | he
    ·obtain ⟨y, hy, e3⟩ := hold.1 ⟨e, he, e1, e2⟩
     exact ⟨y, by simp [hy], e3⟩
    ·rw [List.mem_singleton] at he; subst he
     exact ⟨(a, t), by simp [pagesOf], e2⟩
   ·rintro ⟨y, hy, e3⟩
    rcases List.mem_append.1 hy with hy | hy
    ·obtain ⟨e, he, e1, e2⟩ := hold.2 ⟨y, hy, e3⟩
     exact ⟨e, by simp [he], e1, e2⟩
    ·simp [pagesOf] at hy; subst hy
     exact ⟨⟨a, t, n⟩, by simp, hgn.symm, e3⟩
theorem iV.note (h : iV P top s) {k n tr ep T : Nat} {V : List aO} {x : Rc} (ha : appU k s.U x = some (n, V)) (hso : s.U.Pairwise fun g h => g.num < h.num) (hx : ∀ a t, x ≠ .dO a t) (htr : s.tr <= tr) (hT : max top (tr : Int) = (T : Int)) :
  iV P top ⟨V, tr, ep, T⟩ := by
 have hal := q8 (gk ha).1
 have hp0 : pagesOf [x] = [] := by
  cases x with
  | dO a t => exact absurd rfl (hx a t)
  | trim t e => rfl
  | shut e => rfl
 have hpg : pgU V = pgU s.U := by unfold pgU; rw [hal, aR, hp0, List.append_nil]
 obtain ⟨M, g, hV, hgn, hM, hg, hx1, hx2⟩ := Af ha hso
 refine ⟨h.ok, fun b hb => ?_, ⟨h.t.1, hT⟩, fun e he => ?_, fun y hy b => ?_⟩
 ·show _ = cQ (pgU V) b
  have hb' : tr <= b := hb
  rw [hpg]
  exact h.fd b (by omega)
 ·show e.n < cd (sU V)
  have := h.nn e he; omega
 ·have hy' : y ∈ V := hy
  rw [hV] at hy'
  rcases List.mem_append.1 hy' with hy | hy
  ·exact h.ins y (hM y hy).1 b
  ·rw [List.mem_singleton] at hy; subst hy
   simp only
   rw [aR, hp0, List.append_nil]
   rcases hg with hg | ⟨hg1, hg2⟩
   ·exact h.ins g hg b
   ·rw [hg1]
    constructor
    ·rintro ⟨e, he, e1, e2⟩
     have := h.nn e he
     omega
    ·rintro ⟨y, hy, _⟩; simp [pagesOf] at hy
theorem Dm (g h : aO) (t : List aO) : cd (sU (g :: h :: t)) = cd (sU (h :: t)) := by
 unfold cd lastN
 simp [List.getLast?_cons_cons]
theorem iV.drop {g h' : aO} {t : List aO} {tr ep T : Nat} (h : iV P top ⟨g :: h' :: t, tr, ep, T⟩) (hp : ∀ a, tr <= a -> cQ (pgU (h' :: t)) a = cQ (pgU (g :: h' :: t)) a) : iV P top ⟨h' :: t, tr, ep, T⟩ :=
 ⟨h.ok, fun b hb => by rw [h.fd b hb, hp b hb], h.t, fun e he => by have := h.nn e he; rw [Dm] at this; exact this, fun y hy b => h.ins y (List.mem_cons_of_mem _ hy) b⟩
theorem iV.all {g : aO} {U : List aO} {tr ep T : Nat} (h : iV P top ⟨g :: U, tr, ep, T⟩) (to : Nat) : (pagesOf g.rs).all (fun y => decide (y.1 < to)) = P.all fun e => decide (e.n = g.num -> e.a < to) := by
 rw [Bool.eq_iff_iff, List.all_eq_true, List.all_eq_true]
 constructor
 ·intro h1 e he
  rw [decide_eq_true_eq]
  intro e1
  obtain ⟨y, hy, e2⟩ := (h.ins g (by simp) e.a).1 ⟨e, he, e1, rfl⟩
  have := h1 y hy
  rw [decide_eq_true_eq] at this
  omega
 ·intro h1 y hy
  obtain ⟨e, he, e1, e2⟩ := (h.ins g (by simp) y.1).2 ⟨y, hy, rfl⟩
  have := h1 e he
  rw [decide_eq_true_eq] at this ⊢
  have := this e1
  omega
theorem iV.nil : iV [] 0 ⟨[], 0, 0, 0⟩ := ⟨by simp, fun a _ => rfl, by simp, by simp, by simp⟩
end
end Go.D
set_option maxRecDepth 4000
namespace Go.D
open Go Go.Proofs
theorem wy : ∀ {l : List Nat} {n : Nat}, n ∈ l -> n <= l.sum
 | [], n, h => by simp at h
 | x :: l, n, h => by
  rw [List.sum_cons]
  rcases List.mem_cons.1 h with rfl | h
  ·omega
  ·have := wy h; omega
structure UOk (k m : Nat) (s : UnS) : Prop where
 o : gb s.U s.tr s.ep s.T
 so : s.U.Pairwise fun g h => g.num < h.num
 N : ∀ g ∈ sU s.U, g.num < m
 sm : ∀ g ∈ sU s.U, sumN g.bP <= 64
 l : s.U.length <= 20
 k : k <= 2 ^ 20
 t : s.T <= 4096 /\ s.ep <= 2 ^ 30
structure RuS (w : World) (r k : Nat) (f : RuF) (P : List RuE) (top : Int) (s : UnS) : Prop where
 A : jO w r k f P s.tr s.ep top
 z : gL f.zs = sU s.U
 K : iV P top s
theorem RuS.ae {w w' : World} {r k : Nat} {f : RuF} {P : List RuE} {top : Int} {s : UnS} (h : RuS w r k f P top s) (he : ah w w') : RuS w' r k f P top s := ⟨h.A.ae he, h.z, h.K⟩
theorem Ib {zs : List Rz} {k m : Nat} {s : UnS} (hz : gL zs = sU s.U) (hu : UOk k m s) (hm : m <= 2 ^ 59) : Ia zs := by
 have hl := hu.l
 have e : zs.length = s.U.length := by
  have := congrArg List.length hz
  simpa using this
 have mem : ∀ z ∈ zs, z.g ∈ sU s.U := fun z h => by rw [<- hz]; exact List.mem_map.2 ⟨z, h, rfl⟩
 exact ⟨by omega, fun z h => by have := hu.N _ (mem z h); omega, fun z h => by have := hu.sm _ (mem z h); omega⟩
section
variable {w w' : World} {r k m : Nat} {f : RuF} {P : List RuE} {top : Int} {s : UnS}
theorem ec.store {sl' : Slc} {zs' : List Rz} (ht : ow f.rs f.sl sl' f.zs zs' w w') : ec r f { f with sl := sl', zs := zs' } w w' := by
 obtain ⟨t1, t2, t3⟩ := ht
 refine ⟨t1.mono (fun j hj => .inr (.inl hj)), ?_, ?_⟩
 ·rintro j (hj | hj | hj | hj | hj)
  ·exact .inl (.inl hj)
  ·exact (t2 j hj).imp (fun h => .inr (.inl h)) (fun h => h)
  ·exact .inl (.inr (.inr (.inl hj)))
  ·exact .inl (.inr (.inr (.inr (.inl hj))))
  ·exact .inl (.inr (.inr (.inr (.inr hj))))
 ·rintro j (hj | hj)
  ·exact (t3 j hj).imp .inl (fun h => h)
  ·exact .inl (.inr hj)
theorem pk (h : RuS w r k f P top s) (hu : UOk k m s) (hm : m <= 2 ^ 59) (x : Rc) (hx : okR x) (sl : Slc) (hb : au w sl (encR x)) (hs : ∀ j, ai sl j -> ¬ RuW r f j) :
  Calls Tryz.prog aV ⟨[av f.rs, sl.v]⟩ w fun e w' => (appU k s.U x = none /\ (∃ n : Int, e = .returned (.tuple ⟨[.int .i64 n, .int .i64 13]⟩)) /\ ∃ sl' zs', RuS w' r k { f with sl := sl', zs := zs' } P top s /\ ec r f { f with sl := sl', zs := zs' } w w') \/
   (∃ n V, appU k s.U x = some (n, V) /\ e = .returned (.tuple ⟨[.int .i64 (n : Int), .int .i64 0]⟩) /\ ∃ sl' zs', gL zs' = sU V /\ jO w' r k { f with sl := sl', zs := zs' } P s.tr s.ep top /\ ec r f { f with sl := sl', zs := zs' } w w') := by
 have hel := j9 hx
 refine (wg h.A.R (Ib h.z hu hm) hu.k sl (encR x) hb (by omega) (fun _ j hj hh => hs j hj (.inr (.inl hh)))).mono ?_
 rintro e w2 ⟨rfl, sl', zs', hg, hR, ht⟩
 have hok := DO (k := k) (U := s.U) hx
 rw [h.z, hok] at hg ⊢
 have hA := h.A.store hR ht
 cases ha : appU k s.U x with
 | none =>
  rw [ha] at hg
  exact .inl ⟨rfl, ⟨_, rfl⟩, sl', zs', ⟨hA, hg, h.K⟩, ec.store ht⟩
 | some p =>
  obtain ⟨n, V⟩ := p
  rw [ha] at hg
  exact .inr ⟨n, V, rfl, rfl, sl', zs', hg, hA, ec.store ht⟩
theorem Cp {K : Value -> World -> Prop} (h : RuS w r k f P top s) (hu : UOk k m s) (hm : m <= 2 ^ 59) (hP : P.length < 2 ^ 20) (epoch a : Int) (b4 : Slc) (t : List UInt8) (hb : au w b4 t) (ht : t.length <= 2 ^ 20) (hs : ∀ j, ai b4 j -> ¬ RuW r f j)
  (hK : ∀ w' f' P' top', RuS w' r k f' P' top' (writeP k s epoch a t).2 -> P'.length <= P.length + 1 -> ec r f f' w w' -> K (.int .i64 (eN (writeP k s epoch a t).1)) w') : eo (some ⟨r, 0, none⟩) epoch a b4 w K := by
 unfold eo
 have hbl := hb.1
 refine (me h.A epoch a 4095).mono ?_
 rintro e w6 ⟨rfl, rfl⟩
 unfold writeP at hK
 cases hc : eu s.ep epoch a 4095 with
 | some c =>
  rw [hc] at hK
  have : eN (some c) ≠ 0 := by show ((c + 1 : Nat) : Int) ≠ 0; omega
  exact ⟨_, rfl, aj (fun _ => hK w6 f P top h (by omega) (ec.refl _ _ _)) (fun hh => by simp [this] at hh)⟩
 | none =>
  rw [hc] at hK
  simp only at hK
  have ha : 0 <= a /\ a <= 4095 := by
   unfold eu at hc
   split at hc
   ·cases hc
   ·split at hc
    ·cases hc
    ·omega
  obtain ⟨an, rfl⟩ : ∃ an : Nat, a = an := ⟨a.toNat, by omega⟩
  refine ⟨_, rfl, aj (fun hh => by simp [eN] at hh) (fun _ => ⟨fun w2 => ¬ (t.length = 0 \/ 2048 < t.length) /\ w2 = w6, af (fun h0 => ?_) (fun h0 => af (fun h1 => ?_) (fun h1 => ⟨by omega, rfl⟩)), ?_⟩)⟩
  ·rw [if_pos (by omega)] at hK
   exact hK w6 f P top h (by omega) (ec.refl _ _ _)
  ·rw [if_pos (by omega)] at hK
   exact hK w6 f P top h (by omega) (ec.refl _ _ _)
  rintro w9 ⟨h0, rfl⟩
  intros
  rw [if_neg h0] at hK
  refine aa rfl ⟨_, h.A.cs.2.2.2.2.1, af (fun h1 => ?_) (fun h1 => ?_)⟩
  ·rw [if_pos h1] at hK
   exact hK w9 f P top h (by omega) (ec.refl _ _ _)
  rw [if_neg h1] at hK
  refine (AZ h.A (by omega) (an : Int)).mono ?_
  rintro e w22 ⟨rfl, rfl⟩
  rw [h.K.has an]
  refine ⟨_, rfl, aj (fun h2 => ?_) (fun h2 => ?_)⟩
  ·rw [if_pos h2] at hK
   exact hK w22 f P top h (by omega) (ec.refl _ _ _)
  have hpn : pgM s.U s.tr (an : Int) = none := by simpa using h2
  rw [if_neg (by rw [h2]; decide), Int.toNat_natCast] at hK
  have hok : okR (.dO an t) := ⟨by omega, by omega, by omega⟩
  have kd : ah w22 (World.drew w22) := Ext.drew _ _
  have lt := h.A.lt
  have cell0 : ∀ {w3}, ah w22 w3 -> World.cell? w3 (⟨r, 0, none⟩ : Addr) = some (Value.pointer (some ⟨f.rs, 0, none⟩)) := fun hk => (h.A.ae hk).cs.1
  have hbk : ∀ {w3}, ah w22 w3 -> au w3 b4 t := fun hk => aG hb hk
  refine aa rfl ⟨_, cell0 kd, t, hbk kd, (dg 1 _ (by omega)).mono ?_⟩
  rintro e w28 ⟨s29, rfl, o29, f29, k29⟩
  have k28 := kd.trans k29
  refine ⟨s29, rfl, ⟨t, hbk k28, rfl⟩, ⟨_, cell0 k28, rfl⟩, (dg an _ (by omega)).mono ?_⟩
  rintro e w33 ⟨s34, rfl, o34, f34, k34⟩
  have k33 := k28.trans k34
  refine ⟨s34, rfl, ⟨t, hbk k33, rfl⟩, ⟨_, cell0 k33, rfl⟩, (wi t _ ht).mono ?_⟩
  rintro e w38 ⟨s39, rfl, o39, f39, k39⟩
  have k38 := k33.trans k39
  refine ⟨s39, rfl, ⟨_, cell0 k38, rfl⟩, ao (fun r41 w42 hr41 hb41 k42 hs42 => ⟨⟨_, cell0 (k38.trans k42), rfl⟩, ?_⟩)⟩
  have k42' := k38.trans k42
  have o29' := (o29.ae (k34.trans k39)).ae k42
  have o34' := (o34.ae k39).ae k42
  have o39' := o39.ae k42
  have z42 := k42.size
  have b29 : ∀ j, ai s29 j -> j < w38.heap.size := cD (o29.ae (k34.trans k39))
  have b34 : ∀ j, ai s34 j -> j < w38.heap.size := cD (o34.ae k39)
  have b39 : ∀ j, ai s39 j -> j < w38.heap.size := cD o39
  have hrows := yE (w := w42) [s29, s34, s39] [bQ 1, bQ an, bQ t.length ++ t] hb41 rfl (fun i h h' => by
   match i, h with
   | 0, _ => exact o29'.bytes
   | 1, _ => exact o34'.bytes
   | 2, _ => exact o39'.bytes) (fun x hx j hj => by
   simp only [List.mem_cons, List.not_mem_nil, or_false] at hx
   rcases hx with rfl | rfl | rfl
   ·have := b29 j hj; omega
   ·have := b34 j hj; omega
   ·have := b39 j hj; omega)
  have hl1 := o29.1
  have hl2 := o34.1
  have hl3 := o39.1
  have hel := j9 hok
  have henc : [bQ 1, bQ an, bQ t.length ++ t].flatten = encR (.dO an t) := by simp [encR, pf, uh]
  have hlens : ∀ b ∈ [bQ 1, bQ an, bQ t.length ++ t], b.length <= 2 ^ 20 := fun b hb9 => by
   have hle : b.length <= ([bQ 1, bQ an, bQ t.length ++ t].flatten).length := by
    rw [List.length_flatten]
    exact wy (List.mem_map.2 ⟨b, hb9, rfl⟩)
   rw [henc] at hle; omega
  refine (uX _ _ _ hrows (by simp) hlens).mono ?_
  rintro e w45 ⟨s46, rfl, o46, f46, k46⟩
  rw [henc] at o46
  have k45 := k42'.trans k46
  have h45 := h.ae k45
  refine ⟨s46, rfl, ⟨_, cell0 k45, rfl⟩, (pk h45 hu hm (.dO an t) hok s46 o46.bytes (fun j hj hh => ?_)).mono ?_⟩
  ·have := f46 j hj
   have := lt.1 j hh
   have := k42'.size
   omega
  rintro e w49 (⟨ha1, ⟨n, rfl⟩, sl', zs', hS', hto⟩ | ⟨n, V, ha1, rfl, sl', zs', hg', hA', hto⟩)
  ·rw [ha1] at hK
   exact ⟨_, _, rfl, aj (fun _ => hK w49 _ P top hS' (by omega) ((ec.ae k45).trans hto)) (fun hh => by simp at hh)⟩
  ·rw [ha1] at hK
   simp only at hK
   refine ⟨_, _, rfl, aj (fun hh => by simp at hh) (fun _ => ?_)⟩
   have kd49 : ah w49 (World.drew w49) := Ext.drew _ _
   have hA0 := hA'.ae kd49
   have hts := (ec.ae (r := r) (f := f) k45).trans hto
   have hb49 : au w49 b4 t := aZ hb hts.1 (fun _ j hj hh => hs j hj hh)
   have hb0 := aG hb49 kd49
   have hblt : ∀ j, ai b4 j -> j < w22.heap.size := fun j hj => fu hb (by omega) j hj
   have H0 := PW.start hA0 hb0 (by omega) (fun j hj hh => (hts.2.1 j hh).elim (fun g => hs j hj g) (fun g => by have := hblt j hj; omega))
   have hl1 : (P.map fun e => (e.a : Int)).length < 2 ^ 30 := by rw [List.length_map]; omega
   have hl2 : (P.map (·.t)).length < 2 ^ 30 := by rw [List.length_map]; omega
   have hl3 : (P.map fun e => (e.n : Int)).length < 2 ^ 30 := by rw [List.length_map]; omega
   have ht2 := ht
   have hfin : ∀ w' f', jO w' r k f' (P ++ [(⟨an, t, n⟩ : RuE)]) s.tr s.ep (max top ((an : Int) + 1)) -> gL f'.zs = sU V -> ec r { f with sl := sl', zs := zs' } f' (World.drew w49) w' -> K (.int .i64 0) w' := by
    intro w' f' hA9 hz9 ht9
    refine hK w' f' (P ++ [(⟨an, t, n⟩ : RuE)]) _ ⟨hA9, hz9, h.K.write ha1 hu.so (by omega) (by omega) hpn (by omega)⟩ (by simp) ((hts.trans (ec.ae kd49)).trans ht9)
   have fin : ∀ {w2 : World} {sa sp si : Slc} {css : List (List Value)} {X : List (Nat × List Value)} {B : List Slc}, PW (World.drew w49) r k { f with sl := sl', zs := zs' } s.tr s.ep top b4 t ⟨sa, (P.map fun e => (e.a : Int)) ++ [(an : Int)], sp, (P.map (·.t)) ++ [t], css, si, (P.map fun e => (e.n : Int)) ++ [(n : Int)], X, B⟩ w2 -> _ :=
    fun H => H.fin (K := K) (by omega) (fun w' h1 h2 => hfin w' _ h1 hg' h2)
   refine aa rfl ⟨_, H0.c1, aa rfl ⟨_, H0.c2, aa rfl ⟨_, H0.c3, ?_⟩⟩⟩
   refine ⟨?_, ?_, ?_⟩
   ·refine H0.new _ _ (fun r58 w59 H59 => ?_)
    refine ⟨⟨_, H59.c3, rfl⟩, ⟨_, H59.c2, rfl⟩, ⟨_, H59.c1, rfl⟩, ?_, ?_, ?_⟩
    ·refine H59.yF (a := (an : Int)) (by simp) hl1 (fun s63 w64 H64 => ?_)
     refine ⟨⟨_, H64.c3, rfl⟩, ⟨_, H64.c2, rfl⟩, ?_, ?_⟩
     ·refine H64.new _ _ (fun r67 w68 H68 => ?_)
      refine ⟨⟨_, H68.c3, rfl⟩, ⟨_, H68.c2, rfl⟩, ?_, ?_⟩
      ·refine H68.sP (by simp) ht2 (fun s71 w72 H72 => ?_)
       refine ⟨⟨_, H72.c3, rfl⟩, ⟨_, H72.c2, rfl⟩, ?_, ?_⟩
       ·refine H72.new _ _ (fun r75 w76 H76 => ?_)
        refine ⟨⟨_, H76.c3, rfl⟩, ⟨_, H76.c2, rfl⟩, ?_, ?_⟩
        ·refine H76.ny (s9 := s71) (by simp) (by simp) hl2 (fun s79 w80 H80 => ?_)
         refine ⟨⟨_, H80.c3, rfl⟩, ?_⟩
         refine H80.new _ _ (fun r82 w83 H83 => ?_)
         refine ⟨⟨_, H83.c3, rfl⟩, ?_⟩
         refine H83.nw (a := (n : Int)) (by simp) hl3 (fun s85 w86 H86 => ?_)
         exact fin H86
        ·refine H76.new _ _ (fun r97 w98 H98 => ?_)
         refine ⟨⟨_, H98.c3, rfl⟩, ⟨_, H98.c2, rfl⟩, ?_⟩
         refine H98.ny (s9 := s71) (by simp) (by simp) hl2 (fun s101 w102 H102 => ?_)
         refine ⟨⟨_, H102.c3, rfl⟩, ?_⟩
         refine H102.nw (a := (n : Int)) (by simp) hl3 (fun s104 w105 H105 => ?_)
         exact fin H105
       ·refine H72.new _ _ (fun r116 w117 H117 => ?_)
        refine ⟨⟨_, H117.c3, rfl⟩, ⟨_, H117.c2, rfl⟩, ?_⟩
        refine H117.new _ _ (fun r120 w121 H121 => ?_)
        refine ⟨⟨_, H121.c3, rfl⟩, ⟨_, H121.c2, rfl⟩, ?_⟩
        refine H121.ny (s9 := s71) (by simp) (by simp) hl2 (fun s124 w125 H125 => ?_)
        refine ⟨⟨_, H125.c3, rfl⟩, ?_⟩
        refine H125.nw (a := (n : Int)) (by simp) hl3 (fun s127 w128 H128 => ?_)
        exact fin H128
      ·refine H68.new _ _ (fun r139 w140 H140 => ?_)
       refine ⟨⟨_, H140.c3, rfl⟩, ⟨_, H140.c2, rfl⟩, ?_⟩
       refine H140.sP (by simp) ht2 (fun s143 w144 H144 => ?_)
       refine ⟨⟨_, H144.c3, rfl⟩, ⟨_, H144.c2, rfl⟩, ?_⟩
       refine H144.new _ _ (fun r147 w148 H148 => ?_)
       refine ⟨⟨_, H148.c3, rfl⟩, ⟨_, H148.c2, rfl⟩, ?_⟩
       refine H148.ny (s9 := s143) (by simp) (by simp) hl2 (fun s151 w152 H152 => ?_)
       refine ⟨⟨_, H152.c3, rfl⟩, ?_⟩
       refine H152.nw (a := (n : Int)) (by simp) hl3 (fun s154 w155 H155 => ?_)
       exact fin H155
     ·refine H64.new _ _ (fun r166 w167 H167 => ?_)
      refine ⟨⟨_, H167.c3, rfl⟩, ⟨_, H167.c2, rfl⟩, ?_⟩
      refine H167.new _ _ (fun r170 w171 H171 => ?_)
      refine ⟨⟨_, H171.c3, rfl⟩, ⟨_, H171.c2, rfl⟩, ?_⟩
      refine H171.sP (by simp) ht2 (fun s174 w175 H175 => ?_)
      refine ⟨⟨_, H175.c3, rfl⟩, ⟨_, H175.c2, rfl⟩, ?_⟩
      refine H175.new _ _ (fun r178 w179 H179 => ?_)
      refine ⟨⟨_, H179.c3, rfl⟩, ⟨_, H179.c2, rfl⟩, ?_⟩
      refine H179.ny (s9 := s174) (by simp) (by simp) hl2 (fun s182 w183 H183 => ?_)
      refine ⟨⟨_, H183.c3, rfl⟩, ?_⟩
      refine H183.nw (a := (n : Int)) (by simp) hl3 (fun s185 w186 H186 => ?_)
      exact fin H186
    ·refine H59.new _ _ (fun r197 w198 H198 => ?_)
     refine ⟨⟨_, H198.c3, rfl⟩, ⟨_, H198.c2, rfl⟩, ⟨_, H198.c1, rfl⟩, ?_, ?_⟩
     ·refine H198.yF (a := (an : Int)) (by simp) hl1 (fun s202 w203 H203 => ?_)
      refine ⟨⟨_, H203.c3, rfl⟩, ⟨_, H203.c2, rfl⟩, ?_, ?_⟩
      ·refine H203.sP (by simp) ht2 (fun s206 w207 H207 => ?_)
       refine ⟨⟨_, H207.c3, rfl⟩, ⟨_, H207.c2, rfl⟩, ?_, ?_⟩
       ·refine H207.new _ _ (fun r210 w211 H211 => ?_)
        refine ⟨⟨_, H211.c3, rfl⟩, ⟨_, H211.c2, rfl⟩, ?_, ?_⟩
        ·refine H211.ny (s9 := s206) (by simp) (by simp) hl2 (fun s214 w215 H215 => ?_)
         refine ⟨⟨_, H215.c3, rfl⟩, ?_⟩
         refine H215.new _ _ (fun r217 w218 H218 => ?_)
         refine ⟨⟨_, H218.c3, rfl⟩, ?_⟩
         refine H218.nw (a := (n : Int)) (by simp) hl3 (fun s220 w221 H221 => ?_)
         exact fin H221
        ·refine H211.new _ _ (fun r232 w233 H233 => ?_)
         refine ⟨⟨_, H233.c3, rfl⟩, ⟨_, H233.c2, rfl⟩, ?_⟩
         refine H233.ny (s9 := s206) (by simp) (by simp) hl2 (fun s236 w237 H237 => ?_)
         refine ⟨⟨_, H237.c3, rfl⟩, ?_⟩
         refine H237.nw (a := (n : Int)) (by simp) hl3 (fun s239 w240 H240 => ?_)
         exact fin H240
       ·refine H207.new _ _ (fun r251 w252 H252 => ?_)
        refine ⟨⟨_, H252.c3, rfl⟩, ⟨_, H252.c2, rfl⟩, ?_⟩
        refine H252.new _ _ (fun r255 w256 H256 => ?_)
        refine ⟨⟨_, H256.c3, rfl⟩, ⟨_, H256.c2, rfl⟩, ?_⟩
        refine H256.ny (s9 := s206) (by simp) (by simp) hl2 (fun s259 w260 H260 => ?_)
        refine ⟨⟨_, H260.c3, rfl⟩, ?_⟩
        refine H260.nw (a := (n : Int)) (by simp) hl3 (fun s262 w263 H263 => ?_)
        exact fin H263
      ·refine H203.new _ _ (fun r274 w275 H275 => ?_)
       refine ⟨⟨_, H275.c3, rfl⟩, ⟨_, H275.c2, rfl⟩, ?_⟩
       refine H275.sP (by simp) ht2 (fun s278 w279 H279 => ?_)
       refine ⟨⟨_, H279.c3, rfl⟩, ⟨_, H279.c2, rfl⟩, ?_⟩
       refine H279.new _ _ (fun r282 w283 H283 => ?_)
       refine ⟨⟨_, H283.c3, rfl⟩, ⟨_, H283.c2, rfl⟩, ?_⟩
       refine H283.ny (s9 := s278) (by simp) (by simp) hl2 (fun s286 w287 H287 => ?_)
       refine ⟨⟨_, H287.c3, rfl⟩, ?_⟩
       refine H287.nw (a := (n : Int)) (by simp) hl3 (fun s289 w290 H290 => ?_)
       exact fin H290
     ·refine H198.new _ _ (fun r301 w302 H302 => ?_)
      refine ⟨⟨_, H302.c3, rfl⟩, ⟨_, H302.c2, rfl⟩, ⟨_, H302.c1, rfl⟩, ?_⟩
      refine H302.yF (a := (an : Int)) (by simp) hl1 (fun s306 w307 H307 => ?_)
      refine ⟨⟨_, H307.c3, rfl⟩, ⟨_, H307.c2, rfl⟩, ?_⟩
      refine H307.sP (by simp) ht2 (fun s310 w311 H311 => ?_)
      refine ⟨⟨_, H311.c3, rfl⟩, ⟨_, H311.c2, rfl⟩, ?_⟩
      refine H311.new _ _ (fun r314 w315 H315 => ?_)
      refine ⟨⟨_, H315.c3, rfl⟩, ⟨_, H315.c2, rfl⟩, ?_⟩
      refine H315.ny (s9 := s310) (by simp) (by simp) hl2 (fun s318 w319 H319 => ?_)
      refine ⟨⟨_, H319.c3, rfl⟩, ?_⟩
      refine H319.nw (a := (n : Int)) (by simp) hl3 (fun s321 w322 H322 => ?_)
      exact fin H322
    ·refine H59.new _ _ (fun r333 w334 H334 => ?_)
     refine ⟨⟨_, H334.c3, rfl⟩, ⟨_, H334.c2, rfl⟩, ⟨_, H334.c1, rfl⟩, ?_, ?_⟩
     ·refine H334.yF (a := (an : Int)) (by simp) hl1 (fun s338 w339 H339 => ?_)
      refine ⟨⟨_, H339.c3, rfl⟩, ⟨_, H339.c2, rfl⟩, ?_⟩
      refine H339.new _ _ (fun r342 w343 H343 => ?_)
      refine ⟨⟨_, H343.c3, rfl⟩, ⟨_, H343.c2, rfl⟩, ?_⟩
      refine H343.sP (by simp) ht2 (fun s346 w347 H347 => ?_)
      refine ⟨⟨_, H347.c3, rfl⟩, ⟨_, H347.c2, rfl⟩, ?_⟩
      refine H347.new _ _ (fun r350 w351 H351 => ?_)
      refine ⟨⟨_, H351.c3, rfl⟩, ⟨_, H351.c2, rfl⟩, ?_⟩
      refine H351.ny (s9 := s346) (by simp) (by simp) hl2 (fun s354 w355 H355 => ?_)
      refine ⟨⟨_, H355.c3, rfl⟩, ?_⟩
      refine H355.nw (a := (n : Int)) (by simp) hl3 (fun s357 w358 H358 => ?_)
      exact fin H358
     ·refine H334.new _ _ (fun r369 w370 H370 => ?_)
      refine ⟨⟨_, H370.c3, rfl⟩, ⟨_, H370.c2, rfl⟩, ⟨_, H370.c1, rfl⟩, ?_⟩
      refine H370.yF (a := (an : Int)) (by simp) hl1 (fun s374 w375 H375 => ?_)
      refine ⟨⟨_, H375.c3, rfl⟩, ⟨_, H375.c2, rfl⟩, ?_⟩
      refine H375.sP (by simp) ht2 (fun s378 w379 H379 => ?_)
      refine ⟨⟨_, H379.c3, rfl⟩, ⟨_, H379.c2, rfl⟩, ?_⟩
      refine H379.new _ _ (fun r382 w383 H383 => ?_)
      refine ⟨⟨_, H383.c3, rfl⟩, ⟨_, H383.c2, rfl⟩, ?_⟩
      refine H383.ny (s9 := s378) (by simp) (by simp) hl2 (fun s386 w387 H387 => ?_)
      refine ⟨⟨_, H387.c3, rfl⟩, ?_⟩
      refine H387.nw (a := (n : Int)) (by simp) hl3 (fun s389 w390 H390 => ?_)
      exact fin H390
   ·refine H0.new _ _ (fun r401 w402 H402 => ?_)
    refine ⟨⟨_, H402.c3, rfl⟩, ⟨_, H402.c2, rfl⟩, ⟨_, H402.c1, rfl⟩, ?_, ?_⟩
    ·refine H402.new _ _ (fun r406 w407 H407 => ?_)
     refine ⟨⟨_, H407.c3, rfl⟩, ⟨_, H407.c2, rfl⟩, ⟨_, H407.c1, rfl⟩, ?_, ?_⟩
     ·refine H407.yF (a := (an : Int)) (by simp) hl1 (fun s411 w412 H412 => ?_)
      refine ⟨⟨_, H412.c3, rfl⟩, ⟨_, H412.c2, rfl⟩, ?_, ?_⟩
      ·refine H412.sP (by simp) ht2 (fun s415 w416 H416 => ?_)
       refine ⟨⟨_, H416.c3, rfl⟩, ⟨_, H416.c2, rfl⟩, ?_, ?_⟩
       ·refine H416.new _ _ (fun r419 w420 H420 => ?_)
        refine ⟨⟨_, H420.c3, rfl⟩, ⟨_, H420.c2, rfl⟩, ?_, ?_⟩
        ·refine H420.ny (s9 := s415) (by simp) (by simp) hl2 (fun s423 w424 H424 => ?_)
         refine ⟨⟨_, H424.c3, rfl⟩, ?_⟩
         refine H424.new _ _ (fun r426 w427 H427 => ?_)
         refine ⟨⟨_, H427.c3, rfl⟩, ?_⟩
         refine H427.nw (a := (n : Int)) (by simp) hl3 (fun s429 w430 H430 => ?_)
         exact fin H430
        ·refine H420.new _ _ (fun r441 w442 H442 => ?_)
         refine ⟨⟨_, H442.c3, rfl⟩, ⟨_, H442.c2, rfl⟩, ?_⟩
         refine H442.ny (s9 := s415) (by simp) (by simp) hl2 (fun s445 w446 H446 => ?_)
         refine ⟨⟨_, H446.c3, rfl⟩, ?_⟩
         refine H446.nw (a := (n : Int)) (by simp) hl3 (fun s448 w449 H449 => ?_)
         exact fin H449
       ·refine H416.new _ _ (fun r460 w461 H461 => ?_)
        refine ⟨⟨_, H461.c3, rfl⟩, ⟨_, H461.c2, rfl⟩, ?_⟩
        refine H461.new _ _ (fun r464 w465 H465 => ?_)
        refine ⟨⟨_, H465.c3, rfl⟩, ⟨_, H465.c2, rfl⟩, ?_⟩
        refine H465.ny (s9 := s415) (by simp) (by simp) hl2 (fun s468 w469 H469 => ?_)
        refine ⟨⟨_, H469.c3, rfl⟩, ?_⟩
        refine H469.nw (a := (n : Int)) (by simp) hl3 (fun s471 w472 H472 => ?_)
        exact fin H472
      ·refine H412.new _ _ (fun r483 w484 H484 => ?_)
       refine ⟨⟨_, H484.c3, rfl⟩, ⟨_, H484.c2, rfl⟩, ?_⟩
       refine H484.sP (by simp) ht2 (fun s487 w488 H488 => ?_)
       refine ⟨⟨_, H488.c3, rfl⟩, ⟨_, H488.c2, rfl⟩, ?_⟩
       refine H488.new _ _ (fun r491 w492 H492 => ?_)
       refine ⟨⟨_, H492.c3, rfl⟩, ⟨_, H492.c2, rfl⟩, ?_⟩
       refine H492.ny (s9 := s487) (by simp) (by simp) hl2 (fun s495 w496 H496 => ?_)
       refine ⟨⟨_, H496.c3, rfl⟩, ?_⟩
       refine H496.nw (a := (n : Int)) (by simp) hl3 (fun s498 w499 H499 => ?_)
       exact fin H499
     ·refine H407.new _ _ (fun r510 w511 H511 => ?_)
      refine ⟨⟨_, H511.c3, rfl⟩, ⟨_, H511.c2, rfl⟩, ⟨_, H511.c1, rfl⟩, ?_⟩
      refine H511.yF (a := (an : Int)) (by simp) hl1 (fun s515 w516 H516 => ?_)
      refine ⟨⟨_, H516.c3, rfl⟩, ⟨_, H516.c2, rfl⟩, ?_⟩
      refine H516.sP (by simp) ht2 (fun s519 w520 H520 => ?_)
      refine ⟨⟨_, H520.c3, rfl⟩, ⟨_, H520.c2, rfl⟩, ?_⟩
      refine H520.new _ _ (fun r523 w524 H524 => ?_)
      refine ⟨⟨_, H524.c3, rfl⟩, ⟨_, H524.c2, rfl⟩, ?_⟩
      refine H524.ny (s9 := s519) (by simp) (by simp) hl2 (fun s527 w528 H528 => ?_)
      refine ⟨⟨_, H528.c3, rfl⟩, ?_⟩
      refine H528.nw (a := (n : Int)) (by simp) hl3 (fun s530 w531 H531 => ?_)
      exact fin H531
    ·refine H402.new _ _ (fun r542 w543 H543 => ?_)
     refine ⟨⟨_, H543.c3, rfl⟩, ⟨_, H543.c2, rfl⟩, ⟨_, H543.c1, rfl⟩, ?_⟩
     refine H543.new _ _ (fun r547 w548 H548 => ?_)
     refine ⟨⟨_, H548.c3, rfl⟩, ⟨_, H548.c2, rfl⟩, ⟨_, H548.c1, rfl⟩, ?_⟩
     refine H548.yF (a := (an : Int)) (by simp) hl1 (fun s552 w553 H553 => ?_)
     refine ⟨⟨_, H553.c3, rfl⟩, ⟨_, H553.c2, rfl⟩, ?_⟩
     refine H553.sP (by simp) ht2 (fun s556 w557 H557 => ?_)
     refine ⟨⟨_, H557.c3, rfl⟩, ⟨_, H557.c2, rfl⟩, ?_⟩
     refine H557.new _ _ (fun r560 w561 H561 => ?_)
     refine ⟨⟨_, H561.c3, rfl⟩, ⟨_, H561.c2, rfl⟩, ?_⟩
     refine H561.ny (s9 := s556) (by simp) (by simp) hl2 (fun s564 w565 H565 => ?_)
     refine ⟨⟨_, H565.c3, rfl⟩, ?_⟩
     refine H565.nw (a := (n : Int)) (by simp) hl3 (fun s567 w568 H568 => ?_)
     exact fin H568
   ·refine H0.new _ _ (fun r579 w580 H580 => ?_)
    refine ⟨⟨_, H580.c3, rfl⟩, ⟨_, H580.c2, rfl⟩, ⟨_, H580.c1, rfl⟩, ?_, ?_⟩
    ·refine H580.new _ _ (fun r584 w585 H585 => ?_)
     refine ⟨⟨_, H585.c3, rfl⟩, ⟨_, H585.c2, rfl⟩, ⟨_, H585.c1, rfl⟩, ?_, ?_⟩
     ·refine H585.yF (a := (an : Int)) (by simp) hl1 (fun s589 w590 H590 => ?_)
      refine ⟨⟨_, H590.c3, rfl⟩, ⟨_, H590.c2, rfl⟩, ?_⟩
      refine H590.new _ _ (fun r593 w594 H594 => ?_)
      refine ⟨⟨_, H594.c3, rfl⟩, ⟨_, H594.c2, rfl⟩, ?_⟩
      refine H594.sP (by simp) ht2 (fun s597 w598 H598 => ?_)
      refine ⟨⟨_, H598.c3, rfl⟩, ⟨_, H598.c2, rfl⟩, ?_⟩
      refine H598.new _ _ (fun r601 w602 H602 => ?_)
      refine ⟨⟨_, H602.c3, rfl⟩, ⟨_, H602.c2, rfl⟩, ?_⟩
      refine H602.ny (s9 := s597) (by simp) (by simp) hl2 (fun s605 w606 H606 => ?_)
      refine ⟨⟨_, H606.c3, rfl⟩, ?_⟩
      refine H606.nw (a := (n : Int)) (by simp) hl3 (fun s608 w609 H609 => ?_)
      exact fin H609
     ·refine H585.new _ _ (fun r620 w621 H621 => ?_)
      refine ⟨⟨_, H621.c3, rfl⟩, ⟨_, H621.c2, rfl⟩, ⟨_, H621.c1, rfl⟩, ?_⟩
      refine H621.yF (a := (an : Int)) (by simp) hl1 (fun s625 w626 H626 => ?_)
      refine ⟨⟨_, H626.c3, rfl⟩, ⟨_, H626.c2, rfl⟩, ?_⟩
      refine H626.sP (by simp) ht2 (fun s629 w630 H630 => ?_)
      refine ⟨⟨_, H630.c3, rfl⟩, ⟨_, H630.c2, rfl⟩, ?_⟩
      refine H630.new _ _ (fun r633 w634 H634 => ?_)
      refine ⟨⟨_, H634.c3, rfl⟩, ⟨_, H634.c2, rfl⟩, ?_⟩
      refine H634.ny (s9 := s629) (by simp) (by simp) hl2 (fun s637 w638 H638 => ?_)
      refine ⟨⟨_, H638.c3, rfl⟩, ?_⟩
      refine H638.nw (a := (n : Int)) (by simp) hl3 (fun s640 w641 H641 => ?_)
      exact fin H641
    ·refine H580.new _ _ (fun r652 w653 H653 => ?_)
     refine ⟨⟨_, H653.c3, rfl⟩, ⟨_, H653.c2, rfl⟩, ⟨_, H653.c1, rfl⟩, ?_⟩
     refine H653.new _ _ (fun r657 w658 H658 => ?_)
     refine ⟨⟨_, H658.c3, rfl⟩, ⟨_, H658.c2, rfl⟩, ⟨_, H658.c1, rfl⟩, ?_⟩
     refine H658.yF (a := (an : Int)) (by simp) hl1 (fun s662 w663 H663 => ?_)
     refine ⟨⟨_, H663.c3, rfl⟩, ⟨_, H663.c2, rfl⟩, ?_⟩
     refine H663.sP (by simp) ht2 (fun s666 w667 H667 => ?_)
     refine ⟨⟨_, H667.c3, rfl⟩, ⟨_, H667.c2, rfl⟩, ?_⟩
     refine H667.new _ _ (fun r670 w671 H671 => ?_)
     refine ⟨⟨_, H671.c3, rfl⟩, ⟨_, H671.c2, rfl⟩, ?_⟩
     refine H671.ny (s9 := s666) (by simp) (by simp) hl2 (fun s674 w675 H675 => ?_)
     refine ⟨⟨_, H675.c3, rfl⟩, ?_⟩
     refine H675.nw (a := (n : Int)) (by simp) hl3 (fun s677 w678 H678 => ?_)
     exact fin H678
theorem yH (h : RuS w r k f P top s) (hu : UOk k m s) (hm : m <= 2 ^ 59) (hP : P.length < 2 ^ 20) (epoch a : Int) (b4 : Slc) (t : List UInt8) (hb : au w b4 t) (ht : t.length <= 2 ^ 20) (hs : ∀ j, ai b4 j -> ¬ RuW r f j) :
  Calls Tryz.prog dq ⟨[av r, .int .i64 epoch, .int .i64 a, b4.v]⟩ w fun e w' => e = .returned (.int .i64 (eN (writeP k s epoch a t).1)) /\ ∃ f' P' top', RuS w' r k f' P' top' (writeP k s epoch a t).2 /\ P'.length <= P.length + 1 /\ ec r f f' w w' :=
 ko _ _ _ _ (Cp h hu hm hP epoch a b4 t hb ht hs (fun w' f' P' top' h1 h2 h3 => ⟨rfl, f', P', top', h1, h2, h3⟩))
end
end Go.D
namespace Go.D
open Go Go.Proofs
theorem uY {ep epoch a most : Int} : ∀ j, eu ep epoch a most = some j -> j < 19 := by
 intro j hj
 unfold eu at hj
 split at hj
 ·cases hj; omega
 ·split at hj
  ·cases hj; omega
  ·cases hj
theorem Ag {k : Nat} {s : UnS} {epoch a : Int} {t : List UInt8} : ∀ j, (writeP k s epoch a t).1 = some j -> j < 19 := by
 intro j hj
 unfold writeP at hj
 split at hj
 ·rename_i c hc; cases hj; exact uY _ hc
 ·split at hj
  ·cases hj; omega
  ·split at hj
   ·cases hj; omega
   ·split at hj
    ·cases hj; omega
    ·split at hj
     ·cases hj; omega
     ·cases hj
theorem Gb {k : Nat} {s : UnS} {epoch : Int} : ∀ j, (gZ k s epoch).1 = some j -> j < 19 := by
 intro j hj
 unfold gZ at hj
 split at hj
 ·cases hj; omega
 ·split at hj
  ·cases hj; omega
  ·split at hj
   ·cases hj
   ·split at hj
    ·cases hj; omega
    ·cases hj
theorem Gc {k : Nat} {s : UnS} {epoch a : Int} : ∀ j, (jo k s epoch a).1 = some j -> j < 19 := by
 intro j hj
 unfold jo at hj
 split at hj
 ·rename_i c hc; cases hj; exact uY _ hc
 ·split at hj
  ·cases hj
  ·split at hj
   ·cases hj; omega
   ·cases hj
theorem qM {tr ep : Int} {pg : Int -> Option (List UInt8)} {epoch a : Int} : ∀ j, readE tr ep pg epoch a = some j -> j < 19 := by
 intro j hj
 unfold readE at hj
 split at hj
 ·rename_i c hc; cases hj; exact uY _ hc
 ·split at hj
  ·cases hj; omega
  ·split at hj
   ·cases hj
   ·cases hj; omega
theorem AY.live {w w' : World} {n0 r rd m : Nat} {f : UnF} {d : aK} {s : UnS} {p : Option Nat × UnS} {e' : Option Nat} (h : AY w n0 r rd f d s m p e' w') (hst : d.stops = false) :
  e' = p.1 /\ ∃ f' d', UAt w' n0 r rd f' d' p.2 (m + 1) /\ d'.n = d.n /\ d'.stops = false /\ jq r rd f f' w w' := by
 rcases h with ⟨h1, f', d', h2, h3, h4, h5⟩ | ⟨_, h2, _⟩
 ·exact ⟨h1, f', d', h2, h3, by rw [h4]; exact hst, h5⟩
 ·rw [hst] at h2; cases h2
theorem Cq (A : Nat -> Addr) (n : Nat) (hn : 1 <= n /\ n < 20) (w0 w : World) (hE : cP A w0) (hk : ah w0 w) :
  Calls Tryz.prog mv ⟨[.int .i64 ((64 * n : Nat) : Int)]⟩ w fun e w' => ∃ rd q d, e = .returned (.tuple ⟨[av rd, .nilIface]⟩) /\ ah w w' /\ d.n / 64 = n /\ d.stops = false /\
   ∀ w2, ah w' w2 -> Calls Tryz.prog kX ⟨[av rd]⟩ w2 fun e w3 => ∃ r f, e = .returned (.tuple ⟨[av r, .nilIface]⟩) /\ UAt w3 w0.heap.size r rd f d ⟨[], 0, 0, 0⟩ 0 /\ f.q = q /\ ah w2 w3 /\ (∀ j, UB r rd f j -> w.heap.size <= j) /\ (∀ j, UnY f.x j -> w.heap.size <= j) := by
 have hB : dL A w0.heap.size w0 := hE.b
 refine (En A _ w ((hB.g.ae hk).sub (fun g hg => tZ g (gF g hg)))).mono ?_
 rintro e w3 ⟨k3, hc⟩
 rw [if_neg (by omega)] at hc
 obtain ⟨rd, q, rfl, hD, hDf⟩ := hc
 have hn' : (Fq (Int.toNat ((64 * n : Nat) : Int))).n = 64 * n := by rw [HD]; omega
 refine ⟨rd, q, _, rfl, k3, by rw [hn']; omega, rfl, fun w2 k2 => ?_⟩
 have z0 := hk.size
 have z3 := k3.size
 have z2 := k2.size
 refine (Di A (hB.ae ((hk.trans k3).trans k2)) (hD.ae k2) rfl (U := []) (tr := 0) (ep := 0) (T := 0) (FJ _ _) gb.nil (by omega) (by rw [hn']; omega) (m := 0) (by simp) (by omega) (fun j hj => by have := hDf j hj; omega) (by omega)).mono ?_
 rintro e w4 ⟨r, f, rfl, hU, hq, hUB, hUY, k4⟩
 exact ⟨r, f, rfl, hU, hq, k4, fun j hj => (hUB j hj).elim (hDf j) (fun g => by omega), fun j hj => by have := hUY j hj; omega⟩
end Go.D
namespace Go.D
open Go
structure g9 (k m : Nat) (V : List aO) : Prop where
 so : V.Pairwise fun g h => g.num < h.num
 N : ∀ g ∈ sU V, g.num < m
 sm : ∀ g ∈ sU V, sumN g.bP <= 64
 pl : ∀ g ∈ V, g.place < k
 nd : V.Pairwise fun g h => g.place ≠ h.place
structure UPl (k m : Nat) (s : UnS) : Prop where
 o : gb s.U s.tr s.ep s.T
 g : g9 k m s.U
 k : k <= 20
 t : s.T <= 4096 /\ s.ep <= 2 ^ 30
theorem g9.len {k m : Nat} {V : List aO} (h : g9 k m V) : V.length <= k := by
 have := sK (M := sU V) (by rw [List.pairwise_map]; exact h.nd) (fun g hg => by obtain ⟨y, hy, rfl⟩ := List.mem_map.1 hg; exact h.pl y hy)
 simpa using this
theorem UPl.ok {k m : Nat} {s : UnS} (h : UPl k m s) : UOk k m s := ⟨h.o, h.g.so, h.g.N, h.g.sm, by have := h.g.len; have := h.k; omega, by have := h.k; omega, h.t⟩
theorem UPl.up {k m m' : Nat} {s : UnS} (h : UPl k m s) (hm : m <= m') : UPl k m' s := ⟨h.o, ⟨h.g.so, fun g hg => Nat.lt_of_lt_of_le (h.g.N g hg) hm, h.g.sm, h.g.pl, h.g.nd⟩, h.k, h.t⟩
theorem UPl.nil (k : Nat) (hk : k <= 20) : UPl k 0 ⟨[], 0, 0, 0⟩ := ⟨gb.nil, ⟨.nil, by simp, by simp, by simp, .nil⟩, hk, by simp⟩
theorem g9.add {k m : Nat} {M : List aO} {g : aO} {x : Rc} (h : g9 k m (M ++ [g])) (hs : sumN ((g.rs ++ [x]).map encR) <= 64) : g9 k m (M ++ [{ g with rs := g.rs ++ [x] }]) := by
 refine ⟨?_, fun y hy => ?_, fun y hy => ?_, fun y hy => ?_, ?_⟩
 ·exact List.pairwise_append.2 ⟨(List.pairwise_append.1 h.so).1, List.pairwise_singleton _ _, fun a ha b hb => by rw [List.mem_singleton] at hb; subst hb; exact (List.pairwise_append.1 h.so).2.2 a ha g (by simp)⟩
 ·obtain ⟨z, hz, rfl⟩ := List.mem_map.1 hy
  rcases List.mem_append.1 hz with hz | hz
  ·exact h.N _ (List.mem_map.2 ⟨z, by simp [hz], rfl⟩)
  ·rw [List.mem_singleton] at hz; subst hz
   exact h.N g.s (List.mem_map.2 ⟨g, by simp, rfl⟩)
 ·obtain ⟨z, hz, rfl⟩ := List.mem_map.1 hy
  rcases List.mem_append.1 hz with hz | hz
  ·exact h.sm _ (List.mem_map.2 ⟨z, by simp [hz], rfl⟩)
  ·rw [List.mem_singleton] at hz; subst hz
   exact hs
 ·rcases List.mem_append.1 hy with hz | hz
  ·exact h.pl y (by simp [hz])
  ·rw [List.mem_singleton] at hz; subst hz
   exact h.pl g (by simp)
 ·exact List.pairwise_append.2 ⟨(List.pairwise_append.1 h.nd).1, List.pairwise_singleton _ _, fun a ha b hb => by rw [List.mem_singleton] at hb; subst hb; exact (List.pairwise_append.1 h.nd).2.2 a ha g (by simp)⟩
theorem g9.push {k m p : Nat} {U : List aO} {x : Rc} (h : g9 k m U) (hp : p < k /\ ∀ g ∈ sU U, g.place ≠ p) (hs : de (encR x).length <= 64) : g9 k (m + 1) (U ++ [⟨p, cd (sU U), [x]⟩]) := by
 have hnx := ue h.N
 refine ⟨?_, fun y hy => ?_, fun y hy => ?_, fun y hy => ?_, ?_⟩
 ·exact List.pairwise_append.2 ⟨h.so, List.pairwise_singleton _ _, fun a ha b hb => by
   rw [List.mem_singleton] at hb; subst hb
   exact mQ (L := sU U) (by rw [List.pairwise_map]; exact h.so) a.s (List.mem_map.2 ⟨a, ha, rfl⟩)⟩
 ·obtain ⟨z, hz, rfl⟩ := List.mem_map.1 hy
  rcases List.mem_append.1 hz with hz | hz
  ·have := h.N _ (List.mem_map.2 ⟨z, hz, rfl⟩); omega
  ·rw [List.mem_singleton] at hz; subst hz
   show cd (sU U) < m + 1; omega
 ·obtain ⟨z, hz, rfl⟩ := List.mem_map.1 hy
  rcases List.mem_append.1 hz with hz | hz
  ·exact h.sm _ (List.mem_map.2 ⟨z, hz, rfl⟩)
  ·rw [List.mem_singleton] at hz; subst hz
   show de (encR x).length + 0 <= 64; omega
 ·rcases List.mem_append.1 hy with hz | hz
  ·exact h.pl y hz
  ·rw [List.mem_singleton] at hz; subst hz
   exact hp.1
 ·exact List.pairwise_append.2 ⟨h.nd, List.pairwise_singleton _ _, fun a ha b hb => by
   rw [List.mem_singleton] at hb; subst hb
   exact hp.2 a.s (List.mem_map.2 ⟨a, ha, rfl⟩)⟩
theorem g9.app {k m n : Nat} {U V : List aO} {x : Rc} (h : g9 k m U) (hx : okR x) (ha : appU k U x = some (n, V)) : g9 k (m + 1) V := by
 have hl := j9 hx
 unfold appU at ha
 by_cases hf : jn (sU U) (encR x).length = true
 ·have hne := AW hf
  rw [if_pos hf, dif_pos hne] at ha
  cases ha
  have e : U.dropLast ++ [U.getLast hne] = U := List.dropLast_concat_getLast hne
  have h2 : g9 k m (U.dropLast ++ [U.getLast hne]) := by rw [e]; exact h
  have hs : sumN (((U.getLast hne).rs ++ [x]).map encR) <= 64 := by
   have e2 : sU U = sU U.dropLast ++ [(U.getLast hne).s] := by
    have e1 : sU (U.dropLast ++ [U.getLast hne]) = sU U.dropLast ++ [(U.getLast hne).s] := List.map_append
    rw [e] at e1; exact e1
   rw [e2] at hf
   unfold jn at hf
   rw [List.getLast?_concat] at hf
   have h3 : (U.getLast hne).s.fin + de (encR x).length <= 64 := by simpa using hf
   rw [List.map_append, List.map_singleton, jM]
   unfold aJ.fin at h3
   have h4 : (U.getLast hne).s.bP = (U.getLast hne).rs.map encR := rfl
   rw [h4] at h3; omega
  have h5 := h2.add hs
  exact ⟨h5.so, fun g hg => Nat.lt_succ_of_lt (h5.N g hg), h5.sm, h5.pl, h5.nd⟩
 ·rw [if_neg hf] at ha
  cases hp : gz k (sU U) with
  | none => rw [hp] at ha; cases ha
  | some p =>
   rw [hp] at ha
   cases ha
   exact h.push (BX hp) (by unfold de bT; omega)
theorem vK (tr : Nat) : ∀ U : List aO, (dC tr U).Sublist U
 | [] => .slnil
 | [g] => List.Sublist.refl _
 | g :: h :: t => by
  show (if _ then _ else _ : List aO).Sublist _
  split
  ·exact (vK tr (h :: t)).cons _
  ·exact List.Sublist.refl _
theorem yI {tr ep T : Nat} : ∀ U : List aO, gb U tr ep T -> pQ U tr ep -> gb (dC tr U) tr ep T
 | [], h, _ => h
 | [g], h, _ => h
 | g :: h :: t, hO, hend => by
  show gb (if _ then _ else _) tr ep T
  split
  ·rename_i hall
   obtain ⟨hO3, _⟩ := gb.drop hO hend.tail.all (fun y hy => by
    have := List.all_eq_true.1 hall y hy
    simpa using this)
   exact yI (h :: t) hO3 hend.tail
  ·exact hO
theorem g9.sub {k m : Nat} {U V : List aO} (h : g9 k m U) (hs : V.Sublist U) : g9 k m V :=
 ⟨h.so.sublist hs, fun g hg => h.N g ((hs.map _).subset hg), fun g hg => h.sm g ((hs.map _).subset hg), fun g hg => h.pl g (hs.subset hg), h.nd.sublist hs⟩
section
variable {k m : Nat} {s : UnS}
theorem Ah {ep epoch a most : Int} (h : eu ep epoch a most = none) : (ep <= epoch /\ epoch <= 1073741824) /\ 0 <= a /\ a <= most := by
 unfold eu at h
 split at h
 ·cases h
 ·split at h
  ·cases h
  ·omega
theorem EE (h : UPl k m s) (e a : Int) (t : List UInt8) : UPl k (m + 1) (writeP k s e a t).2 := by
 have h0 : UPl k (m + 1) s := h.up (by omega)
 unfold writeP
 split
 ·exact h0
 rename_i hc
 have hab := (Ah hc).2
 split
 ·exact h0
 rename_i h1
 split
 ·exact h0
 rename_i h2
 split
 ·exact h0
 rename_i h3
 split
 ·exact h0
 rename_i n V ha
 have hok : okR (.dO a.toNat t) := ⟨by omega, by omega, by omega⟩
 have ht := h.t
 refine ⟨uw h.o hok ha (fun a' t' he y hy => ?_), h.g.app hok ha, h.k, ?_⟩
 ·cases he
  refine yy (tr := s.tr) (by omega) ?_ y hy
  rw [show ((a.toNat : Nat) : Int) = a by omega]
  simpa using h3
 ·show max s.T (a.toNat + 1) <= 4096 /\ _
  exact ⟨by omega, ht.2⟩
theorem Gd (h : UPl k m s) (e : Int) : UPl k (m + 1) (gZ k s e).2 := by
 have h0 : UPl k (m + 1) s := h.up (by omega)
 unfold gZ
 split
 ·exact h0
 rename_i h1
 split
 ·exact h0
 split
 ·exact h0
 split
 ·exact h0
 rename_i n V ha
 have hok : okR (.shut e.toNat) := by show e.toNat <= 2 ^ 30; omega
 exact ⟨uw h.o hok ha (fun a' t' he y hy => by cases he), h.g.app hok ha, h.k, h.t.1, by show e.toNat <= 2 ^ 30; omega⟩
theorem Ge (h : UPl k m s) (e a : Int) : UPl k (m + 1) (jo k s e a).2 := by
 have h0 : UPl k (m + 1) s := h.up (by omega)
 unfold jo
 split
 ·exact h0
 rename_i hc
 have hab := (Ah hc).2
 split
 ·exact h0
 rename_i h1
 split
 ·exact h0
 rename_i n V ha
 have hok : okR (.trim a.toNat s.ep) := ⟨by omega, h.t.2⟩
 have ht := h.t
 have htl := h.o.tl
 have hO := uw h.o hok ha (fun a' t' he y hy => by cases he)
 obtain ⟨_, _, M, g, rfl, _⟩ := gk ha
 refine ⟨?_, (h.g.app hok ha).sub (vK _ _), h.k, ?_⟩
 ·have e9 : tailR s.T (ef (pgU s.U)) (.trim a.toNat s.ep) = max s.T a.toNat := by show max (ef (pgU s.U)) a.toNat = _; omega
  rw [e9] at hO
  exact yI _ hO ⟨M, g.place, g.num, g.rs, rfl⟩
 ·show max s.T a.toNat <= 4096 /\ _
  exact ⟨by omega, ht.2⟩
end
def bk {α : Type} (f : Nat -> α) (i : Nat) (x : α) : Nat -> α := fun j => if j = i then x else f j
theorem aE {α : Type} (f : Nat -> α) (i : Nat) (x : α) : bk f i x i = x := if_pos rfl
theorem aM {α : Type} {f : Nat -> α} {i j : Nat} {x : α} (h : j ≠ i) : bk f i x j = f j := if_neg h
def upB (N : Nat) (up : Nat -> Bool) (n : Int) : Bool := decide (0 <= n /\ n < (N : Int)) && up n.toNat
theorem re {N : Nat} {up : Nat -> Bool} {n : Int} : upB N up n = true ↔ (0 <= n /\ n < (N : Int)) /\ up n.toNat = true := by simp [upB]
abbrev rdE (s : UnS) (e a : Int) : Option Nat := readE s.tr s.ep (pgM s.U s.tr) e a
abbrev pgD (s : UnS) (a : Int) : List UInt8 := (pgM s.U s.tr a).getD []
def putP (N : Nat) (up : Nat -> Bool) (first : Bool) (e a : Int) (t : List UInt8) (n : Int) (S : Nat -> UnS) : Option Nat × (Nat -> UnS) :=
 if upB N up n then
  (if first = true \/ (writeP 2 (S n.toNat) e a t).1 ≠ some 8 then (writeP 2 (S n.toNat) e a t).1 else
   match rdE (writeP 2 (S n.toNat) e a t).2 e a with
   | some c => some c
   | none => if pgD (writeP 2 (S n.toNat) e a t).2 a = t then none else some 16, bk S n.toNat (writeP 2 (S n.toNat) e a t).2)
 else (some 11, S)
def othP (N : Nat) (up : Nat -> Bool) (e a : Int) (t : List UInt8) : List Int -> (Nat -> UnS) -> Option Nat × (Nat -> UnS)
 | [], S => (none, S)
 | n :: l, S => if (putP N up false e a t n S).1 = none then othP N up e a t l (putP N up false e a t n S).2 else putP N up false e a t n S
abbrev Cr := Option Nat × List UInt8 × (Nat -> UnS)
def sQ (N : Nat) (up : Nat -> Bool) (e a : Int) (b : List UInt8) (l : List Int) (S : Nat -> UnS) : Cr :=
 if (othP N up e a b l S).1 = none then (none, b, (othP N up e a b l S).2) else ((othP N up e a b l S).1, [], (othP N up e a b l S).2)
def DP (N : Nat) (up : Nat -> Bool) (e a : Int) (c : List Int) (S : Nat -> UnS) : Cr :=
 if upB N up (c.getD (c.length - 1) 0) then
  (if rdE (S (c.getD (c.length - 1) 0).toNat) e a = none then (none, pgD (S (c.getD (c.length - 1) 0).toNat) a, S)
  else if rdE (S (c.getD (c.length - 1) 0).toNat) e a ≠ some 9 \/ c.length = 1 then (rdE (S (c.getD (c.length - 1) 0).toNat) e a, [], S)
  else if upB N up (c.getD 0 0) then
   (if rdE (S (c.getD 0 0).toNat) e a = none then sQ N up e a (pgD (S (c.getD 0 0).toNat) a) c.tail S else (rdE (S (c.getD 0 0).toNat) e a, [], S))
  else (some 11, [], S))
 else (some 11, [], S)
def rI (N : Nat) (up : Nat -> Bool) (e a : Int) (c : List Int) (q : Option Nat × (Nat -> UnS)) : Cr :=
 if q.1 = none then sQ N up e a [0] c.tail q.2
 else if q.1 = some 8 then (if rdE (q.2 (c.getD 0 0).toNat) e a = none then sQ N up e a (pgD (q.2 (c.getD 0 0).toNat) a) c.tail q.2 else (rdE (q.2 (c.getD 0 0).toNat) e a, [], q.2))
 else (q.1, [], q.2)
def Cs (N : Nat) (up : Nat -> Bool) (e a : Int) (c : List Int) (S : Nat -> UnS) : Cr := rI N up e a c (putP N up true e a [0] (c.getD 0 0) S)
def Gf (N : Nat) (up : Nat -> Bool) (e a : Int) (t : List UInt8) (c : List Int) (S : Nat -> UnS) : Option Nat × (Nat -> UnS) :=
 if (putP N up true e a t (c.getD 0 0) S).1 = none then othP N up e a t c.tail (putP N up true e a t (c.getD 0 0) S).2 else putP N up true e a t (c.getD 0 0) S
def uy (N : Nat) (up : Nat -> Bool) (e own : Int) : List Int -> (Nat -> UnS) -> Option Nat × (Nat -> UnS)
 | [], S => (none, S)
 | n :: l, S => if upB N up n then (if (jo 2 (S n.toNat) e own).1 = none then uy N up e own l (bk S n.toNat (jo 2 (S n.toNat) e own).2) else ((jo 2 (S n.toNat) e own).1, bk S n.toNat (jo 2 (S n.toNat) e own).2)) else (some 11, S)
def pn (n c : Nat) (to : Int) : Int := max 0 ((to - c + n - 1) / n)
def A0 (N : Nat) (up : Nat -> Bool) (e to : Int) (n : Nat) : Nat -> List (List Int) -> (Nat -> UnS) -> Option Nat × (Nat -> UnS)
 | _, [], S => (none, S)
 | c, l :: r, S => if (uy N up e (pn n c to) l S).1 = none then A0 N up e to n (c + 1) r (uy N up e (pn n c to) l S).2 else uy N up e (pn n c to) l S
def tailsP (N : Nat) (up : Nat -> Bool) (S : Nat -> UnS) : List (List Int) -> Option (List Int)
 | [] => some []
 | l :: r => if upB N up (l.getD 0 0) then (tailsP N up S r).map (((S (l.getD 0 0).toNat).T : Int) :: ·) else none
section
variable {N m : Nat} {up : Nat -> Bool} {S : Nat -> UnS}
theorem mf (hS : True) (first : Bool) (e a : Int) (t : List UInt8) (n : Int) : ∀ j, (putP N up first e a t n S).1 = some j -> j < 19 := by
 intro j hj
 unfold putP at hj
 split at hj
 ·dsimp only at hj
  split at hj
  ·exact Ag j hj
  ·split at hj
   ·rename_i c hc; cases hj; exact qM _ hc
   ·split at hj
    ·cases hj
    ·cases hj; omega
 ·cases hj; omega
theorem po (e a : Int) (t : List UInt8) : ∀ (l : List Int) (S : Nat -> UnS) j, (othP N up e a t l S).1 = some j -> j < 19
 | [], S, j, hj => by cases hj
 | n :: l, S, j, hj => by
  unfold othP at hj
  split at hj
  ·exact po e a t l _ j hj
  ·exact mf trivial false e a t n j hj
end
end Go.D
namespace Go.D
open Go Go.Proofs
theorem uZ (A : Nat -> Addr) (e' : Option Nat) (h : ∀ j, e' = some j -> j < 19) (k : Nat) (hk : k < 19) (w : World) (hE : cP A w) :
  Calls Tryz.prog gK ⟨[cm A e', mj A (gw.getD k 0)]⟩ w fun e w' => e = .returned (.bool (decide (e' = some k))) /\ w' = w := by
 cases e' with
 | none => exact HB _ _
 | some j =>
  refine (cP.is hE (h j rfl) hk).mono ?_
  rintro e w' ⟨rfl, rfl⟩
  refine ⟨?_, rfl⟩
  by_cases hj : j = k
  ·subst hj; rw [decide_eq_true rfl, decide_eq_true rfl]
  ·rw [decide_eq_false hj, decide_eq_false (fun hh => hj (Option.some.inj hh))]
end Go.D
namespace Go.D
open Go Go.Proofs
theorem zw (s t : Slc) (a b : List UInt8) (w : World) (ha : au w s a) (hb : au w t b) (hl : a.length <= 2 ^ 40) :
  Calls Tryz.prog gp ⟨[s.v, t.v]⟩ w fun e w' => e = .returned (.bool (decide (a = b))) /\ ah w w' := by
 have hsl := ha.1
 have htl := hb.1
 refine qC _ _ ?_
 unfold mH
 refine aT (fun h => ?_) (fun h => ?_)
 ·rw [decide_eq_false (fun hh => h (by rw [hsl, htl, hh]))]
  exact ⟨rfl, Ext.refl _ _⟩
 ·have hlen : a.length = b.length := by omega
  refine ⟨fun i w2 => ∃ k : Nat, i = k /\ k <= a.length /\ ah w w2 /\ ∀ j, j < k -> a[j]? = b[j]?, fun i _ => ((a.length : Int) - i).toNat, ⟨0, rfl, by omega, Ext.refl _ _, fun j h => by omega⟩, ?_⟩
  rintro i w2 ⟨k, rfl, hk, hkp, hpre⟩
  intros
  refine af (fun h1 => ?_) (fun h1 => ?_)
  ·have hka : k < a.length := by omega
   have hkb : k < b.length := by omega
   obtain ⟨p, hp, hcp⟩ := eE (aG ha hkp.drew) hka
   obtain ⟨q, hq, hcq⟩ := eE (aG hb hkp.drew) hkb
   refine aa hp ⟨by omega, h1, _, by rw [show Int.toNat (k : Int) * 1 = k by omega]; exact hcp, aa hq ⟨by omega, by omega, _, by rw [show Int.toNat (k : Int) * 1 = k by omega]; exact hcq, ?_⟩⟩
   refine aT (fun h2 => ?_) (fun h2 => ?_)
   ·rw [decide_eq_false (fun hh => h2 (by subst hh; rfl))]
    exact ⟨rfl, hkp.drew⟩
   ·refine ⟨ar (by omega), ⟨k + 1, rfl, by omega, hkp.drew, fun j hj => ?_⟩, by dsimp only; omega⟩
    by_cases hjk : j = k
    ·subst hjk
     rw [List.getElem?_eq_getElem hka, List.getElem?_eq_getElem hkb]
     have : a[j].toNat = b[j].toNat := by omega
     rw [UInt8.toNat_inj.1 this]
    ·exact hpre j (by omega)
  ·have hke : k = a.length := by omega
   rw [decide_eq_true (List.ext_getElem? fun j => by
    by_cases hj : j < k
    ·exact hpre j hj
    ·rw [List.getElem?_eq_none (by omega), List.getElem?_eq_none (by omega)])]
   exact ⟨rfl, hkp⟩
def FB (N : Nat) (r rd : Nat -> Nat) (f : Nat -> UnF) (b : Nat) : Prop := ∃ i, i < N /\ UB (r i) (rd i) (f i) b
def FY (N : Nat) (f : Nat -> UnF) (b : Nat) : Prop := ∃ i, i < N /\ UnY (f i).x b
structure nz (A : Nat -> Addr) (w : World) (n0 N m : Nat) (r rd : Nat -> Nat) (f : Nat -> UnF) (d : Nat -> aK) (S : Nat -> UnS) : Prop where
 E : dL A n0 w
 U : ∀ i, i < N -> UAt w n0 (r i) (rd i) (f i) (d i) (S i) m
 k : ∀ i, i < N -> (d i).n / 64 = 2 /\ (d i).stops = false
 sep : ∀ i j, i < N -> j < N -> i ≠ j -> ∀ b, UB (r i) (rd i) (f i) b -> ¬ UB (r j) (rd j) (f j) b /\ ¬ UnY (f j).x b
def FTo (N : Nat) (r rd : Nat -> Nat) (f f' : Nat -> UnF) (w w' : World) : Prop :=
 Ext (FB N r rd f) w w' /\ (∀ b, FB N r rd f' b -> FB N r rd f b \/ w.heap.size <= b) /\ ∀ b, FY N f' b -> FY N f b \/ w.heap.size <= b
section
variable {A : Nat -> Addr} {w w' : World} {n0 N m m' : Nat} {r rd : Nat -> Nat} {f f' f'' : Nat -> UnF} {d d' : Nat -> aK} {S S' : Nat -> UnS} {us : Slc} {up : Nat -> Bool}
theorem FTo.refl : FTo N r rd f f w w := ⟨Ext.refl _ _, fun b h => .inl h, fun b h => .inl h⟩
theorem FTo.ae (hk : ah w w') : FTo N r rd f f w w' := ⟨hk.mono (fun _ h => h.elim), fun b h => .inl h, fun b h => .inl h⟩
theorem FTo.trans {w'' : World} (h1 : FTo N r rd f f' w w') (h2 : FTo N r rd f' f'' w' w'') : FTo N r rd f f'' w w'' := by
 have z := h1.1.size
 refine ⟨h1.1.trans h2.1 (fun _ h => h) (fun b hb => h1.2.1 b hb), fun b hb => ?_, fun b hb => ?_⟩
 ·exact (h2.2.1 b hb).elim (h1.2.1 b) (fun g => .inr (by omega))
 ·exact (h2.2.2 b hb).elim (h1.2.2 b) (fun g => .inr (by omega))
theorem nz.lt (h : nz A w n0 N m r rd f d S) : (∀ b, FB N r rd f b -> b < w.heap.size) /\ ∀ b, FY N f b -> b < w.heap.size :=
 ⟨fun b ⟨i, hi, hb⟩ => (h.U i hi).lt.1 b hb, fun b ⟨i, hi, hb⟩ => (h.U i hi).lt.2 b hb⟩
theorem nz.ge (h : nz A w n0 N m r rd f d S) : ∀ b, FB N r rd f b -> n0 <= b := fun b ⟨i, hi, hb⟩ => (h.U i hi).ge b hb
theorem nz.ext {M : Nat -> Prop} (h : nz A w n0 N m r rd f d S) (he : Ext M w w') (h1 : ∀ b, FB N r rd f b -> ¬ M b) (h2 : ∀ b, FY N f b -> ¬ M b) (h3 : ∀ b, M b -> n0 <= b) : nz A w' n0 N m r rd f d S :=
 ⟨h.E.ext he h3, fun i hi => (h.U i hi).ext he (fun b hb => h1 b ⟨i, hi, hb⟩) (fun b hb => h2 b ⟨i, hi, hb⟩), h.k, h.sep⟩
theorem nz.ae (h : nz A w n0 N m r rd f d S) (hk : ah w w') : nz A w' n0 N m r rd f d S := h.ext hk (fun _ _ h => h) (fun _ _ h => h) (fun _ h => h.elim)
theorem nz.lift (h : nz A w n0 N m r rd f d S) (hm : m <= m') : nz A w n0 N m' r rd f d S := ⟨h.E, fun i hi => (h.U i hi).up hm, h.k, h.sep⟩
theorem nz.step (h : nz A w n0 N m r rd f d S) {i : Nat} (hi : i < N) {f1 : UnF} {d1 : aK} {s1 : UnS} (hU : UAt w' n0 (r i) (rd i) f1 d1 s1 m') (hm : m <= m') (hn : d1.n = (d i).n) (hst : d1.stops = false) (uf : jq (r i) (rd i) (f i) f1 w w') :
  nz A w' n0 N m' r rd (bk f i f1) (bk d i d1) (bk S i s1) /\ FTo N r rd f (bk f i f1) w w' := by
 have lt := fun j hj => (h.U j hj).lt
 refine ⟨⟨h.E.ext uf.1.1 (fun b hb => (h.U i hi).ge b hb), fun j hj => ?_, fun j hj => ?_, fun j k hj hk hne b hb => ?_⟩, ⟨uf.1.1.mono (fun b hb => ⟨i, hi, hb⟩), ?_, ?_⟩⟩
 ·by_cases e : j = i
  ·subst e; rw [aE, aE, aE]; exact hU
  ·rw [aM e, aM e, aM e]
   exact ((h.U j hj).ext uf.1.1 (fun b hb => (h.sep j i hj hi e b hb).1 ) (fun b hb hh => (h.sep i j hi hj (fun g => e g.symm) b hh).2 hb)).up hm
 ·by_cases e : j = i
  ·subst e; rw [aE]; exact ⟨by rw [hn]; exact (h.k j hj).1, hst⟩
  ·rw [aM e]; exact h.k j hj
 ·by_cases e : j = i
  ·subst e
   rw [aE] at hb
   rw [aM (fun g => hne g.symm)]
   rcases uf.1.2 b hb with g | g
   ·exact h.sep j k hj hk hne b g
   ·exact ⟨fun hh => by have := (lt k hk).1 b hh; omega, fun hh => by have := (lt k hk).2 b hh; omega⟩
  ·rw [aM e] at hb
   by_cases e2 : k = i
   ·subst e2
    rw [aE]
    have hs := h.sep j k hj hk hne b hb
    have hl := (lt j hj).1 b hb
    exact ⟨fun hh => (uf.1.2 b hh).elim hs.1 (fun g => by omega), fun hh => (uf.2 b hh).elim hs.2 (fun g => by omega)⟩
   ·rw [aM e2]; exact h.sep j k hj hk hne b hb
 ·rintro b ⟨j, hj, hb⟩
  by_cases e : j = i
  ·subst e; rw [aE] at hb; exact (uf.1.2 b hb).imp (fun g => ⟨j, hj, g⟩) (fun g => g)
  ·rw [aM e] at hb; exact .inl ⟨j, hj, hb⟩
 ·rintro b ⟨j, hj, hb⟩
  by_cases e : j = i
  ·subst e; rw [aE] at hb; exact (uf.2 b hb).imp (fun g => ⟨j, hj, g⟩) (fun g => g)
  ·rw [aM e] at hb; exact .inl ⟨j, hj, hb⟩
def usL (N : Nat) (up : Nat -> Bool) (r : Nat -> Nat) : List Value := (List.range N).map fun i => if up i then av (r i) else .pointer none
theorem bO : (usL N up r).length = N := by simp [usL]
theorem ll {i : Nat} (h : i < (usL N up r).length) : (usL N up r)[i] = if up i then av (r i) else .pointer none := by simp [usL]
structure ChU (A : Nat -> Addr) (w : World) (n0 N m : Nat) (r rd : Nat -> Nat) (f : Nat -> UnF) (d : Nat -> aK) (S : Nat -> UnS) (us : Slc) (up : Nat -> Bool) : Prop where
 F : nz A w n0 N m r rd f d S
 uo : Own w us 1 (usL N up r)
 ub : ∀ b, ai us b -> ¬ FB N r rd f b
theorem ChU.to (h : ChU A w n0 N m r rd f d S us up) (hF : nz A w' n0 N m' r rd f' d' S') (ht : FTo N r rd f f' w w') : ChU A w' n0 N m' r rd f' d' S' us up :=
 ⟨hF, h.uo.ext ht.1 h.ub, fun b hb hh => (ht.2.1 b hh).elim (h.ub b hb) (fun g => by have := cD h.uo b hb; omega)⟩
theorem ChU.ae (h : ChU A w n0 N m r rd f d S us up) (hk : ah w w') : ChU A w' n0 N m r rd f d S us up := h.to (h.F.ae hk) (FTo.ae hk)
theorem ChU.lift (h : ChU A w n0 N m r rd f d S us up) (hm : m <= m') : ChU A w n0 N m' r rd f d S us up := ⟨h.F.lift hm, h.uo, h.ub⟩
theorem ChU.sl (h : ChU A w n0 N m r rd f d S us up) : us.l = N := by
 have := h.uo.1
 rw [bO] at this; omega
theorem ChU.get (h : ChU A w n0 N m r rd f d S us up) {i : Nat} (hi : i < N) : ∃ a, us.p = some a /\ w.cell? (a.add i) = some (if up i then av (r i) else .pointer none) := by
 obtain ⟨a, ha, hc⟩ := bc h.uo.cells (i := i) (by rw [bO]; exact hi)
 exact ⟨a, ha, by rw [hc, ll]⟩
structure Txt (w : World) (F : Nat -> Prop) (b : Slc) (t : List UInt8) : Prop where
 tb : au w b t
 s : ∀ k, ai b k -> k < w.heap.size /\ ¬ F k
 l : t.length <= 2 ^ 20
theorem Txt.to {b : Slc} {t : List UInt8} (h : Txt w (FB N r rd f) b t) (ht : FTo N r rd f f' w w') : Txt w' (FB N r rd f') b t := by
 have z := ht.1.size
 refine ⟨cC h.tb ht.1 (fun k hk => (h.s k hk).2), fun k hk => ⟨by have := (h.s k hk).1; omega, fun hh => ?_⟩, h.l⟩
 exact (ht.2.1 k hh).elim (h.s k hk).2 (fun g => by have := (h.s k hk).1; omega)
theorem Txt.ae {F : Nat -> Prop} {b : Slc} {t : List UInt8} (h : Txt w F b t) (hk : ah w w') : Txt w' F b t := by
 have z := hk.size
 exact ⟨aG h.tb hk, fun k hk => ⟨by have := (h.s k hk).1; omega, (h.s k hk).2⟩, h.l⟩
theorem oz (h : ChU A w n0 N m r rd f d S us up) (n : Int) :
  Calls Tryz.prog cn ⟨[us.v, .int .i64 n]⟩ w fun e w' => ah w w' /\ ((upB N up n = true /\ n.toNat < N /\ e = .returned (.tuple ⟨[av (r n.toNat), .nilIface]⟩)) \/ (upB N up n = false /\ e = .returned (.tuple ⟨[.pointer none, cm A (some 11)]⟩))) := by
 refine tJ _ _ ?_
 unfold qB
 have hsl := h.sl
 have hd : ∀ {w2 : World}, w2 = World.drew w -> World.cell? w2 (⟨dW, 0, none⟩ : Addr) = some (mj A (gw.getD 11 0)) := fun e => by
  subst e; exact eb ((h.F.E.ae (Ext.drew _ _)).g) 11 dW rfl (by decide)
 have kd : ah w (World.drew w) := Ext.drew _ _
 have no : ∀ {X : Prop}, (upB N up n = true -> False) -> upB N up n = false := fun g => by cases hh : upB N up n <;> simp_all
 refine af (fun h1 => ⟨_, hd rfl, kd, .inr ⟨no (X := True) (fun hh => by have := (re.1 hh).1; omega), rfl⟩⟩) (fun h1 => af (fun h2 => ⟨_, hd rfl, kd, .inr ⟨no (X := True) (fun hh => by have := (re.1 hh).1; omega), rfl⟩⟩) (fun h2 => ?_))
 obtain ⟨i, rfl⟩ : ∃ i : Nat, n = i := ⟨n.toNat, by omega⟩
 rw [Int.toNat_natCast, Nat.mul_one]
 have hi : i < N := by omega
 obtain ⟨a, ha, hc⟩ := h.get hi
 cases hu : up i with
 | true =>
  rw [hu, if_pos rfl] at hc
  refine aa ha ⟨by omega, by omega, _, hc, aj (fun g => by cases g) (fun _ => aa ha ⟨by omega, by omega, _, hc, Ext.refl _ _, .inl ⟨re.2 ⟨by omega, by rw [Int.toNat_natCast]; exact hu⟩, hi, rfl⟩⟩)⟩
 | false =>
  rw [hu, if_neg (by decide)] at hc
  refine aa ha ⟨by omega, by omega, _, hc, aj (fun _ => ⟨_, hd rfl, kd, .inr ⟨no (X := True) (fun hh => by have := (re.1 hh).2; rw [Int.toNat_natCast, hu] at this; cases this), rfl⟩⟩) (fun g => by cases g)⟩
def ChP (A : Nat -> Addr) (w : World) (n0 N m : Nat) (r rd : Nat -> Nat) (f : Nat -> UnF) (us : Slc) (up : Nat -> Bool) (S' : Nat -> UnS) (w' : World) : Prop :=
 ∃ f' d', ChU A w' n0 N m r rd f' d' S' us up /\ FTo N r rd f f' w w'
theorem mV (h : ChU A w n0 N m r rd f d S us up) (hm : m <= 2 ^ 58) (n e a : Int) (first : Bool) (b : Slc) (t : List UInt8) (hb : Txt w (FB N r rd f) b t) :
  Calls Tryz.prog ey ⟨[us.v, .int .i64 n, .int .i64 e, .int .i64 a, .bool first, b.v]⟩ w fun x w' => x = .returned (cm A (putP N up first e a t n S).1) /\ ChP A w n0 N (m + 1) r rd f us up (putP N up first e a t n S).2 w' := by
 refine vT _ _ _ _ _ _ ?_
 unfold tK
 refine (oz h n).mono ?_
 rintro x w8 ⟨k8, ⟨hu, hi, rfl⟩ | ⟨hu, rfl⟩⟩
 rotate_left
 ·unfold putP
  rw [if_neg (by rw [hu]; decide)]
  exact ⟨_, _, rfl, aF A _, aj (fun _ => ⟨rfl, f, d, (h.ae k8).lift (by omega), FTo.ae k8⟩) (fun g => by cases g)⟩
 have h8 := h.ae k8
 have b8 := hb.ae k8
 obtain ⟨i, hin⟩ : ∃ i : Nat, n.toNat = i := ⟨_, rfl⟩
 unfold putP
 rw [if_pos hu, hin]
 rw [hin] at hi
 refine ⟨_, _, rfl, trivial, aj (fun g => by cases g) (fun _ => ?_)⟩
 refine (Cm A (h8.F.U i hi) h8.F.E (by omega) e a b t b8.tb b8.l (fun k hk hh => (b8.s k hk).2 ⟨i, hi, hh⟩)).mono ?_
 rintro x w12 ⟨e', rfl, hout⟩
 obtain ⟨rfl, f1, d1, hU1, hn1, hs1, uf⟩ := hout.live (h8.F.k i hi).2
 rw [(h8.F.k i hi).1] at hU1 ⊢
 obtain ⟨hF12, ft⟩ := h8.F.step hi hU1 (by omega) hn1 hs1 uf
 have h12 := h8.to hF12 ft
 have b12 := b8.to ft
 have ft0 : FTo N r rd f (bk f i f1) w w12 := (FTo.ae k8).trans ft
 generalize hp : writeP 2 (S i) e a t = p at hU1 hF12 h12 ⊢
 have hlt : ∀ j, p.1 = some j -> j < 19 := by rw [<- hp]; exact Ag
 refine ⟨_, rfl, fun w2 => ah w12 w2 /\ ¬ (first = true \/ p.1 ≠ some 8), aj (fun g => ?_) (fun g => ?_), ?_⟩
 ·rw [if_pos (.inl g)]
  exact ⟨rfl, _, _, h12, ft0⟩
 ·refine ⟨_, cP.at h12.F.E.1 8 (by omega), (uZ A p.1 hlt 8 (by omega) w12 h12.F.E.1).mono ?_⟩
  rintro x w17 ⟨rfl, rfl⟩
  refine ⟨_, rfl, aT (fun h1 => ?_) (fun h1 => ⟨Ext.refl _ _, fun hh => hh.elim (fun q => by rw [g] at q; cases q) (fun q => q h1)⟩)⟩
  rw [if_pos (.inr h1)]
  exact ⟨rfl, _, _, h12, ft0⟩
 rintro w19 ⟨k19, hno⟩
 intros
 rw [if_neg hno]
 have h19 := h12.ae k19
 have hU19 := h19.F.U i hi
 rw [aE, aE, aE] at hU19
 refine (yn A hU19.M e a (h19.F.E.g.sub qJ)).mono ?_
 rintro x w30 ⟨s31, rfl, ho, hf, k30⟩
 have kk := k19.trans k30
 have h30 := h12.ae kk
 have ft30 : FTo N r rd f (bk f i f1) w w30 := ft0.trans (FTo.ae kk)
 refine ⟨s31, _, rfl, aF A _, ?_⟩
 cases hr : readE p.2.tr p.2.ep (pgM p.2.U p.2.tr) e a with
 | some c => exact aj (fun _ => ⟨by simp [rdE, hr], _, _, h30, ft30⟩) (fun g => by cases g)
 | none =>
  refine aj (fun g => by cases g) (fun _ => ?_)
  rw [hr] at ho
  have hb30 := ho.bytes
  simp only [Option.isNone_none, if_true] at hb30
  have hpl : ((pgM p.2.U p.2.tr a).getD []).length <= 2 ^ 40 := by
   cases hg : pgM p.2.U p.2.tr a with
   | none => simp
   | some y =>
    obtain ⟨es, _, hlk⟩ := hU19.M.p.get
    cases hl : lookL f1.x.pl a with
    | none => have := (hU19.M.pv a).2 hl; rw [hg] at this; cases this
    | some sl => obtain ⟨y', e1, _, e2⟩ := (hU19.M.pv a).1 sl hl; rw [hg] at e1; cases e1; show y.length <= _; omega
  refine (zw s31 b _ t w30 hb30 (aG b12.tb kk) hpl).mono ?_
  rintro x w34 ⟨rfl, k34⟩
  have h34 := h30.ae k34
  have ft34 := ft30.trans (FTo.ae k34)
  refine ⟨_, rfl, aT (fun h1 => ⟨_, cP.at h34.F.E.1 16 (by omega), ?_⟩) (fun h1 => ?_)⟩
  ·simp only [rdE, hr, pgD]
   rw [if_neg h1]
   exact ⟨rfl, _, _, h34, ft34⟩
  ·simp only [rdE, hr, pgD]
   rw [if_pos h1]
   exact ⟨rfl, _, _, h34, ft34⟩
end
end Go.D
namespace Go.D
open Go Go.Proofs
theorem EF (x y : Int) (w : World) : Calls Tryz.prog iq ⟨[.int .i64 x, .int .i64 y]⟩ w fun e w' => e = .returned (.bool (decide (x < y))) /\ ah w w' := by
 have hnan : ∀ z w, Calls Tryz.prog cN ⟨[.int .i64 z]⟩ w fun e w' => e = .returned (.bool false) /\ w' = w := by
  intro z w
  refine nM _ ?_
  unfold np
  exact ⟨by simp, rfl⟩
 refine vX _ _ ?_
 unfold tO
 refine (hnan x w).mono ?_
 rintro e w4 ⟨rfl, rfl⟩
 exact ⟨_, rfl, aj (fun h => by cases h) (fun _ => ⟨rfl, Ext.refl _ _⟩)⟩
def sw (l : List Int) (j : Nat) : List Int := (l.set j (l.getD (j - 1) 0)).set (j - 1) (l.getD j 0)
theorem yJ (l : List Int) (j : Nat) : (sw l j).length = l.length := by simp [sw]
theorem yK {l : List Int} {j x : Nat} (hj : 0 < j) (hjl : j < l.length) (hx : x < l.length) : (sw l j)[x]'(by rw [yJ]; exact hx) = if x = j - 1 then l[j] else if x = j then l[j - 1]'(by omega) else l[x] := by
 have h1 : j - 1 < l.length := by omega
 simp only [sw, List.getElem_set, List.getD, List.getElem?_eq_getElem hjl, List.getElem?_eq_getElem h1, Option.getD_some]
 by_cases h2 : x = j - 1
 ·rw [if_pos h2.symm, if_pos h2]
 ·rw [if_neg (fun e => h2 e.symm), if_neg h2]
  by_cases h3 : x = j
  ·rw [if_pos h3.symm, if_pos h3]
  ·rw [if_neg (fun e => h3 e.symm), if_neg h3]
theorem G7 {l : List Int} {j : Nat} (hj : 0 < j) (hjl : j < l.length) : (sw l j).Perm l := by
 have h1 : j - 1 < l.length := by omega
 have e1 : l = l.take (j - 1) ++ (l[j - 1] :: l[j] :: l.drop (j + 1)) := by
  conv => lhs; rw [<- List.take_append_drop (j - 1) l]
  congr 1
  rw [List.drop_eq_getElem_cons h1]
  congr 1
  rw [show j - 1 + 1 = j by omega]
  exact List.drop_eq_getElem_cons hjl
 have e2 : sw l j = l.take (j - 1) ++ (l[j] :: l[j - 1] :: l.drop (j + 1)) := by
  apply List.ext_getElem
  ·rw [yJ]; simp; omega
  ·intro x hx hx'
   rw [yJ] at hx
   rw [yK hj hjl hx]
   rw [List.getElem_append]
   by_cases h2 : x < j - 1
   ·rw [if_neg (by omega), if_neg (by omega)]
    simp only [List.length_take]
    rw [dif_pos (by omega)]
    rw [List.getElem_take]
   ·simp only [List.length_take]
    rw [dif_neg (by omega)]
    have e3 : x - min (j - 1) l.length = x - (j - 1) := by omega
    simp only [e3]
    by_cases h3 : x = j - 1
    ·rw [if_pos h3]
     have : x - (j - 1) = 0 := by omega
     simp only [this, List.getElem_cons_zero]
    ·by_cases h4 : x = j
     ·rw [if_neg h3, if_pos h4]
      have : x - (j - 1) = 1 := by omega
      simp only [this, List.getElem_cons_succ, List.getElem_cons_zero]
     ·rw [if_neg h3, if_neg h4]
      obtain ⟨y, hy⟩ : ∃ y, x - (j - 1) = y + 2 := ⟨x - (j - 1) - 2, by omega⟩
      simp only [hy, List.getElem_cons_succ, List.getElem_drop]
      congr 1; omega
 rw [e2]
 conv => rhs; rw [e1]
 exact List.Perm.append_left _ (List.Perm.swap _ _ _)
def jr (l : List Int) (i : Nat) : Prop := ∀ x y (hx : x < l.length) (hy : y < l.length), x < y -> y < i -> l[x] <= l[y]
def Gg (l : List Int) (i j : Nat) : Prop := (∀ x y (hx : x < l.length) (hy : y < l.length), x < y -> y <= i -> x ≠ j -> y ≠ j -> l[x] <= l[y]) /\ ∀ y (hy : y < l.length) (hj : j < l.length), j < y -> y <= i -> l[j] <= l[y]
theorem Dn {l : List Int} {i : Nat} (h : jr l i) : Gg l i i := ⟨fun x y hx hy h1 h2 h3 h4 => h x y hx hy h1 (by omega), fun y hy hj h1 h2 => by omega⟩
theorem EG {l : List Int} {i j : Nat} (hj : 0 < j) (hjl : j < l.length) (hji : j <= i) (h : Gg l i j) (hlt : l[j] < l[j - 1]'(by omega)) : Gg (sw l j) i (j - 1) := by
 refine ⟨fun x y hx hy h1 h2 h3 h4 => ?_, fun y hy hj' h1 h2 => ?_⟩
 ·rw [yJ] at hx hy
  rw [yK hj hjl hx, yK hj hjl hy, if_neg h3, if_neg h4]
  by_cases h5 : x = j
  ·rw [if_pos h5, if_neg (by omega)]
   exact h.1 (j - 1) y (by omega) hy (by omega) h2 (by omega) (by omega)
  ·rw [if_neg h5]
   by_cases h6 : y = j
   ·rw [if_pos h6]
    exact h.1 x (j - 1) hx (by omega) (by omega) (by omega) h5 (by omega)
   ·rw [if_neg h6]
    exact h.1 x y hx hy h1 h2 h5 h6
 ·rw [yJ] at hy hj'
  rw [yK hj hjl hj', yK hj hjl hy, if_pos rfl, if_neg (by omega)]
  by_cases h6 : y = j
  ·rw [if_pos h6]; omega
  ·rw [if_neg h6]
   exact h.2 y hy hjl (by omega) h2
theorem Gh {l : List Int} {i j : Nat} (h : Gg l i j) (hij : j <= i) (hd : ∀ (h1 : j < l.length), 0 < j -> ¬ l[j] < l[j - 1]'(by omega)) : jr l (i + 1) := by
 intro x y hx hy h1 h2
 by_cases h3 : x = j
 ·subst h3; exact h.2 y hy hx h1 (by omega)
 ·by_cases h4 : y = j
  ·subst h4
   have h5 := hd hy (by omega)
   by_cases h6 : x = y - 1
   ·subst h6; omega
   ·have := h.1 x (y - 1) hx (by omega) (by omega) (by omega) h3 (by omega)
    omega
  ·exact h.1 x y hx hy h1 (by omega) h3 h4
theorem yL (s : Slc) (l : List Int) (w : World) (h : aB w s l) (hl : l.length <= 2 ^ 30) :
  Calls Tryz.prog bV ⟨[s.v, .int .i64 0, .int .i64 (l.length : Int)]⟩ w fun e w' => e = .returned (.tuple #[]) /\ ∃ l', l'.Perm l /\ jr l' l.length /\ aB w' s l' /\ Ext (ai s) w w' := by
 refine iJ _ _ _ ?_
 unfold eR
 refine ⟨ar (by omega), fun i w2 => ∃ (k : Nat) (l' : List Int), i = k /\ 1 <= k /\ (k <= l.length \/ k = 1) /\ l'.Perm l /\ jr l' k /\ aB w2 s l' /\ Ext (ai s) w w2, fun i _ => ((l.length : Int) - i).toNat,
  ⟨1, l, rfl, by omega, .inr rfl, List.Perm.refl _, fun x y hx hy h1 h2 => by omega, h, Ext.refl _ _⟩, ?_⟩
 rintro i w7 ⟨k, l', rfl, hk1, hk, hp, hs, h7, e7⟩
 intros
 have hpl := hp.length_eq
 refine af (fun h1 => ?_) (fun h1 => ?_)
 ·refine ⟨fun j w2 => ∃ (m : Nat) (l' : List Int), j = m /\ m <= k /\ l'.Perm l /\ Gg l' k m /\ aB w2 s l' /\ Ext (ai s) w w2, fun j _ => j.toNat, ⟨k, l', rfl, Nat.le_refl _, hp, Dn hs, h7, e7⟩, ?_⟩
  rintro j w51 ⟨m, l2, rfl, hm, hp2, hn, h51, e51⟩
  intros
  have hpl2 := hp2.length_eq
  have hsl := h51.sl
  have hd := h51.ae (Ext.drew _ w51)
  have ed : Ext (ai s) w w51.drew := e51.trans (Ext.drew _ _) (fun _ h => h) (fun _ h => .inl h)
  have out : ∀ w3, aB w3 s l2 -> Ext (ai s) w w3 -> (∀ (h1 : m < l2.length), 0 < m -> ¬ l2[m] < l2[m - 1]'(by omega)) -> inR .i64 ((k : Int) + 1) /\ (∃ (k' : Nat) (l' : List Int), ((k : Int) + 1) = k' /\ 1 <= k' /\ (k' <= l.length \/ k' = 1) /\ l'.Perm l /\ jr l' k' /\ aB w3 s l' /\ Ext (ai s) w w3) /\ ((l.length : Int) - ((k : Int) + 1)).toNat < ((l.length : Int) - (k : Int)).toNat :=
   fun w3 a1 a2 a3 => ⟨ar (by omega), ⟨k + 1, l2, rfl, by omega, .inl (by omega), hp2, Gh hn hm a3, a1, a2⟩, by omega⟩
  refine ⟨fun w3 => 0 < m /\ (∃ (h1 : m < l2.length), 0 < m /\ l2[m] < l2[m - 1]'(by omega)) /\ aB w3 s l2 /\ Ext (ai s) w w3, ?_, ?_⟩
  ·refine af (fun h2 => ?_) (fun h2 => out _ hd ed (fun _ hh => by omega))
   have hml : m < l2.length := by omega
   have hml1 : m - 1 < l2.length := by omega
   obtain ⟨a, ha, c1⟩ := hd.get hml
   obtain ⟨a', ha', c2⟩ := hd.get hml1
   rw [ha] at ha'
   cases ha'
   have e1 : Int.toNat ((m : Int) - 1) * 1 = (m - 1) * 1 := by omega
   refine aa ha ⟨by omega, by omega, _, by rw [show Int.toNat (m : Int) * 1 = m * 1 by omega]; exact c1, ar (by omega), aa ha ⟨by omega, by omega, _, by rw [e1]; exact c2, ?_⟩⟩
   refine (EF _ _ _).mono ?_
   rintro e w91 ⟨rfl, k91⟩
   have h91 := hd.ae k91
   have e91 : Ext (ai s) w w91 := ed.trans (k91.mono (fun _ h => h.elim)) (fun _ h => h) (fun _ h => .inl h)
   exact ⟨_, rfl, af (fun h3 => ⟨by omega, ⟨hml, by omega, h3⟩, h91, e91⟩) (fun h3 => out _ h91 e91 (fun _ _ => h3))⟩
  ·rintro w93 ⟨hm0, ⟨hml, _, hlt⟩, h93, e93⟩
   intros
   have h93d := h93.ae (Ext.drew _ w93)
   have hml1 : m - 1 < l2.length := by omega
   have e1 : Int.toNat ((m : Int) - 1) * 1 = (m - 1) * 1 := by omega
   have e2 : Int.toNat (m : Int) * 1 = m * 1 := by omega
   obtain ⟨a, ha, c1⟩ := h93d.get hml
   obtain ⟨a', ha', c2⟩ := h93d.get hml1
   rw [ha] at ha'
   cases ha'
   obtain ⟨cw1, g1⟩ := h93d.set hml l2[m - 1] ha
   refine ⟨ar (by omega), ar (by omega), aa ha ⟨by omega, by omega, _, by rw [e1]; exact c2, aa ha ⟨by omega, by omega, _, by rw [e2]; exact c1, aa ha ⟨by omega, by omega, by rw [e2]; exact cw1, fun w114 hw114 => ?_⟩⟩⟩⟩
   obtain ⟨h114, e114, z114⟩ := g1 w114 (by rw [hw114, e2])
   obtain ⟨cw2, g2⟩ := h114.set (i := m - 1) (by simp; omega) l2[m] ha
   refine aa ha ⟨by omega, by omega, by rw [e1]; exact cw2, fun w116 hw116 => ?_⟩
   obtain ⟨h116, e116, z116⟩ := g2 w116 (by rw [hw116, e1])
   have esw : (l2.set m l2[m - 1]).set (m - 1) l2[m] = sw l2 m := by
    simp [sw, List.getD, hml, hml1]
   rw [esw] at h116
   refine ⟨ar (by omega), ⟨m - 1, sw l2 m, by omega, by omega, (G7 hm0 hml).trans hp2, EG hm0 hml hm hn hlt, h116, ?_⟩, by dsimp only; omega⟩
   exact ((e93.trans (Ext.drew (ai s) _) (fun _ h => h) (fun _ h => .inl h)).trans e114 (fun _ h => h) (fun _ h => .inl h)).trans e116 (fun _ h => h) (fun _ h => .inl h)
 ·refine ⟨rfl, l', hp, fun x y hx hy a1 a2 => hs x y hx hy a1 (by omega), h7, e7⟩
set_option maxRecDepth 100000 in
theorem Gi (n : Nat) (hn : n <= 200) (w : World) : Calls Tryz.prog jG ⟨[.int .u64 (n : Int)]⟩ w fun e w' => ∃ k : Int, e = .returned (.int .i64 k) /\ w' = w := by
 have h64 : Calls Tryz.prog iG ⟨[.int .u64 (n : Int)]⟩ w fun e w' => ∃ k : Int, e = .returned (.int .i64 k) /\ w' = w := by
  refine sj _ ?_
  unfold pM
  refine ⟨fun x m w2 => x = n /\ m = 0 /\ w2 = w, af (fun h => by omega) (fun _ => ⟨rfl, rfl, rfl⟩), ?_⟩
  rintro x m w2 ⟨rfl, rfl, rfl⟩
  intros
  refine ⟨fun x m w3 => x = n /\ m = 0 /\ w3 = w2, af (fun h => by omega) (fun _ => ⟨rfl, rfl, rfl⟩), ?_⟩
  rintro x m w3 ⟨rfl, rfl, rfl⟩
  intros
  refine af (fun h => by omega) (fun _ => ?_)
  have hw : IntKind.wrap .u8 (n : Int) = n := fR (Ir (by omega))
  rw [hw]
  have hb : ∀ u : UInt8, (u.toNat : Int) < 256 := fun u => by have := u.toNat_lt; omega
  refine ⟨by omega, ?_, ar ?_, ar ?_, _, rfl, rfl⟩
  ·have e : ∀ (l : List UInt8), l.length = 256 -> (n : Int) < ((l.length : Nat) : Int) := fun l hl => by rw [hl]; omega
   exact e _ rfl
  ·constructor
   ·exact Int.le_trans (by decide) (Int.natCast_nonneg _)
   ·exact Int.le_trans (Int.le_of_lt (hb _)) (by decide)
  ·rw [Int.zero_add]; constructor
   ·exact Int.le_trans (by decide) (Int.natCast_nonneg _)
   ·exact Int.le_trans (Int.le_of_lt (hb _)) (by decide)
 refine uL _ ?_
 unfold rE
 refine h64.mono ?_
 rintro e w' ⟨k, rfl, rfl⟩
 exact ⟨k, rfl, k, rfl, rfl⟩
theorem EH (s : Slc) (l : List Int) (w : World) (h : aB w s l) (hl : l.length <= 12) :
  Calls Tryz.prog iy ⟨[s.v]⟩ w fun e w' => e = .returned (.tuple #[]) /\ ∃ l', l'.Perm l /\ jr l' l.length /\ aB w' s l' /\ Ext (ai s) w w' := by
 have hsl := h.sl
 refine sh _ ?_
 unfold pL
 have hw : IntKind.wrap .u64 ((s.l : Nat) : Int) = s.l := fR (Hz (by omega))
 rw [hw]
 refine (Gi s.l (by omega) w).mono ?_
 rintro e w3 ⟨k, rfl, rfl⟩
 refine ⟨k, rfl, ?_⟩
 have hp : Calls Tryz.prog bq ⟨[s.v, .int .i64 0, .int .i64 ((s.l : Nat) : Int), .int .i64 k]⟩ w3 fun e w' => e = .returned (.tuple #[]) /\ ∃ l', l'.Perm l /\ jr l' l.length /\ aB w' s l' /\ Ext (ai s) w3 w' := by
  refine kx _ _ _ _ ?_
  unfold gW
  refine ⟨fun a b _ _ _ w2 => a = 0 /\ b = l.length /\ w2 = w3, fun _ _ _ _ _ _ => 0, ⟨rfl, by rw [hsl], rfl⟩, ?_⟩
  rintro a b lim x1 x2 w12 ⟨rfl, rfl, rfl⟩
  intros
  refine ⟨ar (by omega), af (fun _ => ?_) (fun hh => by omega)⟩
  refine (yL s l w12 h (by omega)).mono ?_
  rintro e w138 ⟨rfl, hm⟩
  exact ⟨rfl, rfl, hm⟩
 refine hp.mono ?_
 rintro e w6 ⟨rfl, hm⟩
 exact ⟨rfl, rfl, hm⟩
end Go.D
namespace Go.D
open Go Go.Proofs
theorem aB.cut {w : World} {s : Slc} {l : List Int} (h : aB w s l) {j : Nat} (hj : j <= l.length) {K : World -> Prop} (hK : ∀ w', aB w' ⟨s.p, j, s.c⟩ (l.take j) -> Ext (ai s) w w' -> w'.heap.size = w.heap.size -> K w') :
  ly [.int .i64 0] w (Slc.sub s 1 j s.l s.c) fun w' => K w' := by
 have hsl := h.sl
 have hcap := h.cap
 obtain ⟨h1, ⟨hp, h2, h3⟩ | ⟨b, pad, T, f, hp, hb, h4, h5⟩⟩ := h.own
 ·rw [jm] at h2
  have hl0 : l = [] := by simpa using h2
  subst hl0
  have hj0 : j = 0 := by simpa using hj
  subst hj0
  have e1 : Slc.sub s 1 0 s.l s.c = ⟨none, 0, 0⟩ := by
   unfold Slc.sub
   have e2 : s.l = 0 := by simpa using hsl
   rw [hp, h3, e2]; simp
  rw [e1]
  rintro w1 rfl
  refine hK w1 ?_ (Ext.refl _ _) rfl
  have : (⟨s.p, 0, s.c⟩ : Slc) = ⟨none, 0, 0⟩ := by rw [hp, h3]
  rw [this]
  exact aB.nil _
 ·rw [jm] at hb h4 h5
  have e1 : ∃ o, Slc.sub s 1 j s.l s.c = ⟨some ⟨b, o, none⟩, s.l - j, s.c - j⟩ /\ (j < s.c -> o = j) := by
   unfold Slc.sub
   rw [hp]
   by_cases hjc : s.c = j
   ·rw [if_pos hjc]; exact ⟨0, rfl, fun hh => by omega⟩
   ·rw [if_neg hjc]; exact ⟨j, by simp [add_lit], fun _ => rfl⟩
  obtain ⟨o, e1, ho⟩ := e1
  rw [e1]
  have hlp : (l.map (fun x => Value.int .i64 x) ++ pad).length = s.c := by rw [h4]; simp [vY]
  have hpl : l.length + pad.length = s.c := by rw [<- hlp]; simp
  have go : ∀ w1 : World, w1.heap[b]? = some (.cells ⟨(l.take j).map (fun x => Value.int .i64 x) ++ (bI (s.l - j) [.int .i64 0] ++ pad)⟩ T f) -> Ext (ai s) w w1 -> w1.heap.size = w.heap.size -> K w1 := by
   intro w1 hb1 he hz
   refine hK w1 ⟨⟨?_, .inr ⟨b, bI (s.l - j) [.int .i64 0] ++ pad, T, f, hp, by rw [jm]; exact hb1, ?_, ?_⟩⟩, by simp, fun i hi hi' => by simp [vY], fun k hk => (oq hk).elim⟩ he hz
   ·rw [jm]; simp [vY]; omega
   ·rw [jm]; simp [vY, cW]; omega
   ·rw [jm]
    have : ((l.take j).map (fun x => Value.int .i64 x) ++ (bI (s.l - j) [Value.int .i64 0] ++ pad)).length = (l.map (fun x => Value.int .i64 x) ++ pad).length := by simp [cW]; omega
    rw [this]; exact h5
  by_cases hjl : j = l.length
  ·have e2 : s.l - j = 0 := by omega
   rw [e2]
   refine ⟨fun i hi => by simp at hi, ?_⟩
   rintro w1 rfl
   refine go w1 ?_ (Ext.refl _ _) rfl
   rw [e2, hjl, List.take_length]
   exact hb
  ·have hoj : o = j := ho (by omega)
   subst hoj
   refine ⟨iX hb h5 _ _ (by rw [hlp]; simp; omega), ?_⟩
   rintro w1 rfl
   have hh := cS (bI (s.l - o) [.int .i64 0]) w _ o 0 hb
   have e3 : l.map (fun x => Value.int .i64 x) ++ pad = (l.take o).map (fun x => Value.int .i64 x) ++ ((l.drop o).map (fun x => Value.int .i64 x) ++ pad) := by
    rw [<- List.append_assoc, <- List.map_append, List.take_append_drop]
   have e4 : o + 0 = ((l.take o).map fun x => Value.int .i64 x).length := by simp; omega
   rw [e3, e4, eC _ _ _ (by simp [cW]; omega), List.drop_append_of_le_length (by simp [cW]; omega), List.drop_of_length_le (by simp [cW]; omega), List.nil_append, List.append_assoc] at hh
   exact go _ hh (Ext.setCells (M := ai s) (a := (⟨b, o, none⟩ : Addr)) ⟨_, hp, rfl⟩ _ 0 w) (hH _ _ _ _)
end Go.D
namespace Go.D
open Go Go.Proofs
def Chs (w : World) (s : Slc) (cs : List (List Int)) : Prop :=
 s.l = cs.length /\ ∀ i (h : i < cs.length), ∃ (a : Addr) (sl : Slc), s.p = some a /\ World.cell? w (Addr.add a (i * 1)) = some (Slc.v sl) /\ dk w sl cs[i] /\ sl.l <= sl.c
theorem Chs.ae {w w' : World} {s : Slc} {cs : List (List Int)} (h : Chs w s cs) (k : ah w w') : Chs w' s cs :=
 ⟨h.1, fun i hi => let ⟨a, sl, h1, h2, h3, h4⟩ := h.2 i hi; ⟨a, sl, h1, k.cell h2, da h3 k, h4⟩⟩
theorem Chs.of {w : World} {s : Slc} {xs : List (Slc × List Int)} (h : zL Rd.ints w s xs) : Chs w s (xs.map (·.2)) := by
 refine ⟨by rw [h.1, List.length_map], fun i hi => ?_⟩
 have hi2 : i < xs.length := by simpa using hi
 obtain ⟨a, cs, ha, hc, hrow⟩ := h.2.2.2 i hi2
 obtain ⟨rfl, h1, h2, h3, h4⟩ := hc
 refine ⟨a, xs[i].1, ha, ?_, by rw [List.getElem_map]; exact h1, h3⟩
 have := hrow.1
 have e : (a.add (i * Rd.ints.n)).add 0 = a.add (i * 1) := by simp [Addr.add, Rd.ints]
 rw [e] at this
 exact this
theorem uz (u : Int) (w : World) : Calls Tryz.prog db ⟨[.int .i64 u]⟩ w fun e w' => e = .returned (.bool (decide (u < 0 \/ 12 <= u))) /\ w' = w := by
 refine qE _ ?_
 unfold mJ
 refine af (fun h => ⟨by rw [decide_eq_true (.inl h)], rfl⟩) (fun h => ⟨?_, rfl⟩)
 by_cases h2 : (12 : Int) <= u
 ·rw [decide_eq_true h2, decide_eq_true (.inr h2)]
 ·rw [decide_eq_false h2, decide_eq_false (by omega)]
def rf (c : List Int) : Prop := ∀ u ∈ c, 0 <= u /\ u < 12
theorem oB (s : Slc) (c : List Int) (w : World) (h : dk w s c) (hl : c.length <= 2 ^ 40) :
  Calls Tryz.prog bj ⟨[s.v, .func (.func db) ⟨[]⟩ ⟨[]⟩]⟩ w fun e w' => ∃ b, e = .returned (.bool b) /\ (b = false ↔ rf c) /\ w' = w := by
 have hsl := h.1
 have hi : Calls Tryz.prog bY ⟨[s.v, .func (.func db) ⟨[]⟩ ⟨[]⟩]⟩ w fun e w' => ∃ i : Int, e = .returned (.int .i64 i) /\ (i < 0 ↔ rf c) /\ w' = w := by
  refine fU _ ?_
  unfold dc
  refine ⟨fun i w2 => w2 = w /\ ∃ k : Nat, i = k /\ k <= c.length /\ rf (c.take k), fun i _ => ((c.length : Int) - i).toNat, ⟨rfl, 0, rfl, by omega, by intro u hu; simp at hu⟩, ?_⟩
  rintro i w2 ⟨rfl, k, rfl, hk, hno⟩
  intros
  refine af (fun h1 => ?_) (fun h1 => ?_)
  ·have hkl : k < c.length := by omega
   obtain ⟨a, ha, hc⟩ := fq h hkl
   refine aa ha ⟨by omega, h1, c[k], by rw [show Int.toNat (k : Int) * 1 = k by omega]; exact hc, ?_⟩
   refine (uz c[k] w2).mono ?_
   rintro e w21 ⟨rfl, rfl⟩
   refine ⟨_, rfl, af (fun h2 => ⟨_, rfl, ⟨fun hh => by omega, fun hh => by have := hh _ (List.getElem_mem hkl); omega⟩, rfl⟩) (fun h2 => ?_)⟩
   refine ⟨ar (by omega), ⟨rfl, k + 1, rfl, hkl, fun u hu => ?_⟩, by dsimp only; omega⟩
   have e5 : c.take (k + 1) = c.take k ++ [c[k]] := by rw [List.take_add_one, List.getElem?_eq_getElem hkl]; rfl
   rw [e5, List.mem_append, List.mem_singleton] at hu
   rcases hu with h6 | rfl
   ·exact hno u h6
   ·omega
  ·rw [List.take_of_length_le (by omega)] at hno
   exact ⟨_, rfl, ⟨fun _ => hno, fun _ => by decide⟩, rfl⟩
 refine fi _ ?_
 unfold cH
 refine hi.mono ?_
 rintro e w' ⟨i, rfl, hv, rfl⟩
 refine ⟨i, rfl, _, rfl, ⟨fun hh => hv.1 (by simpa using hh), fun hh => by have := hv.2 hh; simp; omega⟩, rfl⟩
def ln (c : List Int) : Prop := 1 <= c.length /\ c.length <= 3 /\ rf c
theorem wj (s : Slc) (c : List Int) (w : World) (h : dk w s c) :
  Calls Tryz.prog ix ⟨[s.v]⟩ w fun e w' => ∃ b, e = .returned (.bool b) /\ (b = true ↔ ln c) /\ w' = w := by
 have hsl := h.1
 refine sg _ ?_
 unfold pK
 refine af (fun h1 => af (fun h2 => ?_) (fun h2 => ⟨_, rfl, ⟨fun hh => (by cases hh), fun hh => by have := hh.2.1; omega⟩, rfl⟩)) (fun h1 => ⟨_, rfl, ⟨fun hh => (by cases hh), fun hh => by have := hh.1; omega⟩, rfl⟩)
 refine (oB s c w h (by omega)).mono ?_
 rintro e w' ⟨b, rfl, hb, rfl⟩
 refine ⟨b, rfl, _, rfl, ⟨fun hh => ⟨by omega, by omega, hb.1 (by simpa using hh)⟩, fun hh => by rw [hb.2 hh.2.2]; rfl⟩, rfl⟩
theorem nA (s : Slc) (cs : List (List Int)) (w : World) (h : Chs w s cs) (hl : cs.length <= 2 ^ 40) :
  Calls Tryz.prog dE ⟨[s.v, .func (.func fS) ⟨[]⟩ ⟨[]⟩]⟩ w fun e w' => ∃ b, e = .returned (.bool b) /\ (b = false ↔ ∀ c ∈ cs, ln c) /\ w' = w := by
 have hsl := h.1
 have hi : Calls Tryz.prog eG ⟨[s.v, .func (.func fS) ⟨[]⟩ ⟨[]⟩]⟩ w fun e w' => ∃ i : Int, e = .returned (.int .i64 i) /\ (i < 0 ↔ ∀ c ∈ cs, ln c) /\ w' = w := by
  refine gO _ ?_
  unfold dY
  refine ⟨fun i w2 => w2 = w /\ ∃ k : Nat, i = k /\ k <= cs.length /\ ∀ c ∈ cs.take k, ln c, fun i _ => ((cs.length : Int) - i).toNat, ⟨rfl, 0, rfl, by omega, by intro u hu; simp at hu⟩, ?_⟩
  rintro i w2 ⟨rfl, k, rfl, hk, hno⟩
  intros
  refine af (fun h1 => ?_) (fun h1 => ?_)
  ·have hkl : k < cs.length := by omega
   obtain ⟨a, sl, ha, hc, hint, _⟩ := h.2 k hkl
   refine aa ha ⟨by omega, h1, sl, by rw [show Int.toNat (k : Int) * 1 = k * 1 by omega]; exact hc, ?_⟩
   have hr1 : Calls Tryz.prog fS ⟨[sl.v]⟩ w2 fun e w' => ∃ b, e = .returned (.bool b) /\ (b = false ↔ ln cs[k]) /\ w' = w2 := by
    refine vV _ ?_
    unfold tM
    refine (wj sl cs[k] w2 hint).mono ?_
    rintro e w3 ⟨b, rfl, hb, rfl⟩
    exact ⟨b, rfl, _, rfl, ⟨fun hh => hb.1 (by simpa using hh), fun hh => by rw [hb.2 hh]; rfl⟩, rfl⟩
   refine hr1.mono ?_
   rintro e w21 ⟨b, rfl, hb, rfl⟩
   refine ⟨b, rfl, aj (fun h2 => ⟨_, rfl, ⟨fun hh => by omega, fun hh => by have := hb.2 (hh _ (List.getElem_mem hkl)); rw [h2] at this; cases this⟩, rfl⟩) (fun h2 => ?_)⟩
   refine ⟨ar (by omega), ⟨rfl, k + 1, rfl, hkl, fun u hu => ?_⟩, by dsimp only; omega⟩
   have e5 : cs.take (k + 1) = cs.take k ++ [cs[k]] := by rw [List.take_add_one, List.getElem?_eq_getElem hkl]; rfl
   rw [e5, List.mem_append, List.mem_singleton] at hu
   rcases hu with h6 | rfl
   ·exact hno u h6
   ·exact hb.1 h2
  ·rw [List.take_of_length_le (by omega)] at hno
   exact ⟨_, rfl, ⟨fun _ => hno, fun _ => by decide⟩, rfl⟩
 refine fZ _ ?_
 unfold dj
 refine hi.mono ?_
 rintro e w' ⟨i, rfl, hv, rfl⟩
 refine ⟨i, rfl, _, rfl, ⟨fun hh => hv.1 (by simpa using hh), fun hh => by have := hv.2 hh; simp; omega⟩, rfl⟩
theorem Ic (c : Nat) : Slc.sub (⟨none, 0, 0⟩ : Slc) 1 0 c c = ⟨none, c, c⟩ := by
 unfold Slc.sub; split <;> simp
theorem EI (n : Nat) (hn : n <= 1000) (w : World) :
  Calls Tryz.prog iA ⟨[Slc.v ⟨none, 0, 0⟩, .int .i64 (n : Int)]⟩ w fun e w' => ∃ t : Slc, e = .returned t.v /\ aB w' t [] /\ ah w w' /\ ∀ k, ai t k -> w.heap.size <= k := by
 refine sf _ _ ?_
 unfold pJ
 refine ⟨fun w2 => w2 = w, af (fun h => by omega) (fun _ => rfl), ?_⟩
 rintro w4 rfl
 intros
 dsimp only
 refine ⟨ar (by omega), ar (by omega), af (fun h => ?_) (fun h => ⟨_, rfl, aB.nil _, Ext.refl _ _, by rintro k ⟨a, ha, _⟩; cases ha⟩)⟩
 refine ⟨by omega, by omega, by omega, by omega, ?_⟩
 rw [Ic]
 have en : Int.toNat ((n : Int) - (((0 : Nat) : Int) - ((0 : Nat) : Int))) = n := by omega
 refine ⟨by omega, by simp only [en]; omega, [], rfl, .inl rfl, fun _ a ha => (by cases ha), fun s9 w10 hA => ?_⟩
 rw [en] at hA
 rcases hA with ⟨hf, _⟩ | ⟨hg, cap, hc, rfl, rfl⟩
 ·simp only at hf; omega
 simp only [Nat.zero_add] at hc ⊢
 have hb : (w4.drew.alloc (.cells ⟨[] ++ bI n [.int .i64 0] ++ bI (cap - n) [.int .i64 0]⟩ 3)).heap[w4.heap.size]? = some (.cells ⟨bI n [.int .i64 0] ++ bI (cap - n) [.int .i64 0]⟩ 3) := lA w4.drew _
 refine ⟨by omega, by omega, by omega, by omega, ?_⟩
 have e1 : Slc.sub (⟨some ⟨w4.heap.size, 0, none⟩, n, cap⟩ : Slc) 1 0 0 cap = ⟨some ⟨w4.heap.size, 0, none⟩, 0, cap⟩ := by
  unfold Slc.sub; split <;> simp [Addr.add]
 rw [e1]
 refine ⟨_, rfl, ⟨⟨rfl, .inr ⟨_, bI n [.int .i64 0] ++ bI (cap - n) [.int .i64 0], 3, (0, 0), rfl, hb, ?_, Ax _⟩⟩, rfl, fun i h => by simp at h, fun k hk => (oq (l := []) hk).elim⟩, (Ext.drew fp w4).trans (Ext.alloc _ _ _) (fun _ h => h) (fun _ h => .inl h), by rintro k ⟨a, ha, rfl⟩; cases ha; exact Nat.le_refl _⟩
 simp [cW, vY]; omega
theorem aB.app {E : TypeId} {z : List Value} {w : World} {s sl : Slc} {l c : List Int} {K : Slc -> World -> Prop} (h : aB w s l) (hz : z.length = 1) (hc : dk w sl c) (hlen : l.length + c.length <= 2 ^ 30)
  (hK : ∀ s' w', aB w' s' (l ++ c) -> Ext (ai s) w w' -> (∀ k, ai s' k -> ai s k \/ w.heap.size <= k) -> K s' w') : ak 1 E z w s (.slc sl) K := by
 have hsl := h.sl
 have hcl := hc.1
 have ho := h.own
 rw [jm] at ho
 have hone : ∀ v ∈ c.map (fun x => Value.int .i64 x), v.oneCell' = true := by
  intro v hv
  obtain ⟨x, _, rfl⟩ := List.mem_map.1 hv
  rfl
 refine cX ho (by decide) hz (iO hc.2 (by simp [hcl])) hone (by simp only [Src.n]; omega) (fun s' w' q1 q2 q3 q4 => hK s' w' ⟨?_, by simp, fun i hi hi' => by rw [List.getElem_map]; rfl, fun k hk => (oq hk).elim⟩ q2 q3)
 rw [jm, List.map_append]
 exact q1
theorem pq (cs : List (List Int)) (k : Nat) (hk : k < cs.length) : (cs.take (k + 1)).flatten = (cs.take k).flatten ++ cs[k] := by
 have e5 : cs.take (k + 1) = cs.take k ++ [cs[k]] := by rw [List.take_add_one, List.getElem?_eq_getElem hk]; rfl
 rw [e5, List.flatten_append]; simp
theorem Ct (cs : List (List Int)) (k : Nat) : (cs.take k).flatten.length <= cs.flatten.length := by
 conv => rhs; rw [<- List.take_append_drop k cs]
 rw [List.flatten_append, List.length_append]; omega
theorem Cu (s : Slc) (cs : List (List Int)) (w : World) (h : Chs w s cs) (hl : cs.flatten.length <= 1000) (hcl : cs.length <= 2 ^ 40) :
  Calls Tryz.prog gn ⟨[s.v]⟩ w fun e w' => ∃ t : Slc, e = .returned t.v /\ aB w' t cs.flatten /\ ah w w' /\ ∀ k, ai t k -> w.heap.size <= k := by
 have hsl := h.1
 refine qD _ ?_
 unfold mI
 refine ⟨fun n i w2 => w2 = w /\ ∃ k : Nat, i = k /\ k <= cs.length /\ n = ((cs.take k).flatten.length : Nat), fun _ i _ => ((cs.length : Int) - i).toNat, ⟨rfl, 0, rfl, by omega, by simp⟩, ?_⟩
 rintro n i w6 ⟨rfl, k, rfl, hk, rfl⟩
 intros
 refine af (fun h1 => ?_) (fun h1 => ?_)
 ·have hkl : k < cs.length := by omega
  obtain ⟨a, sl, ha, hc, hint, _⟩ := h.2 k hkl
  have hil := hint.1
  have h3 := pq cs k hkl
  have h4 := Ct cs (k + 1)
  rw [h3, List.length_append] at h4
  refine aa ha ⟨by omega, h1, sl, by rw [show Int.toNat (k : Int) * 1 = k * 1 by omega]; exact hc, ar (by omega), af (fun h2 => by omega) (fun _ => ⟨ar (by omega), ⟨rfl, k + 1, rfl, hkl, ?_⟩, by dsimp only; omega⟩)⟩
  rw [h3, List.length_append]; omega
 ·obtain rfl : k = cs.length := by omega
  rw [List.take_length]
  refine (EI _ hl w6).mono ?_
  rintro e w22 ⟨t, rfl, ht, k22, ft⟩
  refine ⟨t, rfl, fun t i w2 => ∃ k : Nat, i = k /\ k <= cs.length /\ aB w2 t (cs.take k).flatten /\ ah w6 w2 /\ ∀ k, ai t k -> w6.heap.size <= k, fun _ i _ => ((cs.length : Int) - i).toNat, ⟨0, rfl, by omega, ht, k22, ft⟩, ?_⟩
  rintro t2 i w28 ⟨k, rfl, hk, ht2, k28, ft2⟩
  intros
  refine af (fun h1 => ?_) (fun h1 => ?_)
  ·have hkl : k < cs.length := by omega
   obtain ⟨a, sl, ha, hc, hint, _⟩ := (h.ae k28).2 k hkl
   have h3 := pq cs k hkl
   have h4 := Ct cs (k + 1)
   rw [h3, List.length_append] at h4
   refine aa ha ⟨by omega, h1, sl, by rw [show Int.toNat (k : Int) * 1 = k * 1 by omega]; exact hc, ht2.app rfl hint (by omega) (fun s' w' g1 g2 g3 => ?_)⟩
   have z28 := k28.size
   exact ⟨ar (by omega), ⟨k + 1, rfl, hkl, by rw [h3]; exact g1, k28.ext g2 ft2, fun x hx => (g3 x hx).elim (ft2 x) (fun h => by omega)⟩, by dsimp only; omega⟩
  ·obtain rfl : k = cs.length := by omega
   rw [List.take_length] at ht2
   exact ⟨t2, rfl, ht2, k28, ft2⟩
theorem Gj (ep : Int) (s : Slc) (cs : List (List Int)) (w : World) (h : Chs w s cs) (hl : cs.flatten.length <= 12) (hcl : cs.length <= 2 ^ 40) :
  Calls Tryz.prog qj ⟨[.agg ⟨[.int .i64 ep, s.v]⟩]⟩ w fun e w' => ∃ (t : Slc) (l : List Int), e = .returned t.v /\ l.Perm cs.flatten /\ jr l l.length /\ aB w' t l /\ ah w w' /\ ∀ k, ai t k -> w.heap.size <= k := by
 refine BQ _ _ ?_
 unfold BP
 refine ao (fun r3 w4 hr3 hb3 k4 hs4 => ?_)
 refine ⟨s, (aq.eS hb3).cell 1 (by simp), ?_⟩
 refine (Cu s cs w4 (h.ae k4) (by omega) hcl).mono ?_
 rintro e w7 ⟨t, rfl, ht, k7, ft⟩
 refine ⟨t, rfl, (EH t _ w7 ht hl).mono ?_⟩
 rintro e w10 ⟨rfl, l', hp, hs, hi, he⟩
 have z4 := k4.size
 have ft' : ∀ k, ai t k -> w.heap.size <= k := fun k hk => by have := ft k hk; omega
 exact ⟨rfl, t, l', rfl, hp, by rw [hp.length_eq]; exact hs, hi, (k4.trans k7).ext he ft', ft'⟩
theorem vL (s : Slc) (l : List Int) (w : World) (h : dk w s l) (hl : l.length <= 2 ^ 30) :
  Calls Tryz.prog eX ⟨[s.v]⟩ w fun e w' => ∃ t : Slc, e = .returned t.v /\ aB w' t l /\ ah w w' /\ ∀ k, ai t k -> w.heap.size <= k := by
 refine rp _ ?_
 unfold nP
 refine aj (fun h1 => ?_) (fun h1 => ?_)
 ·have hp : s.p = none := by simpa using h1
  have hb0 : l = [] := by
   rcases h.2 with h0 | ⟨a, ha, _⟩
   ·simpa using h0
   ·rw [hp] at ha; cases ha
  subst hb0
  exact ⟨_, rfl, aB.nil _, Ext.refl _ _, by rintro k ⟨a, ha, _⟩; cases ha⟩
 ·refine ao (fun r2 w3 hr2 hb2 k3 hs3 => ?_)
  refine (aB.new hb2).app rfl (da h k3) (by simp; omega) (fun s' w' g1 g2 g3 => ⟨s', rfl, by simpa using g1, k3.ext g2 (fun k hk => ?_), fun k hk => ?_⟩)
  ·obtain ⟨a, ha, rfl⟩ := hk; cases ha; show w.heap.size <= r2; omega
  ·have := k3.size
   rcases g3 k hk with h2 | h2
   ·obtain ⟨a, ha, rfl⟩ := h2; cases ha; show w.heap.size <= r2; omega
   ·omega
def DQ (l : List Int) : Prop := ∀ j (h : j < l.length), 0 < j -> l[j] ≠ l[j - 1]'(by omega)
theorem A1 (s : Slc) (l : List Int) (w : World) (h : aB w s l) (hl : l.length <= 2 ^ 30) :
  Calls Tryz.prog fW ⟨[s.v]⟩ w fun e w' => ∃ t : Slc, e = .returned t.v /\ (t.l = l.length ↔ DQ l) /\ Ext (ai s) w w' := by
 have hsl := h.sl
 have hcap := h.cap
 refine pW _ ?_
 unfold lQ
 refine af (fun h1 => ⟨s, rfl, ⟨fun _ j hj h0 => by omega, fun _ => hsl⟩, Ext.refl _ _⟩) (fun h1 => ?_)
 refine ⟨fun k w2 => ∃ m : Nat, k = m /\ 1 <= m /\ m <= l.length /\ (∀ j (h : j < l.length), 0 < j -> j < m -> l[j] ≠ l[j - 1]'(by omega)) /\ ah w w2, fun k _ => ((l.length : Int) - k).toNat, ⟨1, rfl, by omega, by omega, fun j _ _ _ => by omega, Ext.refl _ _⟩, ?_⟩
 rintro k w5 ⟨m, rfl, hm1, hml, hno, k5⟩
 intros
 refine af (fun h2 => ?_) (fun h2 => ⟨s, rfl, ⟨fun _ j hj h0 => hno j hj h0 (by omega), fun _ => hsl⟩, k5.mono (fun _ h => h.elim)⟩)
 have hm : m < l.length := by omega
 have kd := k5.drew
 have hd := h.ae kd
 have hm1' : m - 1 < l.length := by omega
 obtain ⟨a, ha, c1⟩ := hd.get hm
 obtain ⟨a', ha', c2⟩ := hd.get hm1'
 rw [ha] at ha'
 cases ha'
 have e1 : Int.toNat ((m : Int) - 1) * 1 = (m - 1) * 1 := by omega
 have e2 : Int.toNat (m : Int) * 1 = m * 1 := by omega
 refine aa ha ⟨by omega, by omega, _, by rw [e2]; exact c1, ar (by omega), aa ha ⟨by omega, by omega, _, by rw [e1]; exact c2, af (fun h3 => ?_) (fun h3 => ?_)⟩⟩
 ·-- the second loop
  have hsp : a.spot = none := by
   obtain ⟨_, ⟨hp, _⟩ | ⟨b, pad, T, f, hp, _⟩⟩ := h.own
   ·rw [hp] at ha; cases ha
   ·rw [hp] at ha; cases ha; rfl
  rw [show Int.toNat (m : Int) = m by omega]
  have es : Slc.sub s 1 m s.l s.c = ⟨some (a.add (m * 1)), s.l - m, s.c - m⟩ := by
   unfold Slc.sub
   rw [if_neg (by omega), ha]; rfl
  rw [es]
  dsimp only
  refine ⟨by omega, by omega, by omega, by omega, fun k i w2 => ∃ (x y : Nat) (l2 : List Int), k = x /\ i = y /\ 1 <= y /\ x + 1 <= m + y /\ y <= l.length - m /\ l2.length = l.length /\ aB w2 s l2 /\ Ext (ai s) w w2, fun _ i _ => ((l.length : Int) - m - i).toNat,
   ⟨m, 1, l, rfl, rfl, by omega, by omega, by omega, rfl, hd, kd.mono (fun _ h => h.elim)⟩, ?_⟩
  rintro k i w68 ⟨x, y, l2, rfl, rfl, hy1, hxy, hy, hl2, h68, e68⟩
  intros
  have h68d := h68.ae (Ext.drew _ w68)
  have e68d : Ext (ai s) w w68.drew := e68.trans (Ext.drew _ _) (fun _ h => h) (fun _ h => .inl h)
  refine af (fun h4 => ?_) (fun h4 => ?_)
  ·have i1 : m + y < l2.length := by omega
   have i2 : m + (y - 1) < l2.length := by omega
   have at_ : ∀ j (hj : m + j < l2.length), World.cell? w68.drew (Addr.add (a.add (m * 1)) (j * 1)) = some (.int .i64 l2[m + j]) := by
    intro j hj
    obtain ⟨a', ha', c⟩ := h68d.get hj
    rw [ha] at ha'
    cases ha'
    rw [tc a (m * 1) (j * 1) hsp, show m * 1 + j * 1 = (m + j) * 1 by omega]
    exact c
   have next : ∀ (x' : Nat) (l3 : List Int) (w3 : World), x' <= x + 1 -> l3.length = l.length -> aB w3 s l3 -> Ext (ai s) w w3 -> inR .i64 ((y : Int) + 1) /\ (∃ (x2 y2 : Nat) (l2 : List Int), (x' : Int) = x2 /\ ((y : Int) + 1) = y2 /\ 1 <= y2 /\ x2 + 1 <= m + y2 /\ y2 <= l.length - m /\ l2.length = l.length /\ aB w3 s l2 /\ Ext (ai s) w w3) /\ ((l.length : Int) - m - ((y : Int) + 1)).toNat < ((l.length : Int) - m - (y : Int)).toNat :=
    fun x' l3 w3 b1 b2 b3 b4 => ⟨ar (by omega), ⟨x', y + 1, l3, rfl, by omega, by omega, by omega, by omega, b2, b3, b4⟩, by omega⟩
   have f1 : Int.toNat ((y : Int) - 1) * 1 = (y - 1) * 1 := by omega
   have f2 : Int.toNat (y : Int) * 1 = y * 1 := by omega
   refine aa rfl ⟨by omega, by omega, _, by rw [f2]; exact at_ y i1, ar (by omega), aa rfl ⟨by omega, by omega, _, by rw [f1]; exact at_ (y - 1) i2, aT (fun h5 => ?_) (fun h5 => next x l2 _ (by omega) hl2 h68d e68d)⟩⟩
   have hx : x < l2.length := by omega
   obtain ⟨cw, g⟩ := h68d.set hx l2[m + y] ha
   have f3 : Int.toNat (x : Int) * 1 = x * 1 := by omega
   refine aa rfl ⟨by omega, by omega, _, by rw [f2]; exact at_ y i1, aa ha ⟨by omega, by omega, by rw [f3]; exact cw, fun w101 hw => ?_⟩⟩
   obtain ⟨g1, g2, g3⟩ := g w101 (by rw [hw, f3])
   exact ⟨ar (by omega), next (x + 1) _ w101 (by omega) (by simp [hl2]) g1 (e68d.trans g2 (fun _ h => h) (fun _ h => .inl h))⟩
  ·refine ⟨by omega, by omega, by omega, by omega, ?_⟩
   rw [show Int.toNat (x : Int) = x by omega]
   refine h68.cut (by omega) (fun w' g1 g2 g3 => ⟨by omega, by omega, by omega, by omega, _, rfl, ⟨fun hh => ?_, fun hh => absurd h3 (hh m hm (by omega))⟩, e68.trans g2 (fun _ h => h) (fun _ h => .inl h)⟩)
   simp only [Slc.sub] at hh
   omega
 ·refine ⟨ar (by omega), ⟨m + 1, rfl, by omega, by omega, fun j hj h0 hjm => ?_, kd⟩, by dsimp only; omega⟩
  by_cases hjm2 : j = m
  ·subst hjm2; exact h3
  ·exact hno j hj h0 (by omega)
end Go.D
namespace Go.D
open Go Go.Proofs
def bo (ep : Int) (cs : List (List Int)) : Prop := (0 <= ep /\ ep <= 1073741824) /\ (1 <= cs.length /\ cs.length <= 3) /\ (∀ c ∈ cs, ln c) /\ cs.flatten.Nodup
theorem A2 (m : Nat) : ∀ (cs : List (List Int)), (∀ c ∈ cs, c.length <= m) -> cs.flatten.length <= cs.length * m
 | [], _ => by simp
 | c :: cs, h => by
  have h1 := A2 m cs (fun d hd => h d (by simp [hd]))
  have h2 := h c (by simp)
  rw [List.flatten_cons, List.length_append, List.length_cons, Nat.add_mul]; omega
theorem zx {l : List Int} (h : jr l l.length) : DQ l ↔ l.Nodup := by
 constructor
 ·intro hn
  rw [List.nodup_iff_pairwise_ne, List.pairwise_iff_getElem]
  intro i j hi hj hij he
  have h1 := h i (j - 1) hi (by omega)
  have h2 := h (j - 1) j (by omega) hj (by omega) (by omega)
  have h3 : l[i] <= l[j - 1]'(by omega) := by
   by_cases e : i = j - 1
   ·subst e; exact Int.le_refl _
   ·exact h i (j - 1) hi (by omega) (by omega) (by omega)
  have h4 := hn j hj (by omega)
  omega
 ·intro hn j hj h0 he
  rw [List.nodup_iff_pairwise_ne, List.pairwise_iff_getElem] at hn
  exact hn (j - 1) j (by omega) hj (by omega) he.symm
theorem jP (ep : Int) (s : Slc) (cs : List (List Int)) (w : World) (h : Chs w s cs) (hcl : cs.length <= 2 ^ 40) :
  Calls Tryz.prog dJ ⟨[.agg ⟨[.int .i64 ep, s.v]⟩]⟩ w fun e w' => ∃ b, e = .returned (.bool b) /\ (b = true ↔ bo ep cs) /\ ah w w' := by
 have hsl := h.1
 refine zh _ _ ?_
 unfold xK
 refine ao (fun r3 w4 hr3 hb3 k4 hs4 => ?_)
 have o4 := aq.eS hb3
 have no : ∀ w', ah w w' -> ¬ bo ep cs -> ∃ b, Ending.returned (Value.bool false) = .returned (.bool b) /\ (b = true ↔ bo ep cs) /\ ah w w' := fun w' k hn => ⟨false, rfl, ⟨fun hh => (by cases hh), fun hh => absurd hh hn⟩, k⟩
 refine ⟨fun w' => w' = w4 /\ (0 <= ep /\ ep <= 1073741824) /\ (1 <= cs.length /\ cs.length <= 3), ?_, ?_⟩
 ·refine ⟨ep, o4.cell 0 (by simp), af (fun h1 => no _ k4 (fun hh => by have := hh.1; omega)) (fun h1 => ?_)⟩
  refine ⟨ep, o4.cell 0 (by simp), af (fun h2 => no _ k4 (fun hh => by have := hh.1; omega)) (fun h2 => ?_)⟩
  refine ⟨s, o4.cell 1 (by simp), af (fun h3 => no _ k4 (fun hh => by have := hh.2.1; omega)) (fun h3 => ?_)⟩
  exact ⟨s, o4.cell 1 (by simp), af (fun h4 => no _ k4 (fun hh => by have := hh.2.1; omega)) (fun h4 => ⟨rfl, by omega, by omega⟩)⟩
 rintro w10 ⟨rfl, hep, hlen⟩
 intros
 have h4 := h.ae k4
 refine ⟨s, o4.cell 1 (by simp), (nA s cs w10 h4 hcl).mono ?_⟩
 rintro e w34 ⟨b, rfl, hb, rfl⟩
 refine ⟨b, rfl, aj (fun h1 => no _ k4 (fun hh => by have := hb.2 hh.2.2.1; rw [h1] at this; cases this)) (fun h1 => ?_)⟩
 have hch := hb.1 h1
 have hfl : cs.flatten.length <= 9 := by
  have := A2 3 cs (fun c hc => (hch c hc).2.1)
  omega
 refine ⟨ep, s, o4.row, (Gj ep s cs w34 h4 (by omega) hcl).mono ?_⟩
 rintro e w39 ⟨t, l, rfl, hp, hs, ht, k39, ft⟩
 have hpl := hp.length_eq
 have htl := ht.sl
 refine ⟨t, rfl, (vL t l w39 ht.ints (by omega)).mono ?_⟩
 rintro e w42 ⟨t2, rfl, ht2, k42, ft2⟩
 refine ⟨t2, rfl, (A1 t2 l w42 ht2 (by omega)).mono ?_⟩
 rintro e w45 ⟨t3, rfl, h3, e45⟩
 have z4 := k4.size
 have z39 := k39.size
 refine ⟨t3, rfl, _, rfl, ?_, ((k4.trans k39).trans k42).ext e45 (fun k hk => by have := ft2 k hk; omega)⟩
 have e1 : (decide (((t3.l : Nat) : Int) = ((t.l : Nat) : Int)) = true) ↔ t3.l = l.length := by rw [htl, decide_eq_true_iff]; omega
 rw [e1, h3, zx hs, hp.nodup_iff]
 exact ⟨fun hh => ⟨hep, hlen, hch, hh⟩, fun hh => hh.2.2.2⟩
end Go.D
namespace Go.D
open Go Go.Proofs
def plG : List Nat := [aH, aD]
theorem Dp (A : Nat -> Addr) (n0 : Nat) (ep : Int) (s : Slc) (cs : List (List Int)) (a : Int) (w : World) (h : Chs w s cs) (hcl : cs.length <= 2 ^ 40) (hE : bK plG A n0 w) :
    Calls Tryz.prog ni ⟨[.agg ⟨[.int .i64 ep, s.v]⟩, .int .i64 a]⟩ w fun e w' => ah w w' /\
      ((¬ bo ep cs /\ e = .returned (.tuple ⟨[.int .i64 0, .int .i64 0, mj A (gw.getD 3 0)]⟩)) \/
       (bo ep cs /\ ¬ (0 <= a /\ a < 4096) /\ e = .returned (.tuple ⟨[.int .i64 0, .int .i64 0, mj A (gw.getD 0 0)]⟩)) \/
       (bo ep cs /\ (0 <= a /\ a < 4096) /\ e = .returned (.tuple ⟨[.int .i64 (a % (cs.length : Int)), .int .i64 (a / (cs.length : Int)), .nilIface]⟩))) := by
  have hsl := h.1
  refine zi _ _ _ ?_
  unfold xL
  refine ao (fun r3 w4 hr3 hb3 k4 hs4 => ?_)
  have o4 := aq.eS hb3
  refine ⟨ep, s, o4.row, (jP ep s cs w4 (h.ae k4) hcl).mono ?_⟩
  rintro e w8 ⟨b, rfl, hb, k8'⟩
  have k8 := k4.trans k8'
  have kd := k8.drew
  refine ⟨b, rfl, aj (fun h1 => ?_) (fun h1 => ?_)⟩
  · have hn : ¬ bo ep cs := fun hh => by rw [hb.2 hh] at h1; cases h1
    exact ⟨_, eb (hE.ae kd) 3 _ rfl (by simp [plG]), kd, .inl ⟨hn, rfl⟩⟩
  · have hr : bo ep cs := hb.1 (by simpa using h1)
    refine af (fun h2 => ⟨_, eb (hE.ae kd) 0 _ rfl (by simp [plG]), kd, .inr (.inl ⟨hr, by omega, rfl⟩)⟩) (fun h2 => ?_)
    refine af (fun h3 => ⟨_, eb (hE.ae kd) 0 _ rfl (by simp [plG]), kd, .inr (.inl ⟨hr, by omega, rfl⟩)⟩) (fun h3 => ?_)
    have h5 := hr.2.1
    refine ⟨s, (o4.ae k8').cell 1 (by simp), by omega, by omega, by omega, by omega, ar (by omega), kd, .inr (.inr ⟨hr, by omega, ?_⟩)⟩
    rw [hsl]
theorem A3 (ep : Int) (s : Slc) (cs : List (List Int)) (c at_ : Int) (w : World) (h : Chs w s cs) (hcl : cs.length <= 2 ^ 40) :
  Calls Tryz.prog kj ⟨[.agg ⟨[.int .i64 ep, s.v]⟩, .int .i64 c, .int .i64 at_]⟩ w fun e w' => ah w w' /\ ∃ r : Int, e = .returned (.int .i64 r) /\
   (bo ep cs /\ (0 <= c /\ c < cs.length) /\ (0 <= at_ /\ at_ <= 4096) -> r = at_ * (cs.length : Int) + c) /\ (¬ (bo ep cs /\ (0 <= c /\ c < cs.length) /\ (0 <= at_ /\ at_ <= 4096)) -> r = -1) := by
 have hsl := h.1
 refine vW _ _ _ _ ?_
 unfold tN
 refine ao (fun r3 w4 hr3 hb3 k4 hs4 => ?_)
 have o4 := aq.eS hb3
 refine ⟨ep, s, o4.row, (jP ep s cs w4 (h.ae k4) hcl).mono ?_⟩
 rintro e w8 ⟨b, rfl, hb, k8'⟩
 have k8 := k4.trans k8'
 have no : ¬ (bo ep cs /\ (0 <= c /\ c < cs.length) /\ (0 <= at_ /\ at_ <= 4096)) -> ah w w8 /\ ∃ r : Int, Ending.returned (Value.int .i64 (-1)) = .returned (.int .i64 r) /\
   (bo ep cs /\ (0 <= c /\ c < cs.length) /\ (0 <= at_ /\ at_ <= 4096) -> r = at_ * (cs.length : Int) + c) /\ (¬ (bo ep cs /\ (0 <= c /\ c < cs.length) /\ (0 <= at_ /\ at_ <= 4096)) -> r = -1) := fun hn => ⟨k8, -1, rfl, fun hh => absurd hh hn, fun _ => rfl⟩
 have o8 := o4.ae k8'
 refine ⟨b, rfl, aj (fun h1 => no (fun hh => by rw [hb.2 hh.1] at h1; cases h1)) (fun h1 => ?_)⟩
 have hr : bo ep cs := hb.1 (by simpa using h1)
 have h5 := hr.2.1
 refine af (fun h2 => no (fun hh => by have := hh.2.1; omega)) (fun h2 => ⟨s, o8.cell 1 (by simp), af (fun h3 => no (fun hh => by have := hh.2.1; omega)) (fun h3 => ?_)⟩)
 refine af (fun h4 => no (fun hh => by have := hh.2.2; omega)) (fun h4 => af (fun h6 => no (fun hh => by have := hh.2.2; omega)) (fun h6 => ?_))
 have hm : at_ * ((s.l : Nat) : Int) <= 4096 * 3 := by
  refine Int.le_trans (Int.mul_le_mul_of_nonneg_right (show at_ <= 4096 by omega) (by omega)) ?_
  omega
 have hm0 : 0 <= at_ * ((s.l : Nat) : Int) := Int.mul_nonneg (by omega) (by omega)
 exact ⟨s, o8.cell 1 (by simp), ar (by omega), ar (by omega), k8, _, rfl, fun _ => by rw [hsl], fun hh => absurd ⟨hr, ⟨by omega, by omega⟩, by omega, by omega⟩ hh⟩
def stepT (n c : Nat) (out t : Int) : Int :=
 if 0 < t then (if out < ((if 4096 < t then 4096 else t) - 1) * (n : Int) + c + 1 then ((if 4096 < t then 4096 else t) - 1) * (n : Int) + c + 1 else out) else out
def tl (n : Nat) (ts : List Int) : Nat -> Int
 | 0 => 0
 | c + 1 => stepT n c (tl n ts c) (ts.getD c 0)
theorem Gk (n : Nat) (hn : n <= 3) (ts : List Int) (k : Nat) (hk : k <= 3) : 0 <= tl n ts k /\ tl n ts k <= 20000 := by
 induction k with
 | zero => simp [tl]
 | succ k ih =>
  have ih := ih (by omega)
  rw [tl, stepT]
  generalize hT : (if 4096 < ts.getD k 0 then 4096 else ts.getD k 0) = T
  have hT2 : T <= 4096 /\ (0 < ts.getD k 0 -> 0 < T) := by
   rw [<- hT]
   constructor
   ·split <;> omega
   ·intro h; split <;> omega
  by_cases h0 : 0 < ts.getD k 0
  ·rw [if_pos h0]
   have h1 : 0 <= (T - 1) * (n : Int) := Int.mul_nonneg (by have := hT2.2 h0; omega) (by omega)
   have h2 : (T - 1) * (n : Int) <= 4096 * 3 := by
    refine Int.le_trans (Int.mul_le_mul_of_nonneg_right (show T - 1 <= (4096 : Int) by omega) (by omega)) ?_
    omega
   by_cases h3 : tl n ts k < (T - 1) * (n : Int) + k + 1
   ·rw [if_pos h3]; omega
   ·rw [if_neg h3]; exact ih
  ·rw [if_neg h0]; exact ih
theorem EJ (ep : Int) (s ts : Slc) (cs : List (List Int)) (l : List Int) (w : World) (h : Chs w s cs) (hcl : cs.length <= 2 ^ 40) (ht : dk w ts l) (htc : ts.l <= ts.c) (hll : l.length <= 1000) :
  Calls Tryz.prog oM ⟨[.agg ⟨[.int .i64 ep, s.v]⟩, ts.v]⟩ w fun e w' => ah w w' /\ ∃ r : Int, e = .returned (.int .i64 r) /\ (¬ bo ep cs -> r = 0) /\ (bo ep cs -> r = tl cs.length l (min cs.length l.length)) := by
 have hsl := h.1
 have htl := ht.1
 refine AJ _ _ _ ?_
 unfold zW
 refine ao (fun r3 w4 hr3 hb3 k4 hs4 => ?_)
 have o4 := aq.eS hb3
 refine ⟨ep, s, o4.row, (jP ep s cs w4 (h.ae k4) hcl).mono ?_⟩
 rintro e w8 ⟨b, rfl, hb, k8'⟩
 have k8 := k4.trans k8'
 have o8 := o4.ae k8'
 refine ⟨b, rfl, aj (fun h1 => ⟨k8, 0, rfl, fun _ => rfl, fun hh => by rw [hb.2 hh] at h1; cases h1⟩) (fun h1 => ?_)⟩
 have hr : bo ep cs := hb.1 (by simpa using h1)
 have h5 := hr.2.1
 have em : (if ((s.l : Nat) : Int) < ((ts.l : Nat) : Int) then ((s.l : Nat) : Int) else ((ts.l : Nat) : Int)) = ((min cs.length l.length : Nat) : Int) := by split <;> omega
 refine ⟨s, o8.cell 1 (by simp), by omega, by rw [em]; omega, by rw [em]; omega, by omega, ?_⟩
 rw [em, show Int.toNat ((min cs.length l.length : Nat) : Int) = min cs.length l.length by omega]
 generalize hmm : min cs.length l.length = mm
 have hm3 : mm <= 3 := by omega
 have hms : mm <= l.length := by omega
 have hsub := xq ht (lo := 0) (hi := mm) (c := ts.c) (by omega) hms (by omega)
 rw [List.drop_zero] at hsub
 have hsubl : (Slc.sub ts 1 0 mm ts.c).l = mm := by simp [Slc.sub]
 refine ⟨fun out i w2 => ∃ k : Nat, i = k /\ k <= mm /\ out = tl cs.length l k /\ ah w w2 /\ aq w2 r3 [.int .i64 ep, s.v], fun _ i _ => ((mm : Int) - i).toNat, ⟨0, rfl, by omega, rfl, k8, o8⟩, ?_⟩
 rintro out i w17 ⟨k, rfl, hk, rfl, k17, o17⟩
 intros
 refine af (fun h2 => ?_) (fun h2 => ?_)
 ·rw [hsubl] at h2
  have hkm : k < mm := by omega
  obtain ⟨a, ha, hc⟩ := fq (da hsub k17) (i := k) (by simp; omega)
  have e1 : (l.take mm)[k]'(by simp; omega) = l.getD k 0 := by simp [List.getD, show k < l.length by omega]
  rw [e1] at hc
  have hbd := Gk cs.length (by omega) l k (by omega)
  have hbd2 := Gk cs.length (by omega) l (k + 1) (by omega)
  refine aa ha ⟨by omega, by rw [hsubl]; omega, _, by rw [show Int.toNat (k : Int) * 1 = k by omega]; exact hc, af (fun h3 => ?_) (fun h3 => ?_)⟩
  ·refine ⟨ep, s, o17.row, ar (by split <;> omega), ?_⟩
   refine (A3 ep s cs k _ w17 (h.ae k17) hcl).mono ?_
   rintro e w41 ⟨k41, r, rfl, hr1, _⟩
   have hre := hr1 ⟨hr, by omega, by split <;> omega⟩
   have e2 : (if (r + 1) > tl cs.length l k then r + 1 else tl cs.length l k) = tl cs.length l (k + 1) := by
    rw [tl, stepT, if_pos h3, hre]
   have hrb : -1 <= r /\ r <= 100000 := by
    have h6 : 0 <= ((if 4096 < l.getD k 0 then 4096 else l.getD k 0) - 1) * (cs.length : Int) := Int.mul_nonneg (by split <;> omega) (by omega)
    have h7 : ((if 4096 < l.getD k 0 then 4096 else l.getD k 0) - 1) * (cs.length : Int) <= 4096 * 3 := by
     refine Int.le_trans (Int.mul_le_mul_of_nonneg_right (show _ <= (4096 : Int) by split <;> omega) (by omega)) ?_
     omega
    omega
   exact ⟨r, rfl, ar (by omega), ar (by omega), ⟨k + 1, rfl, by omega, e2, k17.trans k41, o17.ae k41⟩, by dsimp only; omega⟩
  ·refine ⟨ar (by omega), ⟨k + 1, rfl, by omega, by rw [tl, stepT, if_neg h3], k17, o17⟩, by dsimp only; omega⟩
 ·rw [hsubl] at h2
  obtain rfl : k = mm := by omega
  exact ⟨k17, _, rfl, fun hh => absurd hr hh, fun _ => rfl⟩
end Go.D
namespace Go.D
open Go Go.Proofs
theorem uA {w : World} {a : Addr} {k : Nat} {v : Value} (h : w.cell? (a.add k) = some v) : a.block < w.heap.size := by
 have := World.block_lt_of_cell? w _ h
 rwa [ew] at this
structure gQ (w : World) (F : Nat -> Prop) (s : Slc) (c : List Int) : Prop where
 i : dk w s c
 cap : s.l <= s.c
 ne : 0 < c.length
 f : ∀ k, ai s k -> ¬ F k
structure PlF (w : World) (F : Nat -> Prop) (s : Slc) (cs : List (List Int)) : Prop where
 l : s.l = cs.length
 row : ∀ i (h : i < cs.length), ∃ (a : Addr) (sl : Slc), s.p = some a /\ World.cell? w (a.add (i * 1)) = some sl.v /\ dk w sl cs[i] /\ sl.l <= sl.c /\ ¬ F a.block /\ (0 < cs[i].length -> ∀ k, ai sl k -> ¬ F k)
section
variable {A : Nat -> Addr} {w w' : World} {n0 N m m' : Nat} {r rd : Nat -> Nat} {f f' f'' : Nat -> UnF} {d d' : Nat -> aK} {S S' : Nat -> UnS} {us : Slc} {up : Nat -> Bool} {s sc : Slc} {cs : List (List Int)} {c : List Int}
theorem kg (h : dk w s c) (hc : 0 < c.length) : ∀ k, ai s k -> k < w.heap.size := by
 rintro k ⟨a, ha, rfl⟩
 obtain ⟨a', ha', hcell⟩ := fq h hc
 rw [ha] at ha'; cases ha'
 exact uA hcell
theorem gQ.to (h : gQ w (FB N r rd f) s c) (ht : FTo N r rd f f' w w') : gQ w' (FB N r rd f') s c :=
 ⟨oJ h.i ht.1 h.f, h.cap, h.ne, fun k hk hh => (ht.2.1 k hh).elim (h.f k hk) (fun g => by have := kg h.i h.ne k hk; omega)⟩
theorem gQ.ae {F : Nat -> Prop} (h : gQ w F s c) (hk : ah w w') : gQ w' F s c := ⟨da h.i hk, h.cap, h.ne, h.f⟩
theorem PlF.chs {F : Nat -> Prop} (h : PlF w F s cs) : Chs w s cs := ⟨h.l, fun i hi => by
 obtain ⟨a, sl, h1, h2, h3, h4, _⟩ := h.row i hi
 exact ⟨a, sl, h1, h2, h3, h4⟩⟩
theorem PlF.ae {F : Nat -> Prop} (h : PlF w F s cs) (hk : ah w w') : PlF w' F s cs := ⟨h.l, fun i hi => by
 obtain ⟨a, sl, h1, h2, h3, h4, h5, h6⟩ := h.row i hi
 exact ⟨a, sl, h1, hk.cell h2, da h3 hk, h4, h5, h6⟩⟩
theorem A4 {M : Nat -> Prop} (h : dk w s c) (he : Ext M w w') (hm : 0 < c.length -> ∀ k, ai s k -> ¬ M k) : dk w' s c := by
 rcases Nat.eq_zero_or_pos c.length with h0 | h0
 ·have : c = [] := List.length_eq_zero_iff.1 h0
  subst this
  exact ⟨h.1, .inl rfl⟩
 ·exact oJ h he (hm h0)
theorem PlF.ext {F M : Nat -> Prop} {F' : Nat -> Prop} (h : PlF w F s cs) (he : Ext M w w') (hm : ∀ k, M k -> F k) (hf : ∀ k, F' k -> F k \/ w.heap.size <= k) : PlF w' F' s cs := ⟨h.l, fun i hi => by
 obtain ⟨a, sl, h1, h2, h3, h4, h5, h6⟩ := h.row i hi
 refine ⟨a, sl, h1, he.cell h2 (fun hh => h5 (hm _ (by rw [ew] at hh; exact hh))), A4 h3 he (fun h0 k hk hh => h6 h0 k hk (hm k hh)), h4, fun hh => (hf _ hh).elim h5 (fun g => by have := uA h2; omega), fun h0 k hk hh => (hf k hh).elim (h6 h0 k hk) (fun g => by have := kg h3 h0 k hk; omega)⟩⟩
theorem PlF.to (h : PlF w (FB N r rd f) s cs) (ht : FTo N r rd f f' w w') : PlF w' (FB N r rd f') s cs := h.ext ht.1 (fun _ h => h) ht.2.1
theorem PlF.old {w0 : World} (h : Chs w0 s cs) (hk : ah w0 w) {F : Nat -> Prop} (hF : ∀ k, F k -> w0.heap.size <= k) : PlF w F s cs := ⟨h.1, fun i hi => by
 obtain ⟨a, sl, h1, h2, h3, h4⟩ := h.2 i hi
 exact ⟨a, sl, h1, hk.cell h2, da h3 hk, h4, fun hh => by have := hF _ hh; have := uA h2; omega, fun h0 k hk hh => by have := hF _ hh; have := kg h3 h0 k hk; omega⟩⟩
theorem PlF.at {F : Nat -> Prop} (h : PlF w F s cs) {i : Nat} (hi : i < cs.length) (hne : 0 < cs[i].length) : ∃ (a : Addr) (sl : Slc), s.p = some a /\ World.cell? w (a.add (i * 1)) = some sl.v /\ gQ w F sl cs[i] := by
 obtain ⟨a, sl, h1, h2, h3, h4, h5, h6⟩ := h.row i hi
 exact ⟨a, sl, h1, h2, h3, h4, hne, h6 hne⟩
instance Ie (ep : Int) (cs : List (List Int)) : Decidable (bo ep cs) := by unfold bo ln rf; infer_instance
def plE (ep : Int) (cs : List (List Int)) (a : Int) : Option Nat := if ¬ bo ep cs then some 3 else if ¬ (0 <= a /\ a < 4096) then some 0 else none
def iM (cs : List (List Int)) (a : Int) : List Int := cs.getD (a % (cs.length : Int)).toNat []
theorem HJ {ep : Int} {a : Int} (h : plE ep cs a = none) : bo ep cs /\ 0 <= a /\ a < 4096 := by
 unfold plE at h
 by_cases h1 : bo ep cs
 ·rw [if_neg (by simpa using h1)] at h
  by_cases h2 : 0 <= a /\ a < 4096
  ·exact ⟨h1, h2⟩
  ·rw [if_pos h2] at h; cases h
 ·rw [if_pos h1] at h; cases h
theorem A5 {ep : Int} {a : Int} : ∀ j, plE ep cs a = some j -> j < 19 := by
 intro j hj
 unfold plE at hj
 split at hj
 ·cases hj; omega
 ·split at hj
  ·cases hj; omega
  ·cases hj
theorem A6 {ep : Int} (h : bo ep cs) {a : Int} : ∃ i, ∃ hi : i < cs.length, (a % (cs.length : Int)).toNat = i /\ iM cs a = cs[i] /\ ln cs[i] /\ a % (cs.length : Int) = i := by
 have h2 := h.2.1
 have h3 := Int.emod_nonneg a (show (cs.length : Int) ≠ 0 by omega)
 have h4 := Int.emod_lt_of_pos a (show (0 : Int) < cs.length by omega)
 refine ⟨(a % (cs.length : Int)).toNat, by omega, rfl, ?_, h.2.2.1 _ (List.getElem_mem _), by omega⟩
 unfold iM
 rw [List.getD_eq_getElem?_getD, List.getElem?_eq_getElem (by omega), Option.getD_some]
theorem pr {F : Nat -> Prop} (ep : Int) (a : Int) (h : PlF w F s cs) (hcl : cs.length <= 2 ^ 40) (hE : dL A n0 w) :
  Calls Tryz.prog ff ⟨[.agg ⟨[.int .i64 ep, s.v]⟩, .int .i64 a]⟩ w fun e w' => ah w w' /\ ((∃ j, plE ep cs a = some j /\ e = .returned (.tuple ⟨[(⟨none, 0, 0⟩ : Slc).v, .int .i64 0, cm A (some j)]⟩)) \/
   (plE ep cs a = none /\ ∃ sc : Slc, e = .returned (.tuple ⟨[sc.v, .int .i64 (a / (cs.length : Int)), .nilIface]⟩) /\ gQ w' F sc (iM cs a))) := by
 refine xC _ _ _ ?_
 unfold vp
 refine ao (fun r4 w5 hr4 hb4 k4 hs4 => ?_)
 have o4 := aq.eS hb4
 refine ⟨ep, s, o4.row, (Dp A n0 ep s cs a w5 (h.ae k4).chs hcl ((hE.ae k4).g.sub (by decide))).mono ?_⟩
 rintro e w9 ⟨k9, hcase⟩
 have kk := k4.trans k9
 have o9 := o4.ae k9
 rcases hcase with ⟨hn, rfl⟩ | ⟨hr, hn, rfl⟩ | ⟨hr, ha, rfl⟩
 ·exact ⟨_, _, _, rfl, trivial, aj (fun _ => ⟨kk, .inl ⟨3, by unfold plE; rw [if_pos hn], rfl⟩⟩) (fun g => by cases g)⟩
 ·exact ⟨_, _, _, rfl, trivial, aj (fun _ => ⟨kk, .inl ⟨0, by unfold plE; rw [if_neg (by simpa using hr), if_pos hn], rfl⟩⟩) (fun g => by cases g)⟩
 ·obtain ⟨i, hi, e1, e2, hok, e3⟩ := A6 hr (a := a)
  obtain ⟨a14, sl, ha14, hcell, hI⟩ := (h.ae kk).at hi hok.1
  have hl := h.l
  refine ⟨_, _, _, rfl, trivial, aj (fun g => by cases g) (fun _ => ⟨s, o9.cell 1 (by simp), aa ha14 ⟨by omega, by omega, sl, by rw [e1]; exact hcell, kk, .inr ⟨?_, sl, rfl, by rw [e2]; exact hI⟩⟩⟩)⟩
  unfold plE
  rw [if_neg (by simpa using hr), if_neg (by simpa using ha)]
theorem gQ.cell {F : Nat -> Prop} (h : gQ w F s c) {i : Nat} (hi : i < c.length) : ∃ a, s.p = some a /\ w.cell? (a.add (i * 1)) = some (.int .i64 c[i]) := by
 obtain ⟨a, ha, hc⟩ := fq h.i hi
 exact ⟨a, ha, by rw [Nat.mul_one]; exact hc⟩
theorem gQ.sl {F : Nat -> Prop} (h : gQ w F s c) : s.l = c.length := h.i.1
theorem add_zero' (a : Addr) : a.add 0 = a := by simp [Addr.add]
theorem gQ.first {F : Nat -> Prop} (h : gQ w F s c) : ∃ a, s.p = some a /\ w.cell? a = some (.int .i64 (c.getD 0 0)) := by
 obtain ⟨a, ha, hc⟩ := h.cell h.ne
 refine ⟨a, ha, ?_⟩
 rw [Nat.zero_mul, add_zero'] at hc
 rw [hc, List.getD_eq_getElem?_getD, List.getElem?_eq_getElem h.ne, Option.getD_some]
def zy (A : Nat -> Addr) (w : World) (n0 N m : Nat) (r rd : Nat -> Nat) (f : Nat -> UnF) (us : Slc) (up : Nat -> Bool) (p : Option Nat × (Nat -> UnS)) (x : Ending) (w' : World) : Prop :=
 x = .returned (cm A p.1) /\ ChP A w n0 N m r rd f us up p.2 w'
theorem ChP.from (ht : FTo N r rd f f' w w') {w'' : World} (h : ChP A w' n0 N m r rd f' us up S w'') : ChP A w n0 N m r rd f us up S w'' := by
 obtain ⟨f2, d2, h1, h2⟩ := h
 exact ⟨f2, d2, h1, ht.trans h2⟩
theorem u9 (e a : Int) (t : List UInt8) (n : Int) (l : List Int) : othP N up e a t (n :: l) S = if (putP N up false e a t n S).1 = none then othP N up e a t l (putP N up false e a t n S).2 else putP N up false e a t n S := rfl
theorem mW (h : ChU A w n0 N m r rd f d S us up) (hm : m <= 2 ^ 57) (e a : Int) (hc : gQ w (FB N r rd f) sc c) (hl : c.length <= 3) (b : Slc) (t : List UInt8) (hb : Txt w (FB N r rd f) b t) :
  Calls Tryz.prog bS ⟨[us.v, .int .i64 e, sc.v, .int .i64 a, b.v]⟩ w fun x w' => zy A w n0 N (m + 3) r rd f us up (othP N up e a t c.tail S) x w' := by
 refine vU _ _ _ _ _ ?_
 unfold tL
 have hsl := hc.sl
 have hne := hc.ne
 have hcap := hc.cap
 refine af (fun h1 => by omega) (fun _ => ⟨by omega, by omega, by omega, by omega, ?_⟩)
 have sub_l : (Slc.sub sc 1 1 sc.l sc.c).l = c.length - 1 := by simp [Slc.sub]; omega
 refine ⟨fun i w2 => ∃ (j : Nat) (f2 : Nat -> UnF) (d2 : Nat -> aK) (S2 : Nat -> UnS), i = j /\ j + 1 <= c.length /\ ChU A w2 n0 N (m + j) r rd f2 d2 S2 us up /\ FTo N r rd f f2 w w2 /\ othP N up e a t c.tail S = othP N up e a t (c.drop (j + 1)) S2, fun i _ => ((c.length : Int) - i).toNat,
  ⟨0, f, d, S, rfl, by omega, h, FTo.refl, by rw [List.drop_one]⟩, ?_⟩
 rintro i w10 ⟨j, f2, d2, S2, rfl, hj, h10, ft, heq⟩
 intros
 rw [sub_l]
 refine af (fun h1 => ?_) (fun h1 => ?_)
 ·have hj2 : j + 1 < c.length := by omega
  have hcw := hc.to ft
  obtain ⟨a27, ha27, hcell⟩ := fq (xq hcw.i (lo := 1) (hi := sc.l) (c := sc.c) (by omega) (by omega) (by omega)) (i := j) (by simp; omega)
  have hget : ((c.take sc.l).drop 1)[j]'(by simp; omega) = c[j + 1] := by simp [Nat.add_comm]
  rw [hget] at hcell
  refine aa ha27 ⟨by omega, by omega, _, by rw [Int.toNat_natCast, Nat.mul_one]; exact hcell, ?_⟩
  refine (mV h10 (by omega) c[j + 1] e a false b t (hb.to ft)).mono ?_
  rintro x w30 ⟨rfl, f3, d3, h30, ft3⟩
  have hd : c.drop (j + 1) = c[j + 1] :: c.drop (j + 2) := List.drop_eq_getElem_cons hj2
  rw [hd, u9] at heq
  refine ⟨_, rfl, aF A _, ?_⟩
  cases hp : (putP N up false e a t c[j + 1] S2).1 with
  | some x =>
   rw [hp, if_neg (by simp)] at heq
   refine aj (fun _ => ?_) (fun g => by cases g)
   rw [heq]
   exact ⟨by rw [hp], ChP.from ft ⟨f3, d3, h30.lift (by omega), ft3⟩⟩
  | none =>
   rw [hp, if_pos rfl] at heq
   refine aj (fun g => by cases g) (fun _ => ⟨ar (by omega), ⟨j + 1, f3, d3, _, rfl, by omega, h30.lift (by omega), ft.trans ft3, heq⟩, by dsimp only; omega⟩)
 ·have hjl : j + 1 = c.length := by omega
  rw [hjl, List.drop_length] at heq
  rw [heq]
  exact ⟨rfl, f2, d2, h10.lift (by omega), ft⟩
def Gl (A : Nat -> Addr) (w : World) (n0 N m : Nat) (r rd : Nat -> Nat) (f : Nat -> UnF) (us : Slc) (up : Nat -> Bool) (p : Cr) (x : Ending) (w' : World) : Prop :=
 ∃ u : Slc, x = .returned (.tuple ⟨[u.v, cm A p.1]⟩) /\ au w' u p.2.1 /\ aN w u /\ ChP A w n0 N m r rd f us up p.2.2 w'
theorem jt (w : World) : au w (⟨none, 0, 0⟩ : Slc) [] := ⟨rfl, .inl rfl⟩
theorem nB (h : ChU A w n0 N m r rd f d S us up) {i : Nat} (hi : i < N) (e a : Int) :
  Calls Tryz.prog cq ⟨[av (r i), .int .i64 e, .int .i64 a]⟩ w fun x w' => ∃ u : Slc, x = .returned (.tuple ⟨[u.v, cm A (rdE (S i) e a)]⟩) /\ Txt w' (FB N r rd f) u (if rdE (S i) e a = none then pgD (S i) a else []) /\ aN w u /\ ah w w' := by
 have hU := h.F.U i hi
 refine (yn A hU.M e a (h.F.E.g.sub qJ)).mono ?_
 rintro x w30 ⟨u, rfl, ho, hf, k30⟩
 have lt := h.F.lt
 have hl : ((pgM (S i).U (S i).tr a).getD []).length <= 2048 := by
  cases hg : pgM (S i).U (S i).tr a with
  | none => simp
  | some y =>
   cases hl : lookL (f i).x.pl a with
   | none => have := (hU.M.pv a).2 hl; rw [hg] at this; cases this
   | some sl => obtain ⟨y', e1, _, e2⟩ := (hU.M.pv a).1 sl hl; rw [hg] at e1; cases e1; exact e2
 have e9 : (if (readE (S i).tr (S i).ep (pgM (S i).U (S i).tr) e a).isNone = true then (pgM (S i).U (S i).tr a).getD [] else []) = if rdE (S i) e a = none then pgD (S i) a else [] := by
  unfold rdE
  cases readE (S i).tr (S i).ep (pgM (S i).U (S i).tr) e a <;> simp
 rw [e9] at ho
 refine ⟨u, rfl, ⟨ho.bytes, fun k hk => ⟨cD ho k hk, fun hh => by have := hf k hk; have := lt.1 k hh; omega⟩, ?_⟩, hf, k30⟩
 split
 ·show (pgD (S i) a).length <= _; unfold pgD; omega
 ·simp
end
end Go.D

