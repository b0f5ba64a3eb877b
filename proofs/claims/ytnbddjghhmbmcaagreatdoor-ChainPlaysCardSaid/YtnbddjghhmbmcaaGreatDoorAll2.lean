/-
  WHAT IS PROVED: contracts of functions, and the plain law, for this proof. No further conditions.
-/
import Derived.Test.YtnbddjghhmbmcaaGreatDoorAll1
import Derived.Test.YtnbddjghhmbmcaaGreatDoorVCunit
import Derived.Test.YtnbddjghhmbmcaaGreatDoorMapI
import Derived.Test.YtnbddjghhmbmcaaGreatDoorSub
import Derived.Test.YtnbddjghhmbmcaaGreatDoorRd
import Derived.Test.YtnbddjghhmbmcaaGreatDoorVCpack
import Derived.Test.YtnbddjghhmbmcaaGreatDoorObjM
set_option linter.unusedVariables false
set_option linter.unusedSimpArgs false
namespace Go.D
open Go Go.Proofs
structure ml (wb w2 : World) (rd r113 lr D : Nat) (q0 : cU) (d0 : aK) (q2 : cU) (d2 : aK) (a : Int) : Prop where
 dv : aP w2 rd q2 d2
 im : d2.img = d0.img
 st : d2.stops = d0.stops
 nb : ∀ k, bp rd q2 k -> bp rd q0 k \/ wb.heap.size <= k
 e : Ext (fun k => bp rd q0 k \/ k = r113 \/ k = lr) wb w2
 o : aq w2 r113 [.int .i64 a]
 h : w2.heap[D]? = some (.deferred (some []))
structure ApF (wb : World) (rd r113 lr D : Nat) (q0 : cU) : Prop where
 a : r113 < wb.heap.size /\ lr < wb.heap.size /\ D < wb.heap.size
 b : ¬ bp rd q0 r113 /\ ¬ bp rd q0 lr /\ ¬ bp rd q0 D
 c : r113 ≠ lr /\ D ≠ lr /\ D ≠ r113
section
variable {wb w2 w3 w4 : World} {rd r113 lr D : Nat} {q0 q2 q3 : cU} {d0 d2 d3 : aK} {a : Int}
theorem ml.not (hF : ApF wb rd r113 lr D q0) (h : ml wb w2 rd r113 lr D q0 d0 q2 d2 a) : ¬ bp rd q2 r113 /\ ¬ bp rd q2 lr /\ ¬ bp rd q2 D := by
 obtain ⟨a1, a2, a3⟩ := hF.a
 refine ⟨fun hh => ?_, fun hh => ?_, fun hh => ?_⟩
 ·rcases h.nb _ hh with g | g
  ·exact hF.b.1 g
  ·omega
 ·rcases h.nb _ hh with g | g
  ·exact hF.b.2.1 g
  ·omega
 ·rcases h.nb _ hh with g | g
  ·exact hF.b.2.2 g
  ·omega
theorem ml.ae (h : ml wb w2 rd r113 lr D q0 d0 q2 d2 a) (hk : ah w2 w3) : ml wb w3 rd r113 lr D q0 d0 q2 d2 a :=
 ⟨h.dv.ae hk, h.im, h.st, h.nb, h.e.trans hk (fun _ h => h) (fun _ h => h.elim), h.o.ae hk, hk.heap h.h⟩
theorem ml.dev (hF : ApF wb rd r113 lr D q0) (h : ml wb w2 rd r113 lr D q0 d0 q2 d2 a) (hd : aP w3 rd q3 d3) (hf : bJ (bp rd q2) (bp rd q3) w2 w3) (hi : d3.img = d2.img) (hs : d3.stops = d2.stops) : ml wb w3 rd r113 lr D q0 d0 q3 d3 a := by
 obtain ⟨n1, n2, n3⟩ := h.not hF
 have z := h.e.size
 exact ⟨hd, by rw [hi, h.im], by rw [hs, h.st], fun k hk => (hf.2 k hk).elim (h.nb k) (fun h2 => .inr (by omega)), h.e.trans hf.1 (fun _ h => h) (fun k hk => (h.nb k hk).elim (fun h2 => .inl (.inl h2)) (fun h2 => .inr h2)),
  h.o.ext hf.1 n1, hf.1.heap h.h n3⟩
theorem ml.H6 (hF : ApF wb rd r113 lr D q0) (h : ml wb w2 rd r113 lr D q0 d0 q2 d2 a) (hd : aP w3 rd q3 d3) (hf : bJ (bp rd q2) (bp rd q3) w2 w3) : ml wb w3 rd r113 lr D q0 d3 q3 d3 a := by
 obtain ⟨n1, n2, n3⟩ := h.not hF
 have z := h.e.size
 exact ⟨hd, rfl, rfl, fun k hk => (hf.2 k hk).elim (h.nb k) (fun h2 => .inr (by omega)), h.e.trans hf.1 (fun _ h => h) (fun k hk => (h.nb k hk).elim (fun h2 => .inl (.inl h2)) (fun h2 => .inr h2)),
  h.o.ext hf.1 n1, hf.1.heap h.h n3⟩
theorem ml.put (hF : ApF wb rd r113 lr D q0) (h : ml wb w2 rd r113 lr D q0 d0 q2 d2 a) {o : Obj} (hw : w3 = w2.putObj lr o) : ml wb w3 rd r113 lr D q0 d0 q2 d2 a := by
 obtain ⟨n1, n2, n3⟩ := h.not hF
 have e3 : Ext (fun j => j = lr) w2 w3 := by rw [hw]; exact Ext.putObj _ _ _
 exact ⟨h.dv.ext e3 (fun k hk hh => n2 (hh ▸ hk)), h.im, h.st, h.nb, h.e.trans e3 (fun _ h => h) (fun k hk => .inl (.inr (.inr hk))), h.o.ext e3 (fun hh => hF.c.1 hh), e3.heap h.h (fun hh => hF.c.2.1 hh)⟩
theorem ml.set (hF : ApF wb rd r113 lr D q0) (h : ml wb w2 rd r113 lr D q0 d0 q2 d2 a) (v : Int) :
  aw w2 (⟨r113, 0, none⟩ : Addr) 1 /\ ∀ w3 : World, w3 = w2.setCell (⟨r113, 0, none⟩ : Addr) (.int .i64 v) -> ml wb w3 rd r113 lr D q0 d0 q2 d2 v /\ Ext (fun k => k = r113) w2 w3 := by
 obtain ⟨n1, n2, n3⟩ := h.not hF
 obtain ⟨c1, c2⟩ := h.o.bf 0 (by simp) (.int .i64 v)
 refine ⟨c1, fun w3 hw => ?_⟩
 obtain ⟨g1, g2, g3⟩ := c2 w3 hw
 exact ⟨⟨h.dv.ext g2 (fun k hk hh => n1 (by rw [<- show k = r113 from hh]; exact hk)), h.im, h.st, h.nb, h.e.trans g2 (fun _ h => h) (fun k hk => .inl (.inr (.inl hk))), g1, g2.heap h.h (fun hh => hF.c.2.2 hh)⟩, g2⟩
end
theorem eO.upd {w w' : World} {r rd : Nat} {u : StP} {M : List aJ} {g g' : aJ} {x' : uQ} (h : eO w r rd u (M ++ [g])) {x : uQ} (hxi : M.length < u.xs.length) (hxe : u.xs[M.length] = x) (he : Ext (iK x) w w') (hx : gj w' x' g') (hB : ∀ k, iK x' k -> iK x k \/ w.heap.size <= k) (ho : x'.o = x.o) :
  eO w' r rd ⟨u.sp, u.xs.take M.length ++ [x']⟩ (M ++ [g']) /\ ∀ k, StB r ⟨u.sp, u.xs.take M.length ++ [x']⟩ k -> StB r u k \/ w.heap.size <= k := by
 have hlen := h.len
 rw [List.length_append, List.length_singleton] at hlen
 have hxs : u.xs = u.xs.take M.length ++ [x] := by
  conv => lhs; rw [<- List.take_append_drop M.length u.xs, List.drop_eq_getElem_cons hxi, hxe]
  rw [List.drop_of_length_le (by omega)]
 have hxm : x ∈ u.xs := by rw [<- hxe]; exact List.getElem_mem hxi
 have hds := h.ds x hxm
 have hsep := h.sep
 rw [hxs] at hsep
 obtain ⟨p1, _, p3⟩ := List.pairwise_append.1 hsep
 have lt := h.lt
 have hlen2 : (u.xs.take M.length).length = M.length := by rw [List.length_take]; omega
 have hym : ∀ y ∈ u.xs.take M.length, y ∈ u.xs := fun y hy => List.mem_of_mem_take hy
 have hx'd : ∀ k, iK x' k -> k ≠ r /\ ¬ ai u.sp k := fun k hk => by
  rcases hB k hk with h1 | h1
  ·exact hds k h1
  ·exact ⟨fun hh => by have := lt r (.inl rfl); omega, fun hh => by have := lt k (.inr (.inl hh)); omega⟩
 refine ⟨⟨h.o.ext he (fun hh => (hds r hh).1 rfl), ?_, by simp [hlen2], fun i hi hi' => ?_, ?_, h.sr, ?_⟩, ?_⟩
 ·have h1 := h.s.ext he (fun k hk hh => (hds k hh).2 hk)
  have h2 : u.xs.map (fun x => av x.o) = (u.xs.take M.length ++ [x']).map fun x => av x.o := by
   conv => lhs; rw [hxs]
   rw [List.map_append, List.map_append, List.map_singleton, List.map_singleton, ho]
  rw [h2] at h1
  exact h1
 ·by_cases hik : i < M.length
  ·have e1 : (u.xs.take M.length ++ [x'])[i]'hi = u.xs[i]'(by omega) := by
    rw [List.getElem_append_left (by omega), List.getElem_take]
   have e2 : (M ++ [g'])[i]'hi' = M[i] := List.getElem_append_left hik
   have h1 := h.g i (by omega) (by simp; omega)
   rw [List.getElem_append_left hik] at h1
   simp only [e1, e2]
   refine h1.ext he (fun k hk hh => ?_)
   have h5 : u.xs[i]'(by omega) ∈ u.xs.take M.length := by
    rw [List.mem_take_iff_getElem]
    exact ⟨i, by omega, rfl⟩
   exact p3 _ h5 x (by simp) k hk hh
  ·have hie : i = M.length := by
    have : (M ++ [g']).length = M.length + 1 := by simp
    omega
   subst hie
   have e1 : (u.xs.take M.length ++ [x'])[M.length]'hi = x' := by
    rw [List.getElem_append_right (by omega)]
    simp [hlen2]
   have e2 : (M ++ [g'])[M.length]'hi' = g' := by simp
   simp only [e1, e2]
   exact hx
 ·refine List.pairwise_append.2 ⟨p1, List.pairwise_singleton _ _, fun y hy z hz k hk hh => ?_⟩
  rw [List.mem_singleton] at hz; subst hz
  rcases hB k hh with h1 | h1
  ·exact p3 y hy x (by simp) k hk h1
  ·have := lt k (.inr (.inr ⟨y, hym y hy, hk⟩)); omega
 ·intro y hy k hk
  rcases List.mem_append.1 hy with h1 | h1
  ·exact h.ds y (hym y h1) k hk
  ·rw [List.mem_singleton] at h1; subst h1; exact hx'd k hk
 ·rintro k (hk | hk | ⟨y, hy, hk⟩)
  ·exact .inl (.inl hk)
  ·exact .inl (.inr (.inl hk))
  ·rcases List.mem_append.1 hy with h1 | h1
   ·exact .inl (.inr (.inr ⟨y, hym y h1, hk⟩))
   ·rw [List.mem_singleton] at h1; subst h1
    rcases hB k hk with h2 | h2
    ·exact .inl (.inr (.inr ⟨x, hxm, h2⟩))
    ·exact .inr h2
theorem B4 {A : Nat -> Addr} {w : World} {n0 r rd m : Nat} {u : StP} {q : cU} {d : aK} {L : List aJ} {b : List UInt8} {s : Slc} {K : Value -> World -> Prop} (h : Sys w n0 r rd u q d L m) (hE : bK yf A n0 w) (hm : m <= 2 ^ 60)
  (hb : au w s b) (hsc : s.l <= s.c) (hbl : b.length <= 2 ^ 20) (hbs : 0 < s.l -> ∀ k, ai s k -> ¬ cJ r u rd q k)
  (hK : ∀ n e' w', qX A w n0 r rd u q d L m b n e' w' -> K (.tuple ⟨[.int .i64 n, cm A e']⟩) w') : ji (some ⟨r, 0, none⟩) s w K := by
 unfold ji
 refine ao (fun r3 w4 hr3 hb3 k3 hs3 => ao (fun r5 w6 hr5 hb5 k5 hs5 => ao (fun r7 w8 hr7 hb7 k7 hs7 => ?_)))
 have k8 : ah w w8 := (k3.trans k5).trans k7
 have o3 : aq w8 r3 [av r] := ((aq.eS hb3).ae k5).ae k7
 have o5 : aq w8 r5 [.int .i64 0] := (aq.eS hb5).ae k7
 have o7 : aq w8 r7 [.nilIface] := aq.eS hb7
 have hsl := hb.1
 have kd8 : ah w8 (World.drew w8) := Ext.drew _ _
 have hsys := h.B.lt
 have formE : b.length = 0 \/ 3968 < b.length -> ∃ v10 : Value, World.cell? (World.drew w8) (⟨aH, 0, none⟩ : Addr) = some v10 /\
   aw (World.drew w8) (⟨r5, 0, none⟩ : Addr) 1 /\ ∀ w11 : World, w11 = World.setCell (World.drew w8) (⟨r5, 0, none⟩ : Addr) (Value.int .i64 (0 : Int)) ->
   (∃ v12 : Value, World.cell? w11 (⟨aH, 0, none⟩ : Addr) = some v12 /\ v12 = v10) /\
   oneK v10 (oneK v10 (aw w11 (⟨r7, 0, none⟩ : Addr) 1 /\ ∀ w13 : World, w13 = World.setCell w11 (⟨r7, 0, none⟩ : Addr) v10 ->
   ∃ n14 : Int, World.cell? w13 (⟨r5, 0, none⟩ : Addr) = some (Value.int .i64 n14) /\ ∃ v15 : Value, World.cell? w13 (⟨r7, 0, none⟩ : Addr) = some v15 /\ K (Value.tuple ⟨[(Value.int .i64 n14), v15]⟩) w13)) := by
  intro hlen
  have hg := eb ((hE.ae k8).ae kd8) 3 aH rfl (by decide)
  have hgl := hE.lt (g := aH) (by decide)
  have hz := h.B.z
  obtain ⟨c1, c2⟩ := ug (o5.ae kd8) (o7.ae kd8) (by omega) A (some 3) (X := fun w13 => ∃ n14 : Int, World.cell? w13 (⟨r5, 0, none⟩ : Addr) = some (Value.int .i64 n14) /\ ∃ v15 : Value, World.cell? w13 (⟨r7, 0, none⟩ : Addr) = some v15 /\ K (Value.tuple ⟨[(Value.int .i64 n14), v15]⟩) w13)
   (fun w4 g5 g7 x4 => ⟨(0 : Int), g5.cell 0 (by simp), cm A (some 3), g7.cell 0 (by simp), hK 0 (some 3) w4 (by
    have e1 : j8 (d.n / 64) L b = (some 3, 0, L) := by unfold j8; rw [if_pos hlen]
    refine ⟨q, d, (h.B.D.ae (k8.trans kd8)).ext x4 (fun k hk hh => ?_), rfl, rfl, .inl ⟨by rw [e1]; simp, by rw [e1], rfl, rfl, rfl, (k8.trans kd8).ext x4 (fun k hk => by omega)⟩⟩
    have := h.B.D.lt k hk; omega)⟩)
  refine ⟨_, hg, c1, fun w11 hw => ⟨⟨_, ?_, rfl⟩, c2 w11 hw⟩⟩
  obtain ⟨_, c4⟩ := (o5.ae kd8).bf 0 (by simp) (.int .i64 0)
  exact (c4 w11 hw).2.1.cell hg (fun hh => by have : aH = r5 := hh; omega)
 refine ⟨fun w2 => ah w8 w2 /\ 0 < b.length /\ b.length <= 3968, af (fun h0 => formE (by omega)) (fun h0 => af (fun h1 => formE (by omega)) (fun h1 => ⟨Ext.refl _ _, by omega, by omega⟩)), ?_⟩
 rintro w22 ⟨k22, hb0, hb1⟩
 intros
 have h22 := h.ae (k8.trans k22)
 have kd22 : ah w22 (World.drew w22) := Ext.drew _ _
 have hLlen := h.len
 have hk := h.k
 have hSl := h.B.S.sl
 have hnn : d.n = d.img.length / 64 := rfl
 have happ : j8 (d.n / 64) L b = match jB (d.n / 64) L b.length with | none => (some 12, 0, L) | some L0 => (none, lastN L0, addRec L0 b) := by unfold j8; rw [if_neg (by omega)]; try rfl
 refine ⟨_, (o3.ae k22).cell 0 (by simp), aa rfl ⟨_, h22.B.S.c1, fun w2 => FE w8 n0 r rd u q d L m b w2, af (fun h2 => ?_) (fun h2 => ?_), ?_⟩⟩
 ·have hL0 : L = [] := List.length_eq_zero_iff.1 (by omega)
  refine ⟨_, ((o3.ae k22).ae kd22).cell 0 (by simp), B3 h hE hm hK hb0 hb1 k8 o5 o7 (by omega) (by have := k3.size; have := k5.size; omega) (by have := k3.size; have := k5.size; omega) (k22.trans kd22) ?_⟩
  subst hL0; rfl
 ·have hd22 := h22.ae kd22
  obtain ⟨M, g, hLM⟩ : ∃ M g, L = M ++ [g] := ⟨L.dropLast, L.getLast (fun e => by rw [e] at hSl; exact h2 (by simp at hSl; omega)), (List.dropLast_concat_getLast _).symm⟩
  have hML : L.length = M.length + 1 := by rw [hLM]; simp
  obtain ⟨a, x, ha, hc, hx, _⟩ := hd22.B.S.at (i := M.length) (by omega)
  have hgx : L[M.length]'(by omega) = g := by simp [hLM]
  rw [hgx] at hx
  have e1 : Int.toNat (((u.sp.l : Nat) : Int) - 1) = M.length := by omega
  have hfin : g.fin <= 64 := (h.I.on g (by rw [hLM]; simp)).fin
  refine ⟨_, ((o3.ae k22).ae kd22).cell 0 (by simp), aa rfl ⟨_, hd22.B.S.c1, ar (by omega), aa ha ⟨by omega, by omega, _, by rw [e1]; exact hc, aa rfl ⟨_, (gy _ hx).2.2.2, ar (by omega), ?_⟩⟩⟩⟩
  rw [hsl]
  refine (nu b.length (by omega) _).mono ?_
  rintro e w52 ⟨rfl, rfl⟩
  have hsec : bT b.length <= 62 := by unfold bT; omega
  refine ⟨_, rfl, ⟨_, (gy _ hx).2.2.2, rfl⟩, ⟨_, by rw [e1]; exact hc, rfl⟩, ⟨_, hd22.B.S.c1, rfl⟩, ⟨_, ((o3.ae k22).ae kd22).cell 0 (by simp), rfl⟩, ar (by omega), af (fun h3 => ?_) (fun h3 => ?_)⟩
  ·refine ⟨_, ((o3.ae k22).ae kd22).cell 0 (by simp), B3 h hE hm hK hb0 hb1 k8 o5 o7 (by omega) (by have := k3.size; have := k5.size; omega) (by have := k3.size; have := k5.size; omega) (k22.trans kd22) ?_⟩
   rw [hLM, yi]
   exact decide_eq_false (by unfold de; omega)
  ·have hf : jn L b.length = true := by
    rw [hLM, yi]
    exact decide_eq_true (by unfold de; omega)
   refine ⟨M, g, u, q, d, by unfold jB; rw [hf, if_pos rfl, hLM], by unfold de; omega, by rw [<- hLM]; exact hd22.up (by omega), ?_, rfl, rfl⟩
   exact (k22.trans kd22).kh (bJ.refl _ _)
 ·rintro w66 ⟨M, g, u0, q0, d0, hbase, hfit, h66, f66, hn0, hst0⟩
  intros
  have kd66 : ah w66 (World.drew w66) := Ext.drew _ _
  have zA := k3.size
  have zB := k5.size
  have zC := k7.size
  have n3 : ¬ cJ r u rd q r3 := fun hh => by have := hsys _ hh; omega
  have n5 : ¬ cJ r u rd q r5 := fun hh => by have := hsys _ hh; omega
  have n7 : ¬ cJ r u rd q r7 := fun hh => by have := hsys _ hh; omega
  have o3l := o3.lt
  have o5l := o5.lt
  have o7l := o7.lt
  have o3' := (o3.ext f66.1 n3).ae kd66
  have o5' := (o5.ext f66.1 n5).ae kd66
  have o7' := (o7.ext f66.1 n7).ae kd66
  have hd66 := h66.ae kd66
  have hsub : ∀ k, cJ r u0 rd q0 k -> cJ r u rd q k \/ w8.heap.size <= k := f66.2
  have ns : ∀ j, j < w8.heap.size -> ¬ cJ r u rd q j -> ¬ cJ r u0 rd q0 j := fun j h1 h2 hh => (hsub j hh).elim h2 (fun h3 => by omega)
  have hb66 : au (World.drew w66) s b := aG (aZ (aG hb k8) f66.1 hbs) kd66
  have hbl66 : 0 < s.l -> ∀ k, ai s k -> k < w8.heap.size := fun h0 k hk => fu (aG hb k8) h0 k hk
  have hbs0 : 0 < s.l -> ∀ k, ai s k -> ¬ cJ r u0 rd q0 k := fun h0 k hk => ns k (hbl66 h0 k hk) (hbs h0 k hk)
  have hE66 : bK yf A n0 (World.drew w66) := ((hE.ae k8).ext f66.1 (fun k hk => hk.elim (h.B.sn k) (h.B.dn k))).ae kd66
  have hSl0 := hd66.B.S.sl
  have hML : (M ++ [g]).length = M.length + 1 := by simp
  obtain ⟨a, x, ha, hc, hx, hxi, hxe⟩ := hd66.B.S.at (i := M.length) (by omega)
  have hgx : (M ++ [g])[M.length]'(by omega) = g := by simp
  rw [hgx] at hx
  have e1 : Int.toNat (((u0.sp.l : Nat) : Int) - 1) = M.length := by omega
  have hon := h66.I.on g (by simp)
  have hfin : g.fin <= 64 := hon.fin
  have hL0len := h66.len
  have hxB : ∀ k, iK x k -> StB r u0 k := fun k hk => .inr (.inr ⟨x, by rw [<- hxe]; exact List.getElem_mem hxi, hk⟩)
  refine ⟨_, o3'.cell 0 (by simp), aa rfl ⟨_, hd66.B.S.c1, _, o3'.cell 0 (by simp), aa rfl ⟨_, hd66.B.S.c1, ar (by omega), aa ha ⟨by omega, by omega, _, by rw [e1]; exact hc, ao (fun r102 w103 hr102 hb102 k103 hs103 => ?_)⟩⟩⟩⟩
  have h103 := hd66.ae k103
  have kc := k103
  refine ⟨⟨_, by rw [e1]; exact k103.cell hc, rfl⟩, ⟨_, h103.B.S.c1, rfl⟩, ⟨_, (o3'.ae k103).cell 0 (by simp), rfl⟩, ⟨_, h103.B.S.c1, rfl⟩, ⟨_, (o3'.ae k103).cell 0 (by simp), rfl⟩, ?_⟩
  obtain ⟨c1, c2⟩ := (aq.eS hb102).bf 0 (by simp) (av x.o)
  refine ⟨c1, fun w109 hw109 => ?_⟩
  obtain ⟨o102, e109, z109⟩ := c2 w109 hw109
  have k109 : ah (World.drew w66) w109 := k103.ext e109 (fun k hk => by omega)
  have hx109 := hx.ae k109
  refine ⟨_, o102.cell 0 (by simp), aa rfl ⟨_, (gy _ hx109).2.2.2, ar (by omega), DC (fun r113 w115 hr113 o113 k115 hs115 => ?_)⟩⟩
  have hmul : ((64 : Int)) = ((64 : Nat) : Int) := rfl
  refine (C6 s 64 (by omega) w115).mono ?_
  rintro e w117 ⟨b1, b2, rfl, ob1, ob2, k117, hb1l, hb2l⟩
  refine ⟨_, rfl, cu, [], [av b1, av b2], rfl, by rfl, ?_⟩
  intro D lr rc wb hD hlr hwb hY
  have N := BJ hD hlr hwb
  have hdl := N.dl
  have hwbs := N.s
  have hdw := N.dw
  have kb : ah (World.drew w66) wb := ((k109.trans k115).trans k117).trans N.k
  have z115 := k115.size
  have z117 := k117.size
  have z66 : (World.drew w66).heap.size = w66.heap.size := rfl
  have zf66 := f66.1.size
  have hBb := hd66.B.ae kb
  have o3b := o3'.ae kb
  have o5b := o5'.ae kb
  have o7b := o7'.ae kb
  have o102b := ((o102.ae k115).ae k117).ae N.k
  have o113b := (o113.ae k117).ae N.k
  have ob1b := ob1.ae N.k
  have ob2b := ob2.ae N.k
  have hbb : au wb s b := aG hb66 kb
  have hEb := hE66.ae kb
  have hxb := hx.ae kb
  have hsl66 : ∀ k, cJ r u0 rd q0 k -> k < w66.heap.size := h66.B.lt
  have hr102l := o102.lt
  have hr113l := o113.lt
  have hb1l2 := ob1.lt
  have hb2l2 := ob2.lt
  have nD : ∀ j, w66.heap.size <= j -> ¬ cJ r u0 rd q0 j := fun j hj hh => by have := hsl66 j hh; omega
  have hF : ApF wb rd r113 lr D q0 := ⟨⟨by omega, by omega, by omega⟩, ⟨fun hh => nD r113 (by omega) (.inr hh), fun hh => nD lr (by omega) (.inr hh), fun hh => nD D (by omega) (.inr hh)⟩, by omega, by omega, by omega⟩
  have nS : ∀ k, StB r u0 k -> ¬ (bp rd q0 k \/ k = r113 \/ k = lr) := fun k hk hh => by
   have h1 := hsl66 k (.inl hk)
   rcases hh with hh | hh | hh
   ·exact h66.B.sep k hk hh
   ·omega
   ·omega
  -- what stands at a state of the writes
  have at_ : ∀ {w2 dd q2 d2 a}, ml wb w2 rd r113 lr D q0 dd q2 d2 a -> eO w2 r rd u0 (M ++ [g]) /\ aq w2 r3 [av r] /\ aq w2 r5 [.int .i64 0] /\ aq w2 r7 [.nilIface] /\ aq w2 r102 [av x.o] /\ au w2 s b /\ bK yf A n0 w2 /\ gj w2 x g := by
   intro w2 dd q2 d2 a hs
   have no : ∀ j, ¬ cJ r u0 rd q0 j -> j ≠ r113 -> j ≠ lr -> ¬ (bp rd q0 j \/ j = r113 \/ j = lr) := fun j h1 h2 h3 hh => by
    rcases hh with hh | hh | hh
    ·exact h1 (.inr hh)
    ·exact h2 hh
    ·exact h3 hh
   refine ⟨hBb.S.ext hs.e nS, o3b.ext hs.e (no _ (ns _ o3l n3) (by omega) (by omega)), o5b.ext hs.e (no _ (ns _ o5l n5) (by omega) (by omega)), o7b.ext hs.e (no _ (ns _ o7l n7) (by omega) (by omega)),
    o102b.ext hs.e (no _ (nD _ (by omega)) (by omega) (by omega)), ?_, hEb.ext hs.e (fun k hk => ?_), hxb.ext hs.e (fun k hk => nS k (hxB k hk))⟩
   ·exact aZ hbb hs.e (fun h0 k hk => no k (hbs0 h0 k hk) (by have := hbl66 h0 k hk; omega) (by have := hbl66 h0 k hk; omega))
   ·have hz := h66.B.z
    rcases hk with hk | hk | hk
    ·exact h66.B.dn k hk
    ·omega
    ·omega
  have atn : ∀ {w2 q2 d2 a}, ml wb w2 rd r113 lr D q0 d0 q2 d2 a -> d2.n = d0.n := fun hs => by unfold aK.n; rw [hs.im]
  -- the way out, when the device is down
  have down : ∀ {w' q' d'}, aP w' rd q' d' -> d'.n = d0.n -> d'.stops = d0.stops -> d0.stops = true -> ud d' (d.n / 64) [M ++ [g], addRec (M ++ [g]) b] -> Ext (fun k => cJ r u0 rd q0 k \/ k = r113 \/ k = lr \/ k = D \/ k = r5 \/ k = r7) wb w' -> (∀ k, bp rd q' k -> bp rd q0 k \/ wb.heap.size <= k) ->
    K (.tuple ⟨[.int .i64 0, cm A (some 11)]⟩) w' := by
   intro w' q' d' hD' hn' hs' hst hcr hext hnb
   refine hK 0 (some 11) w' ⟨q', d', hD', by rw [hn', hn0], by rw [hs', hst0], .inr (.inr ⟨by rw [happ, hbase], rfl, by rw [<- hst0]; exact hst, ?_, ?_, fun k hk => ?_⟩)⟩
   ·rw [happ, hbase]
    exact hcr.mono (fun L' hL' => by simp at hL' ⊢; rcases hL' with rfl | rfl <;> simp)
   ·refine (((k8.kh f66).1.trans kd66 (fun _ h => h) (fun _ h => h.elim)).trans kb (fun _ h => h) (fun _ h => h.elim)).trans hext (fun _ h => h) (fun k hk => ?_)
    rcases hk with hk | hk
    ·rcases hsub k hk with h1 | h1
     ·exact .inl h1
     ·exact .inr (by omega)
    ·right; omega
   ·rcases hnb k hk with h1 | h1
    ·rcases hsub k (.inr h1) with h2 | h2
     ·exact .inl h2
     ·exact .inr (by omega)
    ·exact .inr (by have := kb.size; omega)
  have tail : ∀ {w2 q2 d2}, aP w2 rd q2 d2 -> d2.n = d0.n -> d2.stops = d0.stops -> d0.stops = true -> ud d2 (d.n / 64) [M ++ [g], addRec (M ++ [g]) b] -> Ext (fun k => cJ r u0 rd q0 k \/ k = r113 \/ k = lr \/ k = D \/ k = r5 \/ k = r7) wb w2 -> (∀ k, bp rd q2 k -> bp rd q0 k \/ wb.heap.size <= k) ->
    w2.heap[D]? = some (.deferred (some [])) -> aq w2 r5 [.int .i64 0] -> aq w2 r7 [cm A (some 11)] ->
    (World.heap w2)[D]? = some (.deferred (some [])) /\ ∀ w173 : World, w173 = World.putObj w2 D (.deferred none) ->
     ∃ n174 : Int, World.cell? w173 (⟨r5, 0, none⟩ : Addr) = some (Value.int .i64 n174) /\ ∃ v175 : Value, World.cell? w173 (⟨r7, 0, none⟩ : Addr) = some v175 /\ K (Value.tuple ⟨[(Value.int .i64 n174), v175]⟩) w173 := by
   intro w2 q2 d2 x1 x2 x3 x4 x5 x6 x7 x9 x10 x11
   refine ⟨x9, fun w151 hw151 => ?_⟩
   have e151 : Ext (fun j => j = D) w2 w151 := by rw [hw151]; exact Ext.putObj _ _ _
   have y5 := x10.ext e151 (fun hh => by omega)
   have y7 := x11.ext e151 (fun hh => by omega)
   have nlr : ∀ j, bp rd q2 j -> j ≠ D := fun j hj => by
    obtain ⟨f1, f2, f3⟩ := hF.a
    rcases x7 j hj with h1 | h1
    ·exact fun hh => hF.b.2.2 (hh ▸ h1)
    ·omega
   refine ⟨_, y5.cell 0 (by simp), _, y7.cell 0 (by simp), down (x1.ext e151 (fun j hj hh => nlr j hj hh)) x2 x3 x4 x5 ?_ x7⟩
   exact x6.trans e151 (fun _ h => h) (fun j hj => .inl (.inr (.inr (.inr (.inl hj)))))
  have errT : ∀ {w2 dd q2 d2 a}, ml wb w2 rd r113 lr D q0 dd q2 d2 a -> d2.n = d0.n -> d2.stops = d0.stops -> d0.stops = true -> ud d2 (d.n / 64) [M ++ [g], addRec (M ++ [g]) b] ->
    aw w2 (⟨r5, 0, none⟩ : Addr) 1 /\ ∀ w40 : World, w40 = w2.setCell (⟨r5, 0, none⟩ : Addr) (.int .i64 0) -> oneK (cm A (some 11)) (oneK (cm A (some 11)) (aw w40 (⟨r7, 0, none⟩ : Addr) 1 /\ ∀ w41 : World, w41 = w40.setCell (⟨r7, 0, none⟩ : Addr) (cm A (some 11)) ->
     (World.heap w41)[D]? = some (.deferred (some [])) /\ ∀ w173 : World, w173 = World.putObj w41 D (.deferred none) ->
     ∃ n174 : Int, World.cell? w173 (⟨r5, 0, none⟩ : Addr) = some (Value.int .i64 n174) /\ ∃ v175 : Value, World.cell? w173 (⟨r7, 0, none⟩ : Addr) = some v175 /\ K (Value.tuple ⟨[(Value.int .i64 n174), v175]⟩) w173)) := by
   intro w2 dd q2 d2 a hs x2 x3 x4 x5
   obtain ⟨_, _, z3, z4, _⟩ := at_ hs
   refine ug z3 z4 (by omega) A _ (fun w140 t5 t7 x140 => ?_)
   have m5 : ∀ j, bp rd q2 j -> j ≠ r5 /\ j ≠ r7 := fun j hj => by
    rcases hs.nb j hj with h1 | h1
    ·exact ⟨fun hh => ns r5 o5l n5 (by rw [<- hh]; exact .inr h1), fun hh => ns r7 o7l n7 (by rw [<- hh]; exact .inr h1)⟩
    ·exact ⟨by omega, by omega⟩
   refine tail (hs.dv.ext x140 (fun j hj hh => hh.elim (m5 j hj).1 (m5 j hj).2)) x2 x3 x4 x5 ?_ hs.nb (x140.heap hs.h (fun hh => by omega)) t5 t7
   exact (hs.e.mono (fun j hj => by rcases hj with hj | hj | hj; exact .inl (.inr hj); exact .inr (.inl hj); exact .inr (.inr (.inl hj)))).trans x140 (fun _ h => h) (fun j hj => .inl (.inr (.inr (.inr (.inr hj)))))
  have hbl64 : b.length <= 3968 := hb1
  have hsecs : bT b.length <= 62 := by unfold bT; omega
  have hcn : g.fin + 1 + l8 g.fin b.length <= 64 := by unfold de at hfit; unfold l8; split <;> omega
  have hcs : bT b.length <= l8 g.fin b.length := by unfold l8; split <;> omega
  have hpl := h66.I.pl g (by simp)
  have hkn : d0.n / 64 = d.n / 64 := by rw [hn0]
  have hI0 : cI (aW d0.img) (d.n / 64) (M ++ [g]) := by rw [<- hkn]; exact h66.I
  have hd0n : d0.n = d0.img.length / 64 := rfl
  have crd : ∀ {d' : aK} {c : Nat}, d'.img = d0.img -> c <= l8 g.fin b.length -> d'.aI = wrL (64 * g.place + g.fin + 1) (sM b) c -> ud d' (d.n / 64) [M ++ [g], addRec (M ++ [g]) b] := by
   intro d' c h1 h2 h3
   refine ⟨by rw [h3, mO]; omega, fun kept torn cut => ?_⟩
   refine ⟨M ++ [g], by simp, ?_⟩
   rw [h1]
   exact GW (by omega) hI0 (by simp) (yh b) (by omega) h3 _ _ _
  let J : Nat -> World -> Prop := fun k w2 => ∃ q2 d2, ml wb w2 rd r113 lr D q0 d0 q2 d2 ((g.fin + 1 + k : Nat) : Int) /\ w2.heap[lr]? = some (.loop (rc .ready none)) /\ d2.aI = wrL (64 * g.place + g.fin + 1) (sM b) k /\ k <= bT b.length
  let X : World -> Prop := fun w2 => ∃ q2 d2, aP w2 rd q2 d2 /\ d2.n = d0.n /\ d2.stops = d0.stops /\ d0.stops = true /\ ud d2 (d.n / 64) [M ++ [g], addRec (M ++ [g]) b] /\ Ext (fun k => cJ r u0 rd q0 k \/ k = r113 \/ k = lr \/ k = D \/ k = r5 \/ k = r7) wb w2 /\ (∀ k, bp rd q2 k -> bp rd q0 k \/ wb.heap.size <= k) /\
   w2.heap[lr]? = some (.loop (rc .done (some Code.ret))) /\ w2.heap[D]? = some (.deferred (some [])) /\ aq w2 r5 [.int .i64 0] /\ aq w2 r7 [cm A (some 11)]
  have hJ0 : J 0 wb := ⟨q0, d0, ⟨hBb.D, rfl, rfl, fun k hk => .inl hk, Ext.refl _ _, by have := o113b; rw [show ((g.fin : Int) + 1) = ((g.fin + 1 + 0 : Nat) : Int) by omega] at this; exact this, N.d⟩, N.l, h66.p, by omega⟩
  have step : ∀ k (hk : k * 64 < b.length) (w28 : World) (sd : Slc), J k w28 -> au w28 sd (ga b 64 k) ->
    jF Tryz.prog lr ⟨[sd.v]⟩ w28 fun e w' => (e = .returned (.bool true) /\ J (k + 1) w') \/ (e = .returned (.bool false) /\ X w') := by
   rintro k hk w28 sd ⟨q2, d2, hs, hl, hp, hks⟩ hsd
   have hk1 : k < bT b.length := by unfold bT; omega
   refine hY sd w28 _ hl ⟨hl, fun w36 hw36 => ?_⟩
   have hs36 := hs.put hF hw36
   have hl36 : w36.heap[lr]? = some (.loop (rc .busy none)) := by rw [hw36]; exact jK hl
   have e36 : Ext (fun j => j = lr) w28 w36 := by rw [hw36]; exact Ext.putObj _ _ _
   have hsd36 : au w36 sd (ga b 64 k) := aZ hsd e36 (fun h0 j hj2 hh => by
    subst hh
    obtain ⟨a, ha, rfl⟩ := hj2
    obtain ⟨a', ha', hc'⟩ := bc hsd.2 (i := 0) (by rw [List.length_map, <- hsd.1]; exact h0)
    rw [ha] at ha'; cases ha'
    have : w28.cell? (a.add 0) = none := by
     unfold World.cell?
     rw [ew, hl]
    rw [this] at hc'; cases hc')
   refine ⟨by omega, by omega, by omega, ao (fun r127 w128 hr127 hb127 k128 hs128 => ?_)⟩
   have hz := Own.DE hb127
   have hcl := uU b k
   have hcp := fun (K : Int -> World -> Prop) => BK (K := K) (sz := 1) (lo := 0) (d := (⟨some ⟨r127, 0, none⟩, 64, 64⟩ : Slc)) (src := sd) (new := (ga b 64 k).map aS) hz (by have := hsd.1; show 0 + sd.l <= 64; omega) (Nat.le_refl _) (by rw [List.length_map, hsd.1]; omega) (aG hsd36 k128).2 (nG _)
   have esub : Slc.sub (⟨some ⟨r127, 0, none⟩, 64, 64⟩ : Slc) 1 0 64 64 = ⟨some ⟨r127, 0, none⟩, 64, 64⟩ := by simp [Slc.sub, Addr.add]
   simp only [esub] at hcp
   refine hcp _ (fun w130 g1 g2 g3 => ?_)
   have epad : ((List.replicate 64 (0 : UInt8)).map aS).take (0 * 1) ++ (ga b 64 k).map aS ++ ((List.replicate 64 (0 : UInt8)).map aS).drop (0 * 1 + ((ga b 64 k).map aS).length) = (sM b k).map aS := by
    unfold sM
    rw [if_pos hk1]
    unfold Ep
    simp only [Nat.zero_mul, List.take_zero, List.nil_append, Nat.zero_add, List.length_map, List.map_append, <- List.map_drop, List.drop_replicate]
   rw [epad] at g1
   have kd : ah w130 (World.drew w130) := Ext.drew _ _
   have k130 : ah w36 (World.drew w130) := (k128.ext g2 (fun j hj => by
    obtain ⟨a, ha, rfl⟩ := hj
    cases ha
    show w36.heap.size <= r127; omega)).trans kd
   have hs130 := hs36.ae k130
   obtain ⟨a1, a2, a3, a4, a5, a6, a7, a8⟩ := at_ hs130
   have a9 := atn hs130
   have gD := g1.ae kd
   refine ⟨_, a2.cell 0 (by simp), _, a5.cell 0 (by simp), aa rfl ⟨_, (gy _ a8).1, _, hs130.o.cell 0 (by simp), ?_⟩⟩
   refine (mP A a1.c0 hs130.dv g.place (g.fin + 1 + k) (by omega) _ (sM b k) gD.bytes (yh b k) (a7.sub gF) (h66.B.dn rd (.inl rfl)) (fun j hj hh => ?_) (by rw [hp, mO]; omega)).mono ?_
   ·obtain ⟨a, ha, rfl⟩ := hj
    cases ha
    have h9 := hs36.dv.lt rd (.inl rfl)
    have : r127 = rd := hh
    omega
   rintro e w137 ⟨e', q3, d3, rfl, hD3, f3, hi3, hst3, hcase⟩
   have hs137 := hs130.dev hF hD3 f3 hi3 hst3
   obtain ⟨_, y2, y3⟩ := hs130.not hF
   have hl137 := f3.1.heap (k130.heap hl36) y2
   obtain ⟨z1, z2, z3, z4, z5, z6, z7, z8⟩ := at_ hs137
   have z9 := atn hs137
   have ebase : ((64 * g.place + (g.fin + 1 + k) : Nat) : Int) = ((64 * g.place + g.fin + 1 + k : Nat) : Int) := by congr 1; omega
   refine ⟨_, rfl, aF A _, aj (fun h0 => ?_) (fun h0 => ?_)⟩
   ·rcases hcase with ⟨rfl, _⟩ | ⟨rfl, hst, hp3⟩
    ·cases h0
    ·refine ug z3 z4 (by omega) A _ (fun w140 t5 t7 x140 => ?_)
     have hl140 := x140.heap hl137 (fun hh => by omega)
     have hD140 := x140.heap hs137.h (fun hh => by omega)
     refine ⟨hl140, fun w141 hw141 => .inr ⟨rfl, ?_⟩⟩
     have e141 : Ext (fun j => j = lr) w140 w141 := by rw [hw141]; exact Ext.putObj _ _ _
     obtain ⟨m1, m2, m3⟩ := hs137.not hF
     have m5 : ∀ j, bp rd q3 j -> j ≠ r5 /\ j ≠ r7 := fun j hj => by
      rcases hs137.nb j hj with h1 | h1
      ·exact ⟨fun hh => ns r5 o5l n5 (by rw [<- hh]; exact .inr h1), fun hh => ns r7 o7l n7 (by rw [<- hh]; exact .inr h1)⟩
      ·exact ⟨by omega, by omega⟩
     refine ⟨q3, d3, (hD3.ext x140 (fun j hj hh => hh.elim (m5 j hj).1 (m5 j hj).2)).ext e141 (fun j hj hh => m2 (hh ▸ hj)), z9, hs137.st, by rw [<- hs130.st]; exact hst, crd (c := k) (by rw [hs137.im]) (by omega) (by rw [hp3, hp]), ?_, hs137.nb, ?_, ?_, ?_, ?_⟩
     ·exact ((hs137.e.mono (fun j hj => by rcases hj with hj | hj | hj; exact .inl (.inr hj); exact .inr (.inl hj); exact .inr (.inr (.inl hj)))).trans x140 (fun _ h => h) (fun j hj => .inl (.inr (.inr (.inr (.inr hj)))))).trans e141 (fun _ h => h) (fun j hj => .inl (.inr (.inr (.inl hj))))
     ·rw [hw141]; exact jK hl140
     ·exact e141.heap hD140 (fun hh => by omega)
     ·exact t5.ext e141 (fun hh => by omega)
     ·exact t7.ext e141 (fun hh => by omega)
   ·rcases hcase with ⟨rfl, hp3⟩ | ⟨rfl, _⟩
    ·obtain ⟨s1, s2⟩ := hs137.set hF (((g.fin + 1 + k : Nat) : Int) + 1)
     refine ⟨_, hs137.o.cell 0 (by simp), ar (by omega), s1, fun w143 hw143 => ?_⟩
     obtain ⟨hs143, x143⟩ := s2 w143 hw143
     have hl143 := x143.heap hl137 (fun hh => by omega)
     refine ⟨hl143, fun w144 hw144 => .inl ⟨rfl, q3, d3, ?_, by rw [hw144]; exact jK hl143, by rw [hp3, hp, ua, ebase], by omega⟩⟩
     have := hs143.put hF hw144
     rw [show (((g.fin + 1 + k : Nat) : Int) + 1) = ((g.fin + 1 + (k + 1) : Nat) : Int) by omega] at this
     exact this
    ·cases h0
  have hcall := zm s b 64 lr b1 b2 J X (by omega) (by omega) (by omega) hsc (fun k w2 hj => ?_) (fun k w2 hj => ?_) step wb hJ0
  refine Calls.mono (show Calls Tryz.prog cu _ wb _ from hcall) ?_
  ·rintro e w149 ⟨rfl, ⟨k, hk1, hk2, hj⟩ | hx9⟩
   ·obtain ⟨q2, d2, hs149, hl149, hp149, hks⟩ := hj
    have hke : k = bT b.length := by unfold bT at hks ⊢; omega
    subst hke
    refine ⟨⟨_, rfl⟩, .inr ⟨hl149, fun w154 hw154 => ?_⟩⟩
    have hs154 := hs149.put hF hw154
    refine ⟨fun w2 => ∃ q2 d2, ml wb w2 rd r113 lr D q0 d0 q2 d2 ((g.fin + 1 + bT b.length : Nat) : Int) /\ d2.aI = wrL (64 * g.place + g.fin + 1) (sM b) (l8 g.fin b.length), ⟨_, hs154.o.cell 0 (by simp), af (fun h5 => ?_) (fun h5 => ?_)⟩, ?_⟩
    ·have hcn1 : l8 g.fin b.length = bT b.length + 1 := by unfold l8; rw [if_pos (by omega)]
     have kd : ah w154 (World.drew w154) := Ext.drew _ _
     have hsd := hs154.ae kd
     obtain ⟨a1, a2, a3, a4, a5, a6, a7, a8⟩ := at_ hsd
     refine ⟨_, a2.cell 0 (by simp), _, a5.cell 0 (by simp), aa rfl ⟨_, (gy _ a8).1, _, hsd.o.cell 0 (by simp), by omega, by omega, by omega, ao (fun r162 w163 hr162 hb162 k163 hs163 => ?_)⟩⟩
     have hs163' := hsd.ae k163
     have hz := Own.DE hb162
     obtain ⟨b1', b2', b3', b4', b5', b6', b7', b8'⟩ := at_ hs163'
     refine ⟨⟨_, hs163'.o.cell 0 (by simp), rfl⟩, ⟨_, (gy _ b8').1, rfl⟩, ⟨_, b5'.cell 0 (by simp), rfl⟩, ⟨_, b2'.cell 0 (by simp), rfl⟩, ?_⟩
     have hzz : sM b (bT b.length) = kV := by unfold sM; rw [if_neg (by omega)]
     have hn9 := atn hs163'
     refine (mP A b1'.c0 hs163'.dv g.place (g.fin + 1 + bT b.length) (by omega) _ kV hz.bytes rfl (b7'.sub gF) (h66.B.dn rd (.inl rfl)) (fun j hj hh => ?_) (by rw [hp149, mO]; omega)).mono ?_
     ·obtain ⟨a, ha, rfl⟩ := hj
      cases ha
      have h9 := hsd.dv.lt rd (.inl rfl)
      have : r162 = rd := hh
      omega
     rintro e w169 ⟨e', q3, d3, rfl, hD3, f3, hi3, hst3, hcase⟩
     have hs169 := hs163'.dev hF hD3 f3 hi3 hst3
     refine ⟨_, rfl, aF A _, aj (fun h0 => ?_) (fun h0 => ?_)⟩
     ·rcases hcase with ⟨rfl, _⟩ | ⟨rfl, hst, hp3⟩
      ·cases h0
      ·exact errT hs169 (atn hs169) hs169.st (by rw [<- hs163'.st]; exact hst) (crd (c := bT b.length) hs169.im hcs (by rw [hp3, hp149]))
     ·rcases hcase with ⟨rfl, hp3⟩ | ⟨rfl, _⟩
      ·refine ⟨q3, d3, hs169, ?_⟩
       rw [hp3, hp149, hcn1, ua, hzz]
       rw [show ((64 * g.place + (g.fin + 1 + bT b.length) : Nat) : Int) = ((64 * g.place + g.fin + 1 + bT b.length : Nat) : Int) by congr 1; omega]
      ·cases h0
    ·have hcn1 : l8 g.fin b.length = bT b.length := by unfold l8; rw [if_neg (by omega)]
     exact ⟨q2, d2, hs154, by rw [hcn1]; exact hp149⟩
    ·rintro w176 ⟨q2, d2, hs176, hp176⟩
     intros
     obtain ⟨a1, a2, a3, a4, a5, a6, a7, a8⟩ := at_ hs176
     have n9 := atn hs176
     refine ⟨_, a2.cell 0 (by simp), aa rfl ⟨_, a1.c0, (qI A hs176.dv (a7.sub gF) (h66.B.dn rd (.inl rfl)) (by rw [hp176, mO]; omega)).mono ?_⟩⟩
     rintro e w195 ⟨e', q3, d3, rfl, hD3, f3, hst3, hcase⟩
     refine ⟨_, rfl, aF A _, aj (fun h0 => ?_) (fun h0 => ?_)⟩
     ·rcases hcase with ⟨rfl, _⟩ | ⟨rfl, hst, hi3, hp3⟩
      ·cases h0
      ·have hs195 := hs176.dev hF hD3 f3 hi3 hst3
       exact errT hs195 (atn hs195) hs195.st (by rw [<- hs176.st]; exact hst) (crd (c := l8 g.fin b.length) hs195.im (Nat.le_refl _) (by rw [hp3, hp176]))
     ·rcases hcase.symm with ⟨rfl, _⟩ | ⟨rfl, hi3, hp3⟩
      ·cases h0
      rw [hp176, hs176.im] at hi3
      obtain ⟨c1', c2'⟩ := Er (img := d0.img) (yh b) (base := 64 * g.place + g.fin + 1) (c := l8 g.fin b.length) (by omega)
      rw [<- hi3] at c1' c2'
      have hs195 := hs176.H6 hF hD3 f3
      have hst30 : d3.stops = d0.stops := by rw [hst3, hs176.st]
      have kd : ah w195 (World.drew w195) := Ext.drew _ _
      have hsd := hs195.ae kd
      obtain ⟨z1, z2, z3, z4, z5, z6, z7, z8⟩ := at_ hsd
      rw [hsl]
      refine ⟨_, z2.cell 0 (by simp), _, z5.cell 0 (by simp), aa rfl ⟨_, (gy _ z8).1, _, z5.cell 0 (by simp), aa rfl ⟨_, (gy _ z8).2.2.2, (sC b.length 1 (by omega) _).mono ?_⟩⟩⟩
      rintro e w210 ⟨t, rfl, ht, htf, k210⟩
      have hs210 := hsd.ae k210
      obtain ⟨y1, y2, y3, y4, y5, y6, y7, y8⟩ := at_ hs210
      refine ⟨t, rfl, ⟨_, (gy _ y8).2.2.2, rfl⟩, ⟨_, y5.cell 0 (by simp), rfl⟩, ⟨_, (gy _ y8).1, rfl⟩, ⟨_, y5.cell 0 (by simp), rfl⟩, ⟨_, y2.cell 0 (by simp), rfl⟩, ?_⟩
      have hn3 : d3.n = d0.n := c1'
      have hz66 := h66.B.z
      have hnr : ¬ bp rd q3 r := fun hh => by
       rcases hs210.nb r hh with h1 | h1
       ·exact h66.B.nr h1
       ·have := hsl66 r (.inl (.inl rfl)); omega
      have hdn3 : ∀ k, bp rd q3 k -> n0 <= k := fun k hk => (hs210.nb k hk).elim (h66.B.dn k) (fun h1 => by omega)
      have zz210 := hs210.e.size
      refine (sL A y1.c0 hnr hs210.dv hp3 g.place g.fin (by unfold de at hfit; omega) t _ ht.bytes (bw _ _) (y7.sub gF) hdn3 (by omega) (uc hsd.dv htf)).mono ?_
      rintro e w218 ⟨e', q4, d4, rfl, hD4, f4, hst4, hcase4⟩
      have hs218 := hs210.H6 hF hD4 f4
      have ha3 : 64 * g.place + g.fin < d3.img.length / 64 := by unfold de at hfit; omega
      refine ⟨_, rfl, aF A _, aj (fun h0 => ?_) (fun h0 => ?_)⟩
      ·rcases hcase4 with ⟨rfl, _⟩ | ⟨rfl, hst', hi4, hp4⟩
       ·cases h0
       ·refine errT hs218 (by unfold aK.n; rw [hi4]; exact hn3) (by rw [hst4, hst30]) (by rw [<- hst30]; exact hst') ⟨by rcases hp4 with h9 | h9 <;> rw [h9] <;> simp, fun kept torn cut => ?_⟩
        rw [hi4]
        obtain ⟨v1, v2⟩ := C4 (a := 64 * g.place + g.fin) (img := d3.img) ha3 (bw b.length 1) hp4 kept torn cut
        have hS : ∀ i, i < 64 * (d.n / 64) -> i ≠ 64 * g.place + g.fin -> aW (crashL kept torn cut 0 d4.aI d3.img) i = if 64 * g.place + g.fin + 1 <= i /\ i < 64 * g.place + g.fin + 1 + l8 g.fin b.length then sM b (i - (64 * g.place + g.fin + 1)) else aW d0.img i := by
         intro i hi hne
         rw [v1 i (by omega) hne, c2' i (by omega)]
        rcases v2 with v2 | ⟨c', hc', v2⟩
        ·refine ⟨addRec (M ++ [g]) b, by simp, ?_⟩
         rw [j7]
         refine DK hI0 hb0 hfit (fun i hi => ?_)
         by_cases hne : i = 64 * g.place + g.fin
         ·rw [if_pos hne, hne, v2]
         ·rw [if_neg hne]; exact hS i hi hne
        ·refine ⟨M ++ [g], by simp, ?_⟩
         refine GX hI0 hfit hS ?_
         rw [v2, AL (bw _ _) hc' (jl ha3), c2' _ (by omega), if_neg (by omega)]
         exact mN hon.2 (by unfold de at hfit; show g.fin < 64; omega)
      ·rcases hcase4.symm with ⟨rfl, _⟩ | ⟨rfl, hi4, hp4⟩
       ·cases h0
       have hn4 : d4.n = d0.n := by
        show d4.img.length / 64 = _
        rw [hi4, lV ha3 (bw _ _) (Nat.le_refl _)]; exact hn3
       have hI4 : cI (aW d4.img) (d.n / 64) (M ++ [{ g with bP := g.bP ++ [b] }]) := by
        refine DK hI0 hb0 hfit (fun i hi => ?_)
        rw [hi4, lW ha3 (bw _ _) (by omega)]
        by_cases hne : i = 64 * g.place + g.fin
        ·rw [if_pos hne, if_pos hne]
        ·rw [if_neg hne, if_neg hne, c2' i (by omega)]
       have kd2 : ah w218 (World.drew w218) := Ext.drew _ _
       have hs2 := hs218.ae kd2
       obtain ⟨m1, m2, m3, m4, m5, m6, m7, m8⟩ := at_ hs2
       have r102c : ∀ {w2 : World}, ah (World.drew w218) w2 -> w2.cell? (⟨r102, 0, none⟩ : Addr) = some (av x.o) := fun hk => (m5.ae hk).cell 0 (by simp)
       refine ⟨_, r102c (Ext.refl _ _), _, r102c (Ext.refl _ _), _, r102c (Ext.refl _ _), aa rfl ⟨_, (gy _ m8).2.2.1, _, hs2.o.cell 0 (by simp), (fO s b _ m6 (by omega)).mono ?_⟩⟩
       rintro e w232 ⟨t2, rfl, ht2, htf2, k232⟩
       refine ⟨t2, rfl, ⟨_, (hs2.ae k232).o.cell 0 (by simp), rfl⟩, ⟨_, (gy _ (m8.ae k232)).2.2.1, rfl⟩, ⟨_, r102c k232, rfl⟩, ⟨_, r102c k232, rfl⟩, ⟨_, r102c k232, rfl⟩, ao (fun r239 w240 hr239 hb239 k239 hs239 => ?_)⟩
       have k240 := k232.trans k239
       have hs240 := hs2.ae k240
       have x240 := m8.ae k240
       refine ⟨⟨_, hs240.o.cell 0 (by simp), rfl⟩, ⟨_, (gy _ x240).2.2.1, rfl⟩, ⟨_, r102c k240, rfl⟩, ⟨_, r102c k240, rfl⟩, ⟨_, r102c k240, rfl⟩, ?_⟩
       have hrl := wv g.bP
       have hfd : g.fin = 1 + sumN g.bP := rfl
       have zdr : (World.drew w218).heap.size = w218.heap.size := rfl
       refine x240.r.snoc (cs := [t2.v]) (x := b) (z := [(⟨none, 0, 0⟩ : Slc).v]) rfl ⟨t2, rfl, (ht2.ae k239).bytes⟩ (fun k hk hh => ?_) hb239 (.inl (by simp)) (by omega) (fun s' w247 g1 g2 g3 => ?_)
       ·have h5 := htf2 k (gx hk).2
        have h6 := m8.r.lt k hh
        omega
       ·have nx : ∀ j, iK x j -> j < w66.heap.size /\ ¬ bp rd q0 j /\ j ≠ r5 /\ j ≠ r7 := fun j hj => ⟨hsl66 j (.inl (hxB j hj)), h66.B.sep j (hxB j hj), fun hh => ns r5 o5l n5 (by rw [<- hh]; exact .inl (hxB j hj)), fun hh => ns r7 o7l n7 (by rw [<- hh]; exact .inl (hxB j hj))⟩
        have zwb := hs240.e.size
        have zD4 : ∀ j, bp rd q4 j -> ¬ iK x j := fun j hj hh => by
         rcases hs240.nb j hj with h1 | h1
         ·exact (nx j hh).2.1 h1
         ·have := (nx j hh).1; omega
        have m240 := m1.ae k240
        have o247 := x240.o.ext g2 x240.n1
        have hs' : ¬ ai s' x.o := fun hh => by
         rcases g3 _ hh with h5 | h5
         ·exact x240.n1 h5
         ·have := x240.o.lt; omega
        have hxo := x240.o.lt
        -- what is left alone by the segment's cells
        have far : ∀ {w3 : World}, Ext (iK x) w240 w3 -> w3.cell? (⟨r102, 0, none⟩ : Addr) = some (av x.o) /\ aq w3 r113 [.int .i64 ((g.fin + 1 + bT b.length : Nat) : Int)] /\ aq w3 r5 [.int .i64 0] /\ aq w3 r7 [.nilIface] /\ w3.heap[D]? = some (.deferred (some [])) /\ aP w3 rd q4 d4 := by
         intro w3 hex
         have nn : ∀ j, w66.heap.size <= j -> ¬ iK x j := fun j hj hh => by have := (nx j hh).1; omega
         exact ⟨((m5.ae k240).ext hex (nn _ (by omega))).cell 0 (by simp), hs240.o.ext hex (nn _ (by omega)), (m3.ae k240).ext hex (fun hh => (nx _ hh).2.2.1 rfl), (m4.ae k240).ext hex (fun hh => (nx _ hh).2.2.2 rfl),
          hex.heap hs240.h (nn _ (by omega)), hs240.dv.ext hex (fun k hk hh => zD4 k hk hh)⟩
        have x247 : Ext (iK x) w240 w247 := g2.mono (fun k hk => .inr (.inl hk))
        obtain ⟨f1, f2, _⟩ := far x247
        obtain ⟨c3, c4⟩ := o247.bf 2 (by simp [pZ]) s'.v
        refine ⟨⟨_, f2.cell 0 (by simp), rfl⟩, ⟨_, f1, rfl⟩, ⟨_, f1, rfl⟩, aa rfl ?_⟩
        rw [add_lit]
        refine ⟨c3, fun w252 hw252 => ?_⟩
        obtain ⟨o252, e252, _⟩ := c4 w252 hw252
        have x252 : Ext (iK x) w240 w252 := x247.trans e252 (fun _ h => h) (fun k hk => .inl (.inl hk))
        obtain ⟨f3, f4, _⟩ := far x252
        obtain ⟨c5, c6⟩ := o252.bf 3 (by simp [pZ]) (.int .i64 ((g.fin + 1 + bT b.length : Nat) : Int))
        refine ⟨⟨_, f4.cell 0 (by simp), rfl⟩, ⟨_, f3, rfl⟩, aa rfl ?_⟩
        rw [add_lit]
        refine ⟨c5, fun w256 hw256 => ?_⟩
        obtain ⟨o256, e256, _⟩ := c6 w256 hw256
        have x256 : Ext (iK x) w240 w256 := x252.trans e256 (fun _ h => h) (fun k hk => .inl (.inl hk))
        obtain ⟨f5, f6, f7, f8, f9, f10⟩ := far x256
        have hcells : ((pZ g x.s).set 2 s'.v).set 3 (.int .i64 ((g.fin + 1 + bT b.length : Nat) : Int)) = pZ { g with bP := g.bP ++ [b] } s' := by
         simp only [pZ, List.set_cons_succ, List.set_cons_zero, aJ.fin, jM, de]
         rw [show 1 + sumN g.bP + 1 + bT b.length = 1 + (sumN g.bP + (1 + bT b.length)) by omega]
        have o256' : aq w256 x.o (pZ { g with bP := g.bP ++ [b] } s') := by rw [<- hcells]; exact o256
        have hf' : ∀ k, dK (x.css ++ [[t2.v]]) k -> (iK x k \/ w240.heap.size <= k \/ w218.heap.size <= k) /\ k ≠ x.o := by
         rintro k ⟨cs, hc2, hk⟩
         rcases List.mem_append.1 hc2 with h6 | h6
         ·exact ⟨.inl (.inr (.inr ⟨cs, h6, hk⟩)), x240.n2 k ⟨cs, h6, hk⟩⟩
         ·rw [List.mem_singleton] at h6; subst h6
          have h7 := htf2 k (gx hk).2
          have := m8.o.lt
          exact ⟨.inr (.inr (by omega)), by omega⟩
        have g256 : Rows pY w256 s' (g.bP ++ [b]) (x.css ++ [[t2.v]]) := (g1.ext e252 (fun k hk hh => hs' (by rw [<- show k = x.o from hh]; exact hk)) (fun k hk hh => (hf' k hk).2 hh)).ext e256 (fun k hk hh => hs' (by rw [<- show k = x.o from hh]; exact hk)) (fun k hk hh => (hf' k hk).2 hh)
        have sx : gj w256 ⟨x.o, s', x.css ++ [[t2.v]]⟩ { g with bP := g.bP ++ [b] } := ⟨o256', g256, hs', fun k hk => (hf' k hk).2⟩
        -- the new blocks are new, as of w218
        have sxB : ∀ k, iK ⟨x.o, s', x.css ++ [[t2.v]]⟩ k -> iK x k \/ w218.heap.size <= k := by
         have zz := k240.size
         rintro k (hk | hk | hk)
         ·exact .inl (.inl hk)
         ·rcases g3 k hk with h5 | h5
          ·exact .inl (.inr (.inl h5))
          ·exact .inr (by omega)
         ·rcases (hf' k hk).1 with h5 | h5 | h5
          ·exact .inl h5
          ·exact .inr (by omega)
          ·exact .inr h5
        have x256' : Ext (iK x) (World.drew w218) w256 := Ext.trans k240 x256 (fun _ h => h.elim) (fun _ h => .inl h)
        obtain ⟨SU, BU⟩ := m1.upd hxi hxe x256' sx sxB rfl
        refine ⟨_, f5, aa rfl ⟨_, (gy _ sx).2.1, ?_⟩⟩
        obtain ⟨c7, c8⟩ := f7.bf 0 (by simp) (.int .i64 (g.num : Int))
        refine ⟨c7, fun w260 hw260 => ?_⟩
        obtain ⟨o260, e260, _⟩ := c8 w260 hw260
        obtain ⟨c9, c10⟩ := (f8.ext e260 (fun hh => by omega)).bf 0 (by simp) (.nilIface)
        refine ⟨c9, fun w261 hw261 => ?_⟩
        obtain ⟨o261, e261, _⟩ := c10 w261 hw261
        have hD261 := e261.heap (e260.heap f9 (fun hh => by omega)) (fun hh => by omega)
        refine ⟨hD261, fun w262 hw262 => ?_⟩
        have e262 : Ext (fun j => j = D) w261 w262 := by rw [hw262]; exact Ext.putObj _ _ _
        have xe : Ext (fun j => j = r5 \/ j = r7 \/ j = D) w256 w262 := ((e260.mono (fun j hj => .inl hj)).trans e261 (fun _ h => h) (fun j hj => .inl (.inr (.inl hj)))).trans e262 (fun _ h => h) (fun j hj => .inl (.inr (.inr hj)))
        have zwb2 := hs218.e.size
        have nU : ∀ k, StB r ⟨u0.sp, u0.xs.take M.length ++ [⟨x.o, s', x.css ++ [[t2.v]]⟩]⟩ k -> k ≠ r5 /\ k ≠ r7 /\ k ≠ D := fun k hk => by
         rcases BU k hk with h1 | h1
         ·have := hsl66 k (.inl h1)
          exact ⟨fun hh => ns r5 o5l n5 (by rw [<- hh]; exact .inl h1), fun hh => ns r7 o7l n7 (by rw [<- hh]; exact .inl h1), by omega⟩
         ·exact ⟨by omega, by omega, by omega⟩
        have nQ : ∀ k, bp rd q4 k -> k ≠ r5 /\ k ≠ r7 /\ k ≠ D := fun k hk => by
         rcases hs240.nb k hk with h1 | h1
         ·have := hsl66 k (.inr h1)
          exact ⟨fun hh => ns r5 o5l n5 (by rw [<- hh]; exact .inr h1), fun hh => ns r7 o7l n7 (by rw [<- hh]; exact .inr h1), by omega⟩
         ·exact ⟨by omega, by omega, by omega⟩
        refine ⟨_, (o260.ext e261 (fun hh => by omega)).ext e262 (fun hh => by omega) |>.cell 0 (by simp), _, (o261.ext e262 (fun hh => by omega)).cell 0 (by simp), hK (g.num : Int) none w262 ?_⟩
        have happ2 : j8 (d.n / 64) L b = (none, (g.num : Int), M ++ [{ g with bP := g.bP ++ [b] }]) := by
         rw [happ, hbase]
         show (none, lastN (M ++ [g]), addRec (M ++ [g]) b) = _
         rw [l9, j7]
        have fD := f10.ext xe (fun k hk hh => by
         obtain ⟨v1, v2, v3⟩ := nQ k hk
         rcases hh with hh | hh | hh
         ·exact v1 hh
         ·exact v2 hh
         ·exact v3 hh)
        have hst4' : d4.stops = d.stops := by rw [hst4, hst30, hst0]
        refine ⟨q4, d4, fD, by rw [hn4, hn0], hst4', .inr (.inl ⟨by rw [happ2], rfl, by rw [happ2], ⟨u0.sp, u0.xs.take M.length ++ [⟨x.o, s', x.css ++ [[t2.v]]⟩]⟩, ?_, ?_, fun k hk => ?_⟩)⟩
        ·rw [happ2]
         refine ⟨⟨SU.ext xe (fun k hk hh => by
          obtain ⟨v1, v2, v3⟩ := nU k hk
          rcases hh with hh | hh | hh
          ·exact v1 hh
          ·exact v2 hh
          ·exact v3 hh), fD, fun k hk hh => ?_, fun k hk => (hs240.nb k hk).elim (h66.B.dn k) (fun h1 => by omega), fun k hk => ?_, ?_⟩, hp4, by rw [hn4, hkn]; exact hI4, fun y hy => ?_, by rw [hn4, hkn]; exact hk⟩
         ·rcases BU k hk with h1 | h1
          ·rcases hs240.nb k hh with h2 | h2
           ·exact h66.B.sep k h1 h2
           ·have := hsl66 k (.inl h1); omega
          ·have := hD4.lt k hh; omega
         ·rcases BU k hk with h1 | h1
          ·exact h66.B.sn k h1
          ·omega
         ·have := xe.size; have := x256.size; omega
         ·rcases List.mem_append.1 hy with h1 | h1
          ·exact h66.N y (by simp [h1])
          ·rw [List.mem_singleton] at h1; subst h1
           exact h66.N g (by simp)
        ·have xbig : Ext (fun k => cJ r u0 rd q0 k \/ k = r113 \/ k = lr \/ k = D \/ k = r5 \/ k = r7) wb w262 := by
          refine (((hs240.e.mono (fun j hj => ?_)).trans x256 (fun _ h => h) (fun j hj => .inl (.inl (.inl (hxB j hj)))))).trans xe (fun _ h => h) (fun j hj => ?_)
          ·rcases hj with hj | hj | hj
           ·exact .inl (.inr hj)
           ·exact .inr (.inl hj)
           ·exact .inr (.inr (.inl hj))
          ·rcases hj with hj | hj | hj
           ·exact .inl (.inr (.inr (.inr (.inr (.inl hj)))))
           ·exact .inl (.inr (.inr (.inr (.inr (.inr hj)))))
           ·exact .inl (.inr (.inr (.inr (.inl hj))))
         refine (((k8.kh f66).1.trans kd66 (fun _ h => h) (fun _ h => h.elim)).trans kb (fun _ h => h) (fun _ h => h.elim)).trans xbig (fun _ h => h) (fun k hk => ?_)
         rcases hk with hk | hk
         ·rcases hsub k hk with h1 | h1
          ·exact .inl h1
          ·exact .inr (by omega)
         ·right; omega
        ·have zkb := kb.size
         rcases hk with hk | hk
         ·rcases BU k hk with h1 | h1
          ·rcases hsub k (.inl h1) with h2 | h2
           ·exact .inl h2
           ·exact .inr (by omega)
          ·exact .inr (by omega)
         ·rcases hs240.nb k hk with h1 | h1
          ·rcases hsub k (.inr h1) with h2 | h2
           ·exact .inl h2
           ·exact .inr (by omega)
          ·exact .inr (by omega)
   ·obtain ⟨q2, d2, x1, x2, x3, x4, x5, x6, x7, x8, x9, x10, x11⟩ := hx9
    refine ⟨⟨_, rfl⟩, .inl ⟨x8, fun w150 hw150 => ?_⟩⟩
    have e150 : Ext (fun j => j = lr) w149 w150 := by rw [hw150]; exact Ext.putObj _ _ _
    have nlr : ∀ j, bp rd q2 j -> j ≠ lr := fun j hj => by
     obtain ⟨f1, f2, f3⟩ := hF.a
     rcases x7 j hj with h1 | h1
     ·exact fun hh => hF.b.2.1 (hh ▸ h1)
     ·omega
    refine tail (x1.ext e150 (fun j hj hh => nlr j hj hh)) x2 x3 x4 x5 ?_ x7 (e150.heap x9 (fun hh => by omega)) (x10.ext e150 (fun hh => by omega)) (x11.ext e150 (fun hh => by omega))
    exact x6.trans e150 (fun _ h => h) (fun j hj => .inl (.inr (.inr (.inl hj))))
  ·obtain ⟨q2, d2, hs, hl, hp, hks⟩ := hj
   have nb : ∀ j, w66.heap.size <= j -> j ≠ r113 -> j ≠ lr -> ¬ (bp rd q0 j \/ j = r113 \/ j = lr) := fun j h1 h2 h3 hh => by
    rcases hh with hh | hh | hh
    ·exact nD j h1 (.inr hh)
    ·exact h2 hh
    ·exact h3 hh
   exact ⟨(ob1b.ext hs.e (nb _ (by omega) (by omega) (by omega))).cell 0 (by simp), (ob2b.ext hs.e (nb _ (by omega) (by omega) (by omega))).cell 0 (by simp), (at_ hs).2.2.2.2.2.1⟩
  ·obtain ⟨q2, d2, hs, hl, hp, hks⟩ := hj
   exact ⟨q2, d2, hs.ae (Ext.drew _ _), hl, hp, hks⟩
end Go.D
namespace Go.D
open Go Go.Proofs
def C7 (o : Nat) : List Value := [av o]
theorem B5 {o k : Nat} : ¬ lK (C7 o) k := by rintro ⟨s, hs, _⟩; simp [C7, Slc.v] at hs
theorem Es {l : List Nat} {k : Nat} : ¬ dK (l.map C7) k := by
 rintro ⟨cs, hc, hk⟩
 obtain ⟨x, _, rfl⟩ := List.mem_map.1 hc
 exact B5 hk
def It : AA Nat where
 n := 1
 pos := by omega
 R _ x cs := cs = C7 x
 len h := by rw [h]; rfl
 one h := by rw [h]; intro v hv; simp [C7] at hv; subst hv; rfl
 ext h _ _ := h
 lt h := by rw [h]; intro k hk; exact (B5 hk).elim
theorem B6 (l : List Nat) : (l.map C7).flatten = l.map fun x => av x := by
 induction l with
 | nil => rfl
 | cons a l ih => rw [List.map_cons, List.flatten_cons, ih]; rfl
theorem FF {w : World} {s : Slc} {l : List Nat} (h : Own w s 1 (l.map fun x => av x)) : Rows It w s l (l.map C7) :=
 ⟨by rw [B6]; exact h, by simp, fun i h1 h2 => by rw [List.getElem_map]; rfl, fun k hk => (Es hk).elim⟩
theorem qY {α β : Type} (f : α -> β) (l : List α) (i : Nat) : (l.map f).eraseIdx i = (l.eraseIdx i).map f := by
 rw [List.eraseIdx_eq_take_drop_succ, List.eraseIdx_eq_take_drop_succ, List.map_append, List.map_take, List.map_drop]
theorem zn {sz : Nat} {E : TypeId} {z : List Value} {w : World} {s : Slc} {src : Src} {K K' : Slc -> World -> Prop} (h : ak sz E z w s src K) (hk : ∀ s w, K s w -> K' s w) : ak sz E z w s src K' := by
 obtain ⟨old, new, c1, c2, c3, c4, c5, c6, c7⟩ := h
 exact ⟨old, new, c1, c2, c3, c4, c5, c6, fun s7 w8 hA => hk _ _ (c7 s7 w8 hA)⟩
theorem AO {w : World} {s : Slc} {l : List Nat} (h : Own w s 1 (l.map fun x => av x)) {i : Nat} (hi : i < l.length) (hl : l.length <= 2 ^ 30) :
  Calls Tryz.prog eH ⟨[s.v, .int .i64 (i : Int), .int .i64 ((i : Int) + 1)]⟩ w fun e w' => e = .returned (Slc.v ⟨s.p, s.l - 1, s.c⟩) /\ Own w' ⟨s.p, s.l - 1, s.c⟩ 1 ((l.eraseIdx i).map fun x => av x) /\ Ext (ai s) w w' := by
 refine nk _ _ _ ?_
 unfold jz
 have hR := FF h
 have hsl := hR.sl
 have hcap := hR.cap
 refine ⟨by omega, by omega, by omega, by omega, af (fun hh => by omega) (fun _ => ⟨by omega, by omega, by omega, by omega, by omega, by omega, by omega, by omega, ?_⟩)⟩
 have hd := hR.ae (Ext.drew _ w)
 rw [show Int.toNat (i : Int) = i by omega, show Int.toNat ((i : Int) + 1) = i + 1 by omega]
 refine zn (hd.cut (z := [.pointer none]) (K := fun w' => Own w' ⟨s.p, s.l - 1, s.c⟩ 1 ((l.eraseIdx i).map fun x => av x) /\ Ext (ai s) w.drew w') (i := i) (by simpa using hi) rfl (fun v hv => by simp at hv; subst hv; rfl) hl (fun w' g1 g2 g3 => ⟨by
  have := g1.own
  rw [qY, B6] at this
  exact this, g2⟩)) ?_
 rintro s7 w8 ⟨rfl, g⟩
 refine ⟨by omega, ?_, ?_, ?_, ?_⟩
 ·show ((s.l - 1 : Nat) : Int) <= _; omega
 ·show ((s.l : Nat) : Int) <= ((s.c : Nat) : Int); omega
 ·exact Int.le_refl _
 exact g.mono (fun w1 hg => ⟨rfl, hg.1, (Ext.drew _ _).trans hg.2 (fun _ h => h) (fun _ h => .inl h)⟩)
theorem eO.erase {w w' : World} {r rd : Nat} {u : StP} {L : List aJ} (h : eO w r rd u L) {i : Nat} (hi : i < L.length) {s' : Slc} (hs : s'.p = u.sp.p) (he : Ext (fun k => k = r \/ ai u.sp k) w w') (ho : aq w' r [av rd, s'.v]) (hw : Own w' s' 1 ((u.xs.eraseIdx i).map fun x => av x.o)) :
  eO w' r rd ⟨s', u.xs.eraseIdx i⟩ (L.eraseIdx i) /\ ∀ k, StB r ⟨s', u.xs.eraseIdx i⟩ k -> StB r u k := by
 have hlen := h.len
 have hob : ∀ k, ai s' k ↔ ai u.sp k := fun k => by unfold ai; rw [hs]
 have hsub := List.eraseIdx_sublist u.xs i
 refine ⟨⟨ho, hw, by rw [List.length_eraseIdx_of_lt (by omega), List.length_eraseIdx_of_lt hi, hlen], fun j h1 h2 => ?_, h.sep.sublist hsub, fun hh => h.sr ((hob r).1 hh), fun x hx k hk => ?_⟩, ?_⟩
 ·dsimp only at h1 ⊢
  rw [List.length_eraseIdx_of_lt (by omega)] at h1
  have key : ∀ j (hj : j < u.xs.length), gj w' u.xs[j] (L[j]'(by omega)) := fun j hj => (h.g j hj (by omega)).ext he (fun k hk hh => by
   obtain ⟨v1, v2⟩ := h.ds _ (List.getElem_mem hj) k hk
   exact hh.elim v1 v2)
  rw [List.getElem_eraseIdx, List.getElem_eraseIdx]
  by_cases e : j < i
  ·rw [dif_pos e, dif_pos e]; exact key j (by omega)
  ·rw [dif_neg e, dif_neg e]; exact key (j + 1) (by omega)
 ·obtain ⟨v1, v2⟩ := h.ds x (hsub.subset hx) k hk
  exact ⟨v1, fun hh => v2 ((hob k).1 hh)⟩
 ·rintro k (hk | hk | ⟨x, hx, hk⟩)
  ·exact .inl hk
  ·exact .inr (.inl ((hob k).1 hk))
  ·exact .inr (.inr ⟨x, hsub.subset hx, hk⟩)
def dropR (L : List aJ) (n : Int) : Option Nat × List aJ :=
 match L.findIdx? (fun g => decide ((g.num : Int) = n)) with
 | none => (some 15, L)
 | some i => if i + 1 = L.length then (some 16, L) else (none, L.eraseIdx i)
theorem yj {L : List aJ} {n : Int} (h : seekI (fun g => decide ((g.num : Int) = n)) L = -1) : dropR L n = (some 15, L) := by
 unfold seekI at h
 unfold dropR
 split at h
 ·omega
 ·rename_i h2; rw [h2]
theorem yk {L : List aJ} {n : Int} {i : Nat} (h : seekI (fun g => decide ((g.num : Int) = n)) L = i) : dropR L n = if i + 1 = L.length then (some 16, L) else (none, L.eraseIdx i) := by
 unfold seekI at h
 unfold dropR
 split at h
 ·rename_i j h2
  have : j = i := by omega
  subst this
  rw [h2]
 ·omega
def FG (A : Nat -> Addr) (w : World) (n0 r rd : Nat) (u : StP) (q : cU) (d : aK) (L : List aJ) (m : Nat) (n : Int) (e' : Option Nat) (w' : World) : Prop :=
  ∃ (q' : cU) (d' : aK), aP w' rd q' d' /\ d'.n = d.n /\ d'.stops = d.stops /\
    ((dropR L n).1 ≠ none /\ e' = (dropR L n).1 /\ q' = q /\ d' = d /\ ah w w' \/
     (dropR L n).1 = none /\ e' = none /\ (∃ u', Sys w' n0 r rd u' q' d' (dropR L n).2 m /\ bJ (cJ r u rd q) (cJ r u' rd q') w w') \/
     (dropR L n).1 = none /\ e' = some 11 /\ d.stops = true /\ ud d' (d.n / 64) [L, (dropR L n).2] /\ bJ (cJ r u rd q) (bp rd q') w w')
theorem C8 {w : World} {n0 r rd m : Nat} {u : StP} {q : cU} {d : aK} {L : List aJ} (A : Nat -> Addr) (h : Sys w n0 r rd u q d L m) (hE : bK yf A n0 w) (hm : m <= 2 ^ 60) (n : Int) :
  Calls Tryz.prog iB ⟨[av r, .int .i64 n]⟩ w fun e w' => ∃ e', e = .returned (cm A e') /\ FG A w n0 r rd u q d L m n e' w' := by
 refine rX _ _ ?_
 unfold pF
 have hLk := h.len
 have hk := h.k
 have hSl := h.B.S.sl
 have hnn : d.n = d.img.length / 64 := rfl
 refine (ya h.B.S n (by omega)).mono ?_
 rintro e w4 ⟨rfl, k4⟩
 have h4 := h.ae k4
 have hE4 := hE.ae k4
 rcases pc (fun g => decide ((g.num : Int) = n)) L with ⟨e1, _, _⟩ | ⟨i, hi, e1, hf, _, _⟩
 ·rw [e1]
  have hdr := yj e1
  refine ⟨_, rfl, af (fun _ => ⟨_, eb hE4 15 lH rfl (by decide), some 15, rfl, q, d, h4.B.D, rfl, rfl, .inl ⟨by rw [hdr]; simp, by rw [hdr], rfl, rfl, k4⟩⟩) (fun h0 => absurd (show (-1 : Int) < 0 by omega) h0)⟩
 ·rw [e1]
  have hdr := yk e1
  have hn : (L[i].num : Int) = n := by simpa using hf
  subst hn
  refine ⟨_, rfl, af (fun h0 => by omega) (fun _ => aa rfl ⟨_, h4.B.S.c1, ar (by omega), af (fun h0 => ?_) (fun h0 => ?_)⟩)⟩
  ·rw [if_pos (by omega)] at hdr
   exact ⟨_, eb hE4 16 iR rfl (by decide), some 16, rfl, q, d, h4.B.D, rfl, rfl, .inl ⟨by rw [hdr]; simp, by rw [hdr], rfl, rfl, k4⟩⟩
  ·rw [if_neg (by omega)] at hdr
   have kd : ah w4 (World.drew w4) := Ext.drew _ _
   have hd := h4.ae kd
   obtain ⟨a, x, ha, hc, hx, hxi, hxe⟩ := hd.B.S.at hi
   refine aa rfl ⟨_, hd.B.S.c1, aa ha ⟨by omega, by omega, _, by rw [Int.toNat_natCast]; exact hc, aa rfl ⟨_, (gy _ hx).1, ?_⟩⟩⟩
   have hNi := h.N _ (List.getElem_mem hi)
   refine (sC L[i].num 2 (by omega) _).mono ?_
   rintro e w17 ⟨t, rfl, ht, htf, k17⟩
   have h17 := hd.ae k17
   have hpl := h.I.pl _ (List.getElem_mem hi)
   refine ⟨t, rfl, ⟨_, (gy _ (hx.ae k17)).1, rfl⟩, ⟨_, by rw [Int.toNat_natCast]; exact k17.cell hc, rfl⟩, ⟨_, h17.B.S.c1, rfl⟩, ?_⟩
   have k17' : ah w w17 := (k4.trans kd).trans k17
   refine (sL A h17.B.S.c0 h17.B.nr h17.B.D h.p L[i].place 0 (by omega) t _ ht.bytes (bw _ _) ((hE.ae k17').sub gF) h17.B.dn h17.B.z (uc hd.B.D htf)).mono ?_
   rintro e w23 ⟨e', q', d', rfl, hD', f', hst', hcase⟩
   have ha3 : 64 * L[i].place + 0 < d.img.length / 64 := by omega
   have hon := h.I.on _ (List.getElem_mem hi)
   have h0s : aW d.img (64 * L[i].place) = fv L[i].num 1 := hon.1
   refine ⟨_, rfl, aF A _, aj (fun h2 => ?_) (fun h2 => ?_)⟩
   ·rcases hcase with ⟨rfl, _⟩ | ⟨rfl, hs, hi', hp'⟩
    ·cases h2
    ·refine ⟨some 11, rfl, q', d', hD', by unfold aK.n; rw [hi'], hst', .inr (.inr ⟨by rw [hdr], rfl, hs, ⟨by rcases hp' with h9 | h9 <;> rw [h9] <;> simp, fun kept torn cut => ?_⟩, bJ.FA (k17'.kh f')⟩)⟩
     rw [hi', hdr]
     obtain ⟨v1, v2⟩ := C4 (a := 64 * L[i].place + 0) (img := d.img) ha3 (bw L[i].num 2) hp' kept torn cut
     simp only [Nat.add_zero] at v1 v2
     rcases v2 with v2 | ⟨c, hc9, v2⟩
     ·refine ⟨L.eraseIdx i, by simp, h.I.drop hi (fun j hj hne => v1 j (by omega) hne) ?_⟩
      rw [v2, tS]; decide
     ·refine ⟨L, by simp, ?_⟩
      rw [h0s, CW _ _ _ hc9] at v2
      refine h.I.tail (List.getElem_mem hi) (fun j hj hno => ?_) (fun hfl => ?_)
      ·by_cases e9 : j = 64 * L[i].place
       ·rw [e9, v2, h0s]
       ·exact v1 j (by omega) e9
      ·have hf1 : 1 <= (L[i]).fin := by unfold aJ.fin; omega
       rw [v1 _ (by omega) (by omega)]
       exact mN hon.2 hfl
   ·rcases hcase.symm with ⟨rfl, _⟩ | ⟨rfl, hi', hp'⟩
    ·cases h2
    have h23 := h17.B.dev hD' f'
    have hn' : d'.n = d.n := by
     show d'.img.length / 64 = _
     rw [hi', lV ha3 (bw _ _) (Nat.le_refl _)]; exact hnn.symm
    have hI' : cI (aW d'.img) (d.n / 64) (L.eraseIdx i) := by
     refine h.I.drop hi (fun j hj hne => ?_) ?_
     ·rw [hi', lW ha3 (bw _ _) (by omega), if_neg (by omega)]
     ·rw [hi', lW ha3 (bw _ _) (by omega), if_pos (by omega), tS]; decide
    refine aa rfl ⟨_, h23.S.c1, ar (by omega), ?_⟩
    have hlen := h.B.S.len
    have how : Own w23 u.sp 1 ((u.xs.map (·.o)).map fun x => av x) := by rw [List.map_map]; exact h23.S.s
    refine (AO how (i := i) (by simp; omega) (by simp; omega)).mono ?_
    rintro e w28 ⟨rfl, ho28, e28⟩
    have o28 := h23.S.o.ext e28 h23.S.sr
    obtain ⟨c1, c2⟩ := o28.bf 1 (by simp) (Slc.v ⟨u.sp.p, u.sp.l - 1, u.sp.c⟩)
    refine ⟨_, rfl, aa rfl ?_⟩
    rw [add_lit]
    refine ⟨c1, fun w31 hw31 => ?_⟩
    obtain ⟨o31, e31, _⟩ := c2 w31 hw31
    have hob : ∀ k, ai (⟨u.sp.p, u.sp.l - 1, u.sp.c⟩ : Slc) k -> ai u.sp k := fun k hk => hk
    have ho31 := ho28.ext e31 (fun k hk hh => h23.S.sr (by rw [<- show k = r from hh]; exact hob k hk))
    rw [<- qY, List.map_map, qY] at ho31
    have x31 : Ext (fun k => k = r \/ ai u.sp k) w23 w31 := (e28.mono (fun k hk => .inr hk)).trans e31 (fun _ h => h) (fun k hk => .inl (.inl hk))
    obtain ⟨SU, BU⟩ := h23.S.erase hi (s' := ⟨u.sp.p, u.sp.l - 1, u.sp.c⟩) rfl x31 o31 ho31
    have hD31 := hD'.ext x31 (fun k hk hh => h23.sep k (hh.elim .inl (fun h => .inr (.inl h))) hk)
    refine ⟨none, rfl, q', d', hD31, hn', hst', .inr (.inl ⟨by rw [hdr], rfl, ⟨⟨u.sp.p, u.sp.l - 1, u.sp.c⟩, u.xs.eraseIdx i⟩, ?_, ?_⟩)⟩
    ·rw [hdr]
     exact ⟨⟨SU, hD31, fun k hk => h23.sep k (BU k hk), h23.dn, fun k hk => h23.sn k (BU k hk), Nat.le_trans h23.z x31.size⟩, hp', by rw [hn']; exact hI', fun g hg => h.N g ((List.eraseIdx_sublist L i).subset hg), by rw [hn']; exact hk⟩
    ·have fA : bJ (cJ r u rd q) (cJ r u rd q') w w23 := bJ.dev (k17'.kh f')
     refine ⟨fA.1.trans x31 (fun _ h => h) (fun k hk => .inl (.inl (hk.elim .inl (fun h => .inr (.inl h))))), fun k hk => ?_⟩
     exact fA.2 k (hk.imp (BU k) (fun h => h))
end Go.D
namespace Go.D
def bQ (n : Nat) : List UInt8 :=
 if h : n < 128 then [UInt8.ofNat n] else UInt8.ofNat (n % 128 + 128) :: bQ (n / 128)
termination_by n
decreasing_by omega
theorem ma : ∀ (n j : Nat), n < 128 ^ (j + 1) -> (bQ n).length <= j + 1
 | n, 0, h => by rw [bQ.eq_1, dif_pos (by simpa using h)]; simp
 | n, j + 1, h => by
  rw [bQ.eq_1]
  split
  ·simp
  ·have := ma (n / 128) j (by rw [Nat.pow_succ] at h; omega)
   simp; omega
theorem FH (n : Nat) : 0 < (bQ n).length := by
 rw [bQ.eq_1]; split <;> simp
theorem AP {n : Nat} (h : n < 128) : bQ n = [UInt8.ofNat n] := by rw [bQ.eq_1, dif_pos h]
theorem AQ {n : Nat} (h : ¬ n < 128) : bQ n = UInt8.ofNat (n % 128 + 128) :: bQ (n / 128) := by rw [bQ.eq_1, dif_neg h]
end Go.D
namespace Go.D
def pf (n : Int) : List UInt8 := bQ n.toNat
def uh (t : List UInt8) : List UInt8 := bQ t.length ++ t
theorem ou (n : Int) (h : n <= 2 ^ 40) : (pf n).length <= 6 := ma n.toNat 5 (by omega)
theorem Et (t : List UInt8) (h : t.length <= 2 ^ 20) : (uh t).length <= 6 + t.length := by
 have := ma t.length 5 (by omega)
 unfold uh; rw [List.length_append]; omega
end Go.D
namespace Go.D
open Go
inductive Rc where
 | dO (at_ : Nat) (t : List UInt8)
 | trim (to ep : Nat)
 | shut (ep : Nat)
def encR : Rc -> List UInt8
 | .dO a t => pf 1 ++ (pf (a : Int) ++ uh t)
 | .trim t e => pf 2 ++ (pf (t : Int) ++ pf (e : Int))
 | .shut e => pf 3 ++ pf (e : Int)
def okR : Rc -> Prop
 | .dO a t => a < 4096 /\ 1 <= t.length /\ t.length <= 2048
 | .trim t e => t <= 4096 /\ e <= 2 ^ 30
 | .shut e => e <= 2 ^ 30
theorem yl (n : Int) : 0 < (pf n).length := by
 unfold pf bQ
 split <;> simp
theorem j9 {x : Rc} (h : okR x) : 0 < (encR x).length /\ (encR x).length <= 2066 := by
 have h6 : ∀ n : Nat, n <= 2 ^ 40 -> (pf (n : Int)).length <= 6 := fun n hn => ou _ (by omega)
 have h1 := ou 1 (by omega)
 have h2 := ou 2 (by omega)
 have h3 := ou 3 (by omega)
 have p1 := yl 1
 have p2 := yl 2
 have p3 := yl 3
 cases x with
 | dO a t =>
  obtain ⟨v1, v2, v3⟩ := h
  have g1 := h6 a (by omega)
  have g2 := Et t (by omega)
  simp only [encR, List.length_append]; omega
 | trim t e =>
  obtain ⟨v1, v2⟩ := h
  have g1 := h6 t (by omega)
  have g2 := h6 e (by omega)
  simp only [encR, List.length_append]; omega
 | shut e =>
  have v1 : e <= 2 ^ 30 := h
  have g1 := h6 e (by omega)
  simp only [encR, List.length_append]; omega
def mb (x : Nat × Nat) : Rc -> Nat × Nat
 | .dO _ _ => x
 | .trim t e => (t, e)
 | .shut e => (x.1, e)
def AR (R : List Rc) : Nat × Nat := R.foldl mb (0, 0)
theorem uV (R : List Rc) (x : Rc) : AR (R ++ [x]) = mb (AR R) x := by simp [AR]
def pagesOf : List Rc -> List (Nat × List UInt8)
 | [] => []
 | .dO a t :: r => (a, t) :: pagesOf r
 | .trim _ _ :: r => pagesOf r
 | .shut _ :: r => pagesOf r
theorem aR (R S : List Rc) : pagesOf (R ++ S) = pagesOf R ++ pagesOf S := by
 induction R with
 | nil => rfl
 | cons x r ih => cases x <;> simp [pagesOf, ih]
def cQ (P : List (Nat × List UInt8)) (a : Nat) : Option (List UInt8) := (P.find? (fun x => x.1 == a)).map (·.2)
def ef (P : List (Nat × List UInt8)) : Nat := P.foldl (fun m x => max m (x.1 + 1)) 0
theorem C9 (P : List (Nat × List UInt8)) (x : Nat × List UInt8) : ef (P ++ [x]) = max (ef P) (x.1 + 1) := by simp [ef]
theorem mS (P : List (Nat × List UInt8)) (a : Nat) (t : List UInt8) (x : Nat) : cQ (P ++ [(a, t)]) x = match cQ P x with | some y => some y | none => if a = x then some t else none := by
 unfold cQ
 rw [List.find?_append]
 cases h : P.find? (fun y => y.1 == x) with
 | some y => rfl
 | none =>
  by_cases e : a = x
  ·subst e; simp
  ·simp [e]
structure aO where
 place : Nat
 num : Nat
 rs : List Rc
def aO.s (g : aO) : aJ := ⟨g.place, g.num, g.rs.map encR⟩
abbrev sU (U : List aO) : List aJ := U.map aO.s
def fo (U : List aO) : List Rc := U.flatMap (·.rs)
theorem qZ (M : List aO) (g : aO) : fo (M ++ [g]) = fo M ++ g.rs := by simp [fo]
def okU (U : List aO) : Prop := ∀ g ∈ U, ∀ x ∈ g.rs, okR x
end Go.D
namespace Go.D
open Go
theorem vy {P : List (Nat × List UInt8)} {a : Nat} : cQ P a = none ↔ ∀ x ∈ P, x.1 ≠ a := by
 unfold cQ
 rw [Option.map_eq_none_iff, List.find?_eq_none]
 constructor
 ·intro h x hx e
  exact h x hx (by simp [e])
 ·intro h x hx
  simpa using h x hx
theorem rG {P Q : List (Nat × List UInt8)} {a : Nat} (h : ∀ x ∈ P, x.1 ≠ a) : cQ (P ++ Q) a = cQ Q a := by
 unfold cQ
 rw [List.find?_append, List.find?_eq_none.2 (fun x hx => by simpa using h x hx)]
 rfl
theorem ke {P : List (Nat × List UInt8)} {n : Nat} : ef P <= n ↔ ∀ x ∈ P, x.1 < n := by
 have key : ∀ (P : List (Nat × List UInt8)) (m : Nat), P.foldl (fun m x => max m (x.1 + 1)) m <= n ↔ m <= n /\ ∀ x ∈ P, x.1 < n := by
  intro P
  induction P with
  | nil => intro m; simp
  | cons y P ih =>
   intro m
   rw [List.foldl_cons, ih]
   simp only [List.mem_cons, forall_eq_or_imp]
   constructor
   ·rintro ⟨h1, h2⟩; exact ⟨by omega, by omega, h2⟩
   ·rintro ⟨h1, h2, h3⟩; exact ⟨by omega, h3⟩
 unfold ef
 rw [key]
 simp
theorem ui (P Q : List (Nat × List UInt8)) : ef (P ++ Q) = max (ef P) (ef Q) := by
 apply Nat.le_antisymm
 ·rw [ke]
  intro x hx
  rcases List.mem_append.1 hx with h | h
  ·have := ke.1 (Nat.le_refl (ef P)) x h; omega
  ·have := ke.1 (Nat.le_refl (ef Q)) x h; omega
 ·have h1 : ef P <= ef (P ++ Q) := ke.2 (fun x hx => ke.1 (Nat.le_refl _) x (by simp [hx]))
  have h2 : ef Q <= ef (P ++ Q) := ke.2 (fun x hx => ke.1 (Nat.le_refl _) x (by simp [hx]))
  omega
abbrev pgU (U : List aO) : List (Nat × List UInt8) := pagesOf (fo U)
structure gb (U : List aO) (tr ep T : Nat) : Prop where
 ok : okU U
 te : AR (fo U) = (tr, ep)
 nd : ((pgU U).map (·.1)).Nodup
 tl : max (ef (pgU U)) tr = T
theorem gb.nil : gb [] 0 0 0 := ⟨by simp [okU], rfl, by simp [pgU, fo, pagesOf], rfl⟩
theorem DL {M : List aO} {g : aO} {x : Rc} (h : okU (M ++ [g])) (hx : okR x) : okU (M ++ [{ g with rs := g.rs ++ [x] }]) := by
 intro y hy z hz
 rcases List.mem_append.1 hy with h1 | h1
 ·exact h y (by simp [h1]) z hz
 ·rw [List.mem_singleton] at h1; subst h1
  rcases List.mem_append.1 hz with h2 | h2
  ·exact h g (by simp) z h2
  ·rw [List.mem_singleton] at h2; subst h2; exact hx
theorem FI (M : List aO) (g : aO) (x : Rc) : fo (M ++ [{ g with rs := g.rs ++ [x] }]) = fo (M ++ [g]) ++ [x] := by
 rw [qZ, qZ, List.append_assoc]
theorem B7 (U : List aO) (p n : Nat) : fo (U ++ [⟨p, n, []⟩]) = fo U := by rw [qZ]; simp
theorem gb.add {U : List aO} {tr ep T : Nat} (h : gb U tr ep T) {M : List aO} {g : aO} {x : Rc} (hU : okU (M ++ [g])) (hR : fo (M ++ [g]) = fo U) (hx : okR x) (hp : ∀ a t, x = .dO a t -> ∀ y ∈ pgU U, y.1 ≠ a) :
  gb (M ++ [{ g with rs := g.rs ++ [x] }]) (mb (tr, ep) x).1 (mb (tr, ep) x).2 (match x with | .dO a _ => max T (a + 1) | .trim t _ => max (ef (pgU U)) t | .shut _ => T) := by
 have hall : fo (M ++ [{ g with rs := g.rs ++ [x] }]) = fo U ++ [x] := by rw [FI, hR]
 refine ⟨DL hU hx, by rw [hall, uV, h.te], ?_, ?_⟩
 ·unfold pgU
  rw [hall, aR]
  cases x with
  | dO a t =>
   have := hp a t rfl
   rw [List.map_append]
   refine List.nodup_append.2 ⟨h.nd, by simp [pagesOf], fun y hy z hz => ?_⟩
   obtain ⟨v, hv, rfl⟩ := List.mem_map.1 hy
   simp [pagesOf] at hz
   rw [hz]; exact this v hv
  | trim t e => simpa [pagesOf] using h.nd
  | shut e => simpa [pagesOf] using h.nd
 ·have htl := h.tl
  unfold pgU at htl ⊢
  rw [hall, aR, ui]
  cases x with
  | dO a t =>
   have e1 : ef (pagesOf [Rc.dO a t]) = a + 1 := by simp [pagesOf, ef]
   rw [e1]
   simp only [mb]
   omega
  | trim t e =>
   have e1 : ef (pagesOf [Rc.trim t e]) = 0 := rfl
   rw [e1]; simp only [mb]; omega
  | shut e =>
   have e1 : ef (pagesOf [Rc.shut e]) = 0 := rfl
   rw [e1]; simp only [mb]; omega
theorem gb.drop {g : aO} {U : List aO} {tr ep T : Nat} (h : gb (g :: U) tr ep T) (hl : ∃ R, fo U = R ++ [.trim tr ep]) (hg : ∀ y ∈ pagesOf g.rs, y.1 < tr) :
  gb U tr ep T /\ ∀ a, tr <= a -> cQ (pgU U) a = cQ (pgU (g :: U)) a := by
 have hall : fo (g :: U) = g.rs ++ fo U := by simp [fo]
 have hpg : pgU (g :: U) = pagesOf g.rs ++ pgU U := by unfold pgU; rw [hall, aR]
 refine ⟨⟨fun y hy => h.ok y (by simp [hy]), ?_, ?_, ?_⟩, fun a ha => ?_⟩
 ·obtain ⟨R, hR⟩ := hl
  rw [hR, uV]; rfl
 ·have := h.nd
  rw [hpg, List.map_append] at this
  exact (List.nodup_append.1 this).2.1
 ·have htl := h.tl
  rw [hpg, ui] at htl
  have h1 : ef (pagesOf g.rs) <= tr := ke.2 hg
  omega
 ·rw [hpg, rG (fun x hx => by have := hg x hx; omega)]
end Go.D
namespace Go.D
open Go Go.Proofs
def eN : Option Nat -> Int
 | none => 0
 | some k => ((k + 1 : Nat) : Int)
theorem ym (A : Nat -> Addr) (e' : Option Nat) (h : ∀ k, e' = some k -> k < 19) (w : World) (hE : cP A w) : Calls Tryz.prog az ⟨[cm A e']⟩ w fun e w' => e = .returned (.int .i64 (eN e')) /\ ah w w' := by
 cases e' with
 | none =>
  refine (GO w).mono ?_
  rintro e w' ⟨rfl, rfl⟩
  exact ⟨rfl, Ext.refl _ _⟩
 | some k => exact Fo A k (h k rfl) w hE
end Go.D
namespace Go.D
open Go Go.Proofs
theorem GY (n i : Nat) : mkS (aW (List.replicate n 0) i) = 0 := by
 unfold mkS aW
 rw [List.drop_replicate, List.take_replicate, List.getD_eq_getElem?_getD, List.getElem?_replicate]
 split <;> rfl
theorem FJ (n k : Nat) : cI (aW (Fq n).img) k [] :=
 ⟨by simp, List.Pairwise.nil, List.Pairwise.nil, by simp, fun p hp _ => by
  show mkS (aW (List.replicate (n * 64) 0) (64 * p)) ≠ 1
  rw [GY]; decide⟩
theorem HD (n : Nat) : (Fq n).n = n := by
 show (List.replicate (n * 64) (0 : UInt8)).length / 64 = n
 rw [List.length_replicate]; omega
theorem Eu {w1 : World} {n0 rd m : Nat} {q : cU} {d : aK} {L : List aJ} (A : Nat -> Addr) (hE : bK yf A n0 w1) (hD : aP w1 rd q d) (hp : d.aI = []) (hI : cI (aW d.img) (d.n / 64) L) (hk : 1 <= d.n / 64 /\ d.n / 64 < 20) (hN : ∀ g ∈ L, g.num < m) (hm : m <= 2 ^ 60)
  (hdn : ∀ k, bp rd q k -> n0 <= k) (hz : n0 <= w1.heap.size) :
  Calls Tryz.prog kY ⟨[av rd]⟩ w1 fun e w2 => ∃ (r : Nat) (u : StP), e = .returned (.tuple ⟨[av r, .nilIface]⟩) /\ Sys w2 n0 r rd u q d L m /\ (∀ k, StB r u k -> w1.heap.size <= k) /\ ah w1 w2 := by
 refine (C1 A hD hp (hE.sub gF) hI hk.1 hk.2 (fun g hg => by have := hN g hg; omega)).mono ?_
 rintro e w2 ⟨r, u, rfl, hS, hf, k2⟩
 have hD2 := hD.ae k2
 refine ⟨r, u, rfl, ⟨⟨hS, hD2, fun k hk hh => ?_, hdn, fun k hk => Nat.le_trans hz (hf k hk), Nat.le_trans hz k2.size⟩, hp, hI, hN, hk⟩, hf, k2⟩
 have := hf k hk
 have := hD.lt k hh
 omega
end Go.D
namespace Go.D
open Go Go.Proofs
abbrev KS : KV Int Slc := KV.int Slc.v
structure UnP where
 mp : Nat
 mi : Nat
 pl : List (Int × Slc)
 il : List (Int × Slc)
structure UnM (w : World) (r st : Nat) (x : UnP) (tr ep top : Int) (pg : Int -> Option (List UInt8)) (ins : Int -> List Int) : Prop where
 o : aq w r [av st, .map (some x.mp), .map (some x.mi), .int .i64 tr, .int .i64 ep, .int .i64 top]
 p : iI KS w x.mp x.pl
 i : iI KS w x.mi x.il
 ne : x.mp ≠ x.mi
 pv : ∀ a, (∀ s, lookL x.pl a = some s -> ∃ t, pg a = some t /\ au w s t /\ t.length <= 2048) /\ (lookL x.pl a = none -> pg a = none)
 iv : ∀ n, aB w ((lookL x.il n).getD ⟨none, 0, 0⟩) (ins n)
 sep : ∀ n m s t, lookL x.il n = some s -> lookL x.il m = some t -> n ≠ m -> ∀ k, ai s k -> ¬ ai t k
 ir : ∀ n s, lookL x.il n = some s -> ¬ ai s r
 pb : ∀ a s, lookL x.pl a = some s -> 0 < s.l -> ∀ k, ai s k -> k ≠ r /\ ∀ n t, lookL x.il n = some t -> ¬ ai t k
def UnW (r : Nat) (x : UnP) (k : Nat) : Prop := k = r \/ k = x.mp \/ k = x.mi \/ ∃ n s, lookL x.il n = some s /\ ai s k
def UnY (x : UnP) (k : Nat) : Prop := ∃ a s, lookL x.pl a = some s /\ 0 < s.l /\ ai s k
section
variable {w w' : World} {r st : Nat} {x : UnP} {tr ep top : Int} {pg : Int -> Option (List UInt8)} {ins : Int -> List Int}
theorem UnM.ext {M : Nat -> Prop} (h : UnM w r st x tr ep top pg ins) (he : Ext M w w') (h1 : ∀ k, UnW r x k -> ¬ M k) (h2 : ∀ k, UnY x k -> ¬ M k) : UnM w' r st x tr ep top pg ins := by
 refine ⟨h.o.ext he (h1 _ (.inl rfl)), h.p.ext he (h1 _ (.inr (.inl rfl))), h.i.ext he (h1 _ (.inr (.inr (.inl rfl)))), h.ne, fun a => ⟨fun s hs => ?_, (h.pv a).2⟩, fun n => ?_, h.sep, h.ir, h.pb⟩
 ·obtain ⟨t, g1, g2, g3⟩ := (h.pv a).1 s hs
  exact ⟨t, g1, aZ g2 he (fun h0 k hk => h2 k ⟨a, s, hs, h0, hk⟩), g3⟩
 ·refine (h.iv n).ext he (fun k hk => ?_)
  cases hl : lookL x.il n with
  | none => rw [hl] at hk; obtain ⟨a, ha, _⟩ := hk; cases ha
  | some s => rw [hl] at hk; exact h1 k (.inr (.inr (.inr ⟨n, s, hl, hk⟩)))
theorem UnM.ae (h : UnM w r st x tr ep top pg ins) (he : ah w w') : UnM w' r st x tr ep top pg ins := h.ext he (fun _ _ h => h) (fun _ _ h => h)
theorem UnM.lt (h : UnM w r st x tr ep top pg ins) : (∀ k, UnW r x k -> k < w.heap.size) /\ ∀ k, UnY x k -> k < w.heap.size := by
 refine ⟨?_, ?_⟩
 ·rintro k (rfl | rfl | rfl | ⟨n, s, hs, hk⟩)
  ·exact h.o.lt
  ·exact h.p.lt
  ·exact h.i.lt
  ·have := h.iv n
   rw [hs] at this
   exact Rows.lt this k hk
 ·rintro k ⟨a, s, hs, h0, hk⟩
  obtain ⟨t, _, g2, _⟩ := (h.pv a).1 s hs
  exact fu g2 h0 k hk
theorem UnM.c (h : UnM w r st x tr ep top pg ins) : w.cell? ⟨r, 0, none⟩ = some (av st) /\ w.cell? ((⟨r, 0, none⟩ : Addr).add 1) = some (.map (some x.mp)) /\ w.cell? ((⟨r, 0, none⟩ : Addr).add 2) = some (.map (some x.mi)) /\ w.cell? ((⟨r, 0, none⟩ : Addr).add 3) = some (.int .i64 tr) /\
  w.cell? ((⟨r, 0, none⟩ : Addr).add 4) = some (.int .i64 ep) /\ w.cell? ((⟨r, 0, none⟩ : Addr).add 5) = some (.int .i64 top) := by
 simp only [add_lit]
 exact ⟨h.o.cell 0 (by simp), h.o.cell 1 (by simp), h.o.cell 2 (by simp), h.o.cell 3 (by simp), h.o.cell 4 (by simp), h.o.cell 5 (by simp)⟩
theorem UnM.has (h : UnM w r st x tr ep top pg ins) (a : Int) : (lookL x.pl a).isSome = (pg a).isSome := by
 cases hl : lookL x.pl a with
 | none => rw [(h.pv a).2 hl]; rfl
 | some s => obtain ⟨t, g, _⟩ := (h.pv a).1 s hl; rw [g]; rfl
theorem sN (h : UnM w r st x tr ep top pg ins) : Calls Tryz.prog eF ⟨[av r]⟩ w fun e w' => e = .returned (.int .i64 (max top tr)) /\ ah w w' := by
 refine tz _ ?_
 unfold qA
 refine aa rfl ⟨_, h.c.2.2.2.2.2, aa rfl ⟨_, h.c.2.2.2.1, ?_, Ext.drew _ _⟩⟩
 rw [show (if tr > top then tr else top) = max top tr by split <;> omega]
def Ev : List Nat := [aD, fN, eL, ez, eK, jJ, aH, jX]
theorem qJ : ∀ g ∈ Ev, g ∈ gw := by decide
def eu (ep epoch a most : Int) : Option Nat := if epoch < ep \/ 1073741824 < epoch then some 7 else if a < 0 \/ most < a then some 0 else none
theorem qK (A : Nat -> Addr) (h : UnM w r st x tr ep top pg ins) (epoch a most : Int) {n0 : Nat} (hE : bK Ev A n0 w) :
  Calls Tryz.prog dQ ⟨[av r, .int .i64 epoch, .int .i64 a, .int .i64 most]⟩ w fun e w' => e = .returned (cm A (eu ep epoch a most)) /\ w' = w := by
 refine rZ _ _ _ _ ?_
 unfold pH
 refine ⟨fun b w2 => b = decide (epoch < ep \/ 1073741824 < epoch) /\ w2 = w, aa rfl ⟨_, h.c.2.2.2.2.1, af (fun h0 => ⟨by simp [h0], rfl⟩) (fun h0 => ⟨by simp [h0], rfl⟩)⟩, ?_⟩
 rintro b w9 ⟨rfl, rfl⟩
 intros
 unfold eu
 refine af (fun h0 => ?_) (fun h0 => af (fun h1 => ?_) (fun h1 => af (fun h2 => ?_) (fun h2 => ?_)))
 ·rw [if_pos h0]
  exact ⟨_, eb hE 7 fN rfl (by decide), rfl, rfl⟩
 ·rw [if_neg h0, if_pos (.inl h1)]
  exact ⟨_, eb hE 0 aD rfl (by decide), rfl, rfl⟩
 ·rw [if_neg h0, if_pos (.inr h2)]
  exact ⟨_, eb hE 0 aD rfl (by decide), rfl, rfl⟩
 ·rw [if_neg h0, if_neg (by omega)]
  exact ⟨rfl, rfl⟩
def readE (tr ep : Int) (pg : Int -> Option (List UInt8)) (epoch a : Int) : Option Nat := match eu ep epoch a 4095 with
 | some c => some c
 | none => if a < tr then some 10 else if (pg a).isSome then none else some 9
theorem yn (A : Nat -> Addr) (h : UnM w r st x tr ep top pg ins) (epoch a : Int) {n0 : Nat} (hE : bK Ev A n0 w) :
  Calls Tryz.prog cq ⟨[av r, .int .i64 epoch, .int .i64 a]⟩ w fun e w' => ∃ t : Slc, e = .returned (.tuple ⟨[t.v, cm A (readE tr ep pg epoch a)]⟩) /\ Own w' t 1 ((if (readE tr ep pg epoch a).isNone then (pg a).getD [] else []).map aS) /\ aN w t /\ ah w w' := by
 refine tv _ _ _ ?_
 unfold qw
 refine (qK A h epoch a 4095 hE).mono ?_
 rintro e w5 ⟨rfl, rfl⟩
 unfold readE
 cases hc : eu ep epoch a 4095 with
 | some c =>
  exact ⟨_, rfl, trivial, aj (fun _ => ⟨_, rfl, Own.nil _ _, aN.nil _ _ _, Ext.refl _ _⟩) (fun h => by cases h)⟩
 | none =>
  have kd : ah w5 (World.drew w5) := Ext.drew _ _
  obtain ⟨es, h1, h2⟩ := h.p.get
  refine ⟨_, rfl, trivial, aj (fun h => by cases h) (fun _ => aa rfl ⟨_, h.c.2.1, es, h1, lookL x.pl a, h2 a, aa rfl ⟨_, h.c.2.2.2.1, af (fun h3 => ?_) (fun h3 => aj (fun h4 => ?_) (fun h4 => ?_))⟩⟩)⟩
  ·refine ⟨_, eb (hE.ae kd) 10 eL rfl (by decide), ?_⟩
   simp only [if_pos h3]
   exact ⟨_, rfl, Own.nil _ _, aN.nil _ _ _, kd⟩
  ·refine ⟨_, eb (hE.ae kd) 9 ez rfl (by decide), ?_⟩
   rw [h.has] at h4
   have h5 : (pg a).isSome = false := by simpa using h4
   simp only [if_neg h3, h5]
   exact ⟨_, rfl, Own.nil _ _, aN.nil _ _ _, kd⟩
  ·rw [h.has] at h4
   have h5 : (pg a).isSome = true := by simpa using h4
   simp only [if_neg h3, h5]
   cases hl : lookL x.pl a with
   | none =>
    have := (h.pv a).2 hl
    rw [this] at h5; cases h5
   | some s =>
    obtain ⟨t, g1, g2, g3⟩ := (h.pv a).1 s hl
    refine (fO s t w5 g2 (by have := g2.1; omega)).mono ?_
    rintro e w16 ⟨t2, rfl, ht2, hf2, k16⟩
    refine ⟨t2, rfl, t2, rfl, ?_, hf2, k16⟩
    rw [g1]
    exact ht2
end
end Go.D
namespace Go.D
open Go Go.Proofs
section
variable {w w' : World} {r st : Nat} {x : UnP} {tr ep top : Int} {pg : Int -> Option (List UInt8)} {ins : Int -> List Int}
abbrev inS (x : UnP) (n : Int) : Slc := (lookL x.il n).getD ⟨none, 0, 0⟩
theorem mT {n : Int} {k : Nat} (h : ai (inS x n) k) : ∃ s, lookL x.il n = some s /\ inS x n = s /\ ai s k := by
 unfold inS at h ⊢
 cases hl : lookL x.il n with
 | none => rw [hl] at h; obtain ⟨a, ha, _⟩ := h; cases ha
 | some s => rw [hl] at h; exact ⟨s, rfl, rfl, h⟩
theorem cV {w : World} {s : Slc} {b : List UInt8} {k : Nat} {es : Array MapEntry} {ck : Nat} (h : au w s b) (h0 : 0 < s.l) (hk : ai s k) (hm : w.heap[k]? = some (.map es ck)) : False := by
 obtain ⟨a, ha, rfl⟩ := hk
 obtain ⟨a', ha', hc'⟩ := bc h.2 (i := 0) (by rw [List.length_map, <- h.1]; exact h0)
 rw [ha] at ha'; cases ha'
 have : w.cell? (a.add 0) = none := by
  unfold World.cell?
  rw [ew, hm]
 rw [this] at hc'; cases hc'
def HE (r : Nat) (x x' : UnP) (Y : Nat -> Prop) (w w' : World) : Prop := Ext (UnW r x) w w' /\ (∀ k, UnW r x' k -> UnW r x k \/ w.heap.size <= k) /\ ∀ k, UnY x' k -> UnY x k \/ Y k \/ w.heap.size <= k
def ju {α : Type} (f : Int -> α) (n : Int) (a : α) : Int -> α := fun m => if m = n then a else f m
theorem yo (h : UnM w r st x tr ep top pg ins) (seg a : Int) (s : Slc) (t : List UInt8) (hb : au w s t) (ht : t.length <= 2048) (hs : 0 < s.l -> ∀ k, ai s k -> ¬ UnW r x k) (hpg : pg a = none) (ha : 0 <= a /\ a <= 2 ^ 40) (htop : top <= 2 ^ 41) (hlen : (ins seg).length < 2 ^ 20) :
  Calls Tryz.prog gh ⟨[av r, .int .i64 seg, .int .i64 a, s.v]⟩ w fun e w' => e = .returned (.tuple #[]) /\ ∃ x', UnM w' r st x' tr ep (max top (a + 1)) (ju pg a (some t)) (ju ins seg (ins seg ++ [a])) /\ HE r x x' (fun k => 0 < s.l /\ ai s k) w w' := by
 refine tq _ _ _ _ ?_
 unfold qu
 have kd : ah w (World.drew w) := Ext.drew _ _
 have hd := h.ae kd
 obtain ⟨es, h1, h2⟩ := hd.i.get
 refine aa rfl ⟨_, hd.c.2.2.1, aa rfl ⟨_, hd.c.2.2.1, es, h1, lookL x.il seg, h2 seg, ao (fun r11 w12 hr hb11 k12 hs12 => ?_)⟩⟩
 have h12 := hd.ae k12
 obtain ⟨es', h1', h2'⟩ := h12.i.get
 refine ⟨⟨es', h1', lookL x.il seg, h2' seg, rfl⟩, ⟨_, h12.c.2.2.1, rfl⟩, ⟨_, h12.c.2.2.1, rfl⟩, ?_⟩
 have lt := h.lt
 have lt12 := h12.lt
 have z12 := k12.size
 have hdz : (World.drew w).heap.size = w.heap.size := rfl
 refine Rows.snoc (cs := qG a) (x := a) (z := [.int .i64 0]) (h12.iv seg) rfl rfl (fun k hk => (lX hk).elim) hb11 (.inl (by simp)) (by omega) (fun s17 w18 g1 g2 g3 => ?_)
 have gI : aB w18 s17 (ins seg ++ [a]) := aB.of (by simpa using g1)
 -- the old slice's blocks
 have oldB : ∀ k, ai (inS x seg) k -> UnW r x k /\ k ≠ r /\ k ≠ x.mp /\ k ≠ x.mi := fun k hk => by
  obtain ⟨s0, e1, e2, e3⟩ := mT hk
  have ho := (h12.iv seg).own
  rw [e1] at ho
  obtain ⟨c, T, f, hc⟩ := Own.ne ho e3
  obtain ⟨_, _, hp1, _⟩ := h12.p.at'
  obtain ⟨_, _, hi1, _⟩ := h12.i.at'
  exact ⟨.inr (.inr (.inr ⟨seg, s0, e1, e3⟩)), fun e => h.ir seg s0 e1 (e ▸ e3), (fun e => by rw [e, hp1] at hc; cases hc), (fun e => by rw [e, hi1] at hc; cases hc)⟩
 have o18 := h12.o.ext g2 (fun hh => (oldB r hh).2.1 rfl)
 have p18 := h12.p.ext g2 (fun hh => (oldB _ hh).2.2.1 rfl)
 have i18 := h12.i.ext g2 (fun hh => (oldB _ hh).2.2.2 rfl)
 have nW : ∀ k, ai s17 k -> ai (inS x seg) k \/ w.heap.size <= k := fun k hk => (g3 k hk).imp (fun h => h) (fun h => by omega)
 obtain ⟨es1, ck1, es2, ck2, m1, m2, m3⟩ := i18.put seg s17
 refine ⟨⟨_, by rw [add_lit]; exact o18.cell 2 (by simp), rfl⟩, x.mi, es1, ck1, es2, ck2, rfl, m1, m2, fun w25 hw25 => ?_⟩
 obtain ⟨i25, e25, z25⟩ := m3 w25 hw25
 have rmi : r ≠ x.mi := fun e => by
  obtain ⟨T, f, hc, _⟩ := h.o
  obtain ⟨_, _, hi1, _⟩ := h.i.at'
  rw [e, hi1] at hc; cases hc
 have rmp : r ≠ x.mp := fun e => by
  obtain ⟨T, f, hc, _⟩ := h.o
  obtain ⟨_, _, hp1, _⟩ := h.p.at'
  rw [e, hp1] at hc; cases hc
 have o25 := o18.ext e25 (fun hh => rmi hh)
 have p25 := p18.ext e25 (fun hh => h.ne hh)
 obtain ⟨c1, c2⟩ := o25.bf 5 (by simp) (.int .i64 (if (a + (1 : Int)) > top then (a + (1 : Int)) else top))
 refine aa rfl ⟨_, by rw [add_lit]; exact o25.cell 5 (by simp), ar (by omega), aa rfl ?_⟩
 rw [add_lit]
 refine ⟨c1, fun w29 hw29 => ?_⟩
 obtain ⟨o29, e29, z29⟩ := c2 w29 hw29
 have i29 := i25.ext e29 (fun hh => rmi hh.symm)
 have p29 := p25.ext e29 (fun hh => rmp hh.symm)
 obtain ⟨es3, n1, n2⟩ := p29.get
 have hno : lookL x.pl a = none := by
  cases hl : lookL x.pl a with
  | none => rfl
  | some s0 => obtain ⟨t0, g, _⟩ := (h.pv a).1 s0 hl; rw [hpg] at g; cases g
 refine aa rfl ⟨_, by rw [add_lit]; exact o29.cell 1 (by simp), es3, n1, lookL x.pl a, n2 a, ?_⟩
 rw [hno]
 obtain ⟨es4, ck4, es5, ck5, q1, q2, q3⟩ := p29.put a s
 refine aj (fun _ => aa rfl ⟨_, by rw [add_lit]; exact o29.cell 1 (by simp), x.mp, es4, ck4, es5, ck5, rfl, q1, q2, fun w41 hw41 => ?_⟩) (fun hh => by cases hh)
 obtain ⟨p41, e41, z41⟩ := q3 w41 hw41
 -- all that is changed
 have xall : Ext (fun k => ai (inS x seg) k \/ k = x.mi \/ k = r \/ k = x.mp) w12 w41 := (((g2.mono (fun k hk => .inl hk)).trans e25 (fun _ h => h) (fun k hk => .inl (.inr (.inl hk)))).trans e29 (fun _ h => h) (fun k hk => .inl (.inr (.inr (.inl hk))))).trans e41 (fun _ h => h) (fun k hk => .inl (.inr (.inr (.inr hk))))
 have xpost : Ext (fun k => k = x.mi \/ k = r \/ k = x.mp) w18 w41 := ((e25.mono (fun k hk => .inl hk)).trans e29 (fun _ h => h) (fun k hk => .inl (.inr (.inl hk)))).trans e41 (fun _ h => h) (fun k hk => .inl (.inr (.inr hk)))
 have s17k : ∀ k, ai s17 k -> ¬ (k = x.mi \/ k = r \/ k = x.mp) := fun k hk hh => by
  rcases nW k hk with g | g
  ·obtain ⟨_, v1, v2, v3⟩ := oldB k g
   rcases hh with hh | hh | hh
   ·exact v3 hh
   ·exact v1 hh
   ·exact v2 hh
  ·have l1 := lt.1 r (.inl rfl)
   have l2 := lt.1 x.mp (.inr (.inl rfl))
   have l3 := lt.1 x.mi (.inr (.inr (.inl rfl)))
   omega
 have lk : ∀ n, lookL (putL x.il seg s17) n = if n = seg then some s17 else lookL x.il n := fun n => xv seg n s17 x.il
 have lp : ∀ b, lookL (putL x.pl a s) b = if b = a then some s else lookL x.pl b := fun b => xv a b s x.pl
 have hsz : w12.heap.size <= w18.heap.size := g2.size
 refine ⟨rfl, ⟨x.mp, x.mi, putL x.pl a s, putL x.il seg s17⟩, ⟨?_, p41, i29.ext e41 (fun hh => h.ne hh.symm), h.ne, fun b => ⟨fun s0 hs0 => ?_, fun hb0 => ?_⟩, fun n => ?_, fun n m s1 s2 hn hm hne k hk hk2 => ?_, fun n s1 hn hh => ?_, fun b s1 hb1 h0 k hk => ?_⟩, ?_, ?_, ?_⟩
 ·have := o29.ext e41 (fun hh => rmp hh)
  rw [show (if (a + (1 : Int)) > top then (a + (1 : Int)) else top) = max top (a + 1) by split <;> omega] at this
  exact this
 ·dsimp only at hs0
  rw [lp] at hs0
  unfold ju
  by_cases e : b = a
  ·rw [if_pos e] at hs0 ⊢
   cases hs0
   refine ⟨t, rfl, aZ (aG hb (kd.trans k12)) xall (fun h0 k hk hh => ?_), ht⟩
   have h9 := hs h0 k hk
   rcases hh with hh | hh | hh | hh
   ·exact h9 (oldB k hh).1
   ·exact h9 (.inr (.inr (.inl hh)))
   ·exact h9 (.inl hh)
   ·exact h9 (.inr (.inl hh))
  ·rw [if_neg e] at hs0 ⊢
   obtain ⟨t0, v1, v2, v3⟩ := (h12.pv b).1 s0 hs0
   refine ⟨t0, v1, aZ v2 xall (fun h0 k hk hh => ?_), v3⟩
   obtain ⟨y1, y2⟩ := h.pb b s0 hs0 h0 k hk
   rcases hh with hh | hh | hh | hh
   ·obtain ⟨s9, u1, u2, u3⟩ := mT hh
    exact y2 seg s9 u1 u3
   ·obtain ⟨_, _, hi1, _⟩ := h12.i.at'
    exact cV v2 h0 hk (by rw [hh]; exact hi1)
   ·exact y1 hh
   ·obtain ⟨_, _, hp1, _⟩ := h12.p.at'
    exact cV v2 h0 hk (by rw [hh]; exact hp1)
 ·dsimp only at hb0
  rw [lp] at hb0
  unfold ju
  by_cases e : b = a
  ·rw [if_pos e] at hb0; cases hb0
  ·rw [if_neg e] at hb0 ⊢
   exact (h.pv b).2 hb0
 ·dsimp only
  rw [lk]
  unfold ju
  by_cases e : n = seg
  ·rw [if_pos e, if_pos e]
   exact gI.ext xpost s17k
  ·rw [if_neg e, if_neg e]
   refine (h12.iv n).ext xall (fun k hk hh => ?_)
   obtain ⟨s9, u1, u2, u3⟩ := mT (x := x) hk
   have ho := (h12.iv n).own
   obtain ⟨c, T, f, hc⟩ := Own.ne ho hk
   rcases hh with hh | hh | hh | hh
   ·obtain ⟨s8, v1, v2, v3⟩ := mT hh
    exact h.sep n seg s9 s8 u1 v1 e k u3 v3
   ·obtain ⟨_, _, hi1, _⟩ := h12.i.at'
    rw [hh, hi1] at hc; cases hc
   ·exact h.ir n s9 u1 (hh ▸ u3)
   ·obtain ⟨_, _, hp1, _⟩ := h12.p.at'
    rw [hh, hp1] at hc; cases hc
 ·dsimp only at hn hm
  rw [lk] at hn hm
  by_cases e : n = seg
  ·rw [if_pos e] at hn
   cases hn
   rw [if_neg (fun e2 => hne (e.trans e2.symm))] at hm
   rcases nW k hk with g | g
   ·obtain ⟨s8, v1, v2, v3⟩ := mT g
    exact h.sep seg m s8 s2 v1 hm (fun e2 => hne (e.trans e2)) k v3 hk2
   ·have := lt.1 k (.inr (.inr (.inr ⟨m, s2, hm, hk2⟩))); omega
  ·rw [if_neg e] at hn
   by_cases e2 : m = seg
   ·rw [if_pos e2] at hm
    cases hm
    rcases nW k hk2 with g | g
    ·obtain ⟨s8, v1, v2, v3⟩ := mT g
     exact h.sep n seg s1 s8 hn v1 e k hk v3
    ·have := lt.1 k (.inr (.inr (.inr ⟨n, s1, hn, hk⟩))); omega
   ·rw [if_neg e2] at hm
    exact h.sep n m s1 s2 hn hm hne k hk hk2
 ·dsimp only at hn
  rw [lk] at hn
  by_cases e : n = seg
  ·rw [if_pos e] at hn
   cases hn
   exact s17k r hh (.inr (.inl rfl))
  ·rw [if_neg e] at hn
   exact h.ir n s1 hn hh
 ·dsimp only at hb1 ⊢
  rw [lp] at hb1
  have key : k < w.heap.size /\ k ≠ r /\ ∀ n t, lookL x.il n = some t -> ¬ ai t k := by
   by_cases e : b = a
   ·rw [if_pos e] at hb1
    cases hb1
    have h9 := hs h0 k hk
    exact ⟨fu hb h0 k hk, fun e => h9 (.inl e), fun n t0 hn hh => h9 (.inr (.inr (.inr ⟨n, t0, hn, hh⟩)))⟩
   ·rw [if_neg e] at hb1
    exact ⟨lt.2 k ⟨b, s1, hb1, h0, hk⟩, h.pb b s1 hb1 h0 k hk⟩
  refine ⟨key.2.1, fun n t0 hn hh => ?_⟩
  rw [lk] at hn
  by_cases e : n = seg
  ·rw [if_pos e] at hn
   cases hn
   rcases nW k hh with g | g
   ·obtain ⟨s8, v1, v2, v3⟩ := mT g
    exact key.2.2 seg s8 v1 v3
   ·have := key.1; omega
  ·rw [if_neg e] at hn
   exact key.2.2 n t0 hn hh
 ·exact Ext.trans (kd.trans k12) xall (fun _ h => h.elim) (fun k hk => .inl (by
   rcases hk with hk | hk | hk | hk
   ·exact (oldB k hk).1
   ·exact .inr (.inr (.inl hk))
   ·exact .inl hk
   ·exact .inr (.inl hk)))
 ·rintro k (hk | hk | hk | ⟨n, s1, hn, hk⟩)
  ·exact .inl (.inl hk)
  ·exact .inl (.inr (.inl hk))
  ·exact .inl (.inr (.inr (.inl hk)))
  ·dsimp only at hn
   rw [lk] at hn
   by_cases e : n = seg
   ·rw [if_pos e] at hn
    cases hn
    rcases nW k hk with g | g
    ·exact .inl (oldB k g).1
    ·exact .inr g
   ·rw [if_neg e] at hn
    exact .inl (.inr (.inr (.inr ⟨n, s1, hn, hk⟩)))
 ·rintro k ⟨b, s1, hb1, h0, hk⟩
  dsimp only at hb1
  rw [lp] at hb1
  by_cases e : b = a
  ·rw [if_pos e] at hb1
   cases hb1
   exact .inr (.inl ⟨h0, hk⟩)
  ·rw [if_neg e] at hb1
   exact .inl ⟨b, s1, hb1, h0, hk⟩
end
end Go.D
namespace Go.D
open Go Go.Proofs
section
variable {w w' : World} {r st : Nat} {x : UnP} {tr ep top : Int} {pg : Int -> Option (List UInt8)} {ins : Int -> List Int}
theorem UnM.del (h : UnM w r st x tr ep top pg ins) (k : Int) (hp : iI KS w' x.mp (jZ x.pl k)) (he : Ext (fun j => j = x.mp) w w') : UnM w' r st { x with pl := jZ x.pl k } tr ep top (ju pg k none) ins := by
 have lk : ∀ b, lookL (jZ x.pl k) b = if b = k then none else lookL x.pl b := fun b => tC k b h.p.nd
 obtain ⟨_, _, hp1, _⟩ := h.p.at'
 have rmp : r ≠ x.mp := fun e => by
  obtain ⟨T, f, hc, _⟩ := h.o
  rw [e, hp1] at hc; cases hc
 refine ⟨h.o.ext he (fun hh => rmp hh), hp, h.i.ext he (fun hh => h.ne hh.symm), h.ne, fun a => ⟨fun s hs => ?_, fun hn => ?_⟩, fun n => ?_, h.sep, h.ir, fun a s hs h0 j hj => ?_⟩
 ·dsimp only at hs
  rw [lk] at hs
  by_cases e : a = k
  ·rw [if_pos e] at hs; cases hs
  ·rw [if_neg e] at hs
   obtain ⟨t, g1, g2, g3⟩ := (h.pv a).1 s hs
   refine ⟨t, by unfold ju; rw [if_neg e]; exact g1, aZ g2 he (fun h0 j hj hh => cV g2 h0 (show ai s x.mp from hh ▸ hj) hp1), g3⟩
 ·dsimp only at hn
  rw [lk] at hn
  unfold ju
  by_cases e : a = k
  ·rw [if_pos e]
  ·rw [if_neg e] at hn ⊢
   exact (h.pv a).2 hn
 ·refine (h.iv n).ext he (fun j hj hh => ?_)
  obtain ⟨c, T, f, hc⟩ := Own.ne (h.iv n).own hj
  rw [hh, hp1] at hc; cases hc
 ·dsimp only at hs
  rw [lk] at hs
  by_cases e : a = k
  ·rw [if_pos e] at hs; cases hs
  ·rw [if_neg e] at hs
   exact h.pb a s hs h0 j hj
theorem yp {β : Type} [DecidableEq β] {a b : List β} (hn : a.Nodup) (hs : ∀ x ∈ a, x ∈ b) : a.length <= b.length := hn.length_le_of_subset (fun x hx => hs x hx)
def yq (tr : Int) (pg : Int -> Option (List UInt8)) : Int -> Option (List UInt8) := fun a => if a < tr then none else pg a
theorem uj (h : UnM w r st x tr ep top pg ins) :
  Calls Tryz.prog eY ⟨[av r]⟩ w fun e w' => e = .returned (.tuple #[]) /\ ∃ x', UnM w' r st x' tr ep top (yq tr pg) ins /\ HE r x x' (fun _ => False) w w' := by
 refine rl _ ?_
 unfold nN
 have lt := h.lt
 refine aa rfl ⟨_, h.c.2.1, h.p.range (fun r5 w6 hr5 hI6 k6 hs6 => ?_)⟩
 refine ⟨fun w2 => ∃ (pl' : List (Int × Slc)) (pgx : Int -> Option (List UInt8)) (ks : List Int), UnM w2 r st { x with pl := pl' } tr ep top pgx ins /\ kl KS w2 r5 x.mp pl' ks /\ ks.Nodup /\ (∀ k ∈ ks, k ∈ x.pl.map (·.1)) /\ pl'.Sublist x.pl /\
   (∀ a, pgx a = pg a \/ (a < tr /\ pgx a = none)) /\ (∀ k ∈ ks, k < tr -> pgx k = none) /\ Ext (UnW r x) w w2, fun w2 => x.pl.length - Fl w2 r5,
  ⟨x.pl, pg, [], h.ae k6, hI6, by simp, by simp, List.Sublist.refl _, fun a => .inl rfl, by simp, k6.mono (fun _ h => h.elim)⟩, ?_⟩
 rintro w9 ⟨pl', pgx, ks, hU, hI, hnd, hin, hsub, hpx, hkx, hx⟩
 intros
 refine hI.next hU.p.nd (fun hall => ?_) (fun k a w28 hka hkn hI2 e28 hs28 hent => ?_)
 ·refine ⟨rfl, { x with pl := pl' }, ?_, hx, fun k hk => ?_, fun k hk => ?_⟩
  ·have : pgx = yq tr pg := by
    funext a
    unfold yq
    split
    ·rename_i hlt
     cases hl : lookL pl' a with
     | none => exact (hU.pv a).2 hl
     | some s =>
      have hm := nq hl
      exact hkx a (hall _ hm) hlt
    ·rename_i hge
     rcases hpx a with g | ⟨g, _⟩
     ·exact g
     ·omega
   rw [<- this]; exact hU
  ·rcases hk with hk | hk | hk | hk
   ·exact .inl (.inl hk)
   ·exact .inl (.inr (.inl hk))
   ·exact .inl (.inr (.inr (.inl hk)))
   ·exact .inl (.inr (.inr (.inr hk)))
  ·obtain ⟨b, s, hs, h0, hk⟩ := hk
   have hm := hsub.subset (nq hs)
   exact .inl ⟨b, s, BN h.p.nd hm, h0, hk⟩
 ·have hkin : k ∈ x.pl.map (·.1) := List.mem_map.2 ⟨(k, a), hsub.subset hka, rfl⟩
  have hr5n : ∀ j, UnW r x j \/ UnY x j -> j ≠ r5 := fun j hj e => by
   rcases hj with hj | hj
   ·have := lt.1 j hj; omega
   ·have := lt.2 j hj; omega
  have subW : ∀ j, UnW r { x with pl := pl' } j -> UnW r x j := fun j hj => hj
  have subY : ∀ j, UnY { x with pl := pl' } j -> UnY x j := by
   rintro j ⟨b, s, hs, h0, hj⟩
   exact ⟨b, s, BN h.p.nd (hsub.subset (nq hs)), h0, hj⟩
  have hU28 := hU.ext e28 (fun j hj hh => hr5n j (.inl (subW j hj)) hh) (fun j hj hh => hr5n j (.inr (subY j hj)) hh)
  have x28 : Ext (UnW r x) w w28 := hx.trans e28 (fun _ h => h) (fun j hj => .inr (by rw [show j = r5 from hj]; omega))
  have hnd2 : (ks ++ [k]).Nodup := by
   rw [List.nodup_append]
   exact ⟨hnd, by simp, fun y hy z hz => by rw [List.mem_singleton] at hz; subst hz; rintro rfl; exact hkn hy⟩
  have hin2 : ∀ y ∈ ks ++ [k], y ∈ x.pl.map (·.1) := fun y hy => by
   rcases List.mem_append.1 hy with hy | hy
   ·exact hin y hy
   ·rw [List.mem_singleton] at hy; subst hy; exact hkin
  have hlen := yp hnd2 hin2
  rw [List.length_map, List.length_append, List.length_singleton] at hlen
  have hs9 := hI.seen
  refine ⟨_, _, hent, Sh.Hg (s := .int .i64) (x := k) (aa rfl ⟨_, hU28.c.2.2.2.1, af (fun hlt => ?_) (fun hge => ?_)⟩)⟩
  ·obtain ⟨es, ck, es', m1, m2, m3⟩ := hI2.del k
   refine aa rfl ⟨_, hU28.c.2.1, x.mp, es, ck, es', rfl, m1, m2, fun w40 hw40 => ?_⟩
   obtain ⟨I40, e40, z40⟩ := m3 w40 hw40
   have hs40 := I40.seen
   have nd40 := zS hU.p.nd k
   have U40 := hU28.del k (I40.Is nd40) e40
   refine ⟨⟨jZ pl' k, ju pgx k none, ks ++ [k], U40, I40, hnd2, hin2, (AF k pl').trans hsub, fun b => ?_, fun y hy hyt => ?_, x28.trans e40 (fun _ h => h) (fun j hj => .inl (.inr (.inl hj)))⟩, ?_⟩
   ·unfold ju
    by_cases e : b = k
    ·rw [if_pos e]; exact .inr ⟨by omega, rfl⟩
    ·rw [if_neg e]; exact hpx b
   ·unfold ju
    by_cases e : y = k
    ·rw [if_pos e]
    ·rw [if_neg e]
     rcases List.mem_append.1 hy with hy | hy
     ·exact hkx y hy hyt
     ·rw [List.mem_singleton] at hy; exact absurd hy e
   ·dsimp only
    rw [hs40, hs9, List.length_append, List.length_singleton]; omega
  ·have hs28' := hI2.seen
   refine ⟨⟨pl', pgx, ks ++ [k], hU28, hI2, hnd2, hin2, hsub, hpx, fun y hy hyt => ?_, x28⟩, ?_⟩
   ·rcases List.mem_append.1 hy with hy | hy
    ·exact hkx y hy hyt
    ·rw [List.mem_singleton] at hy; subst hy; exact absurd hyt hge
   ·dsimp only
    rw [hs28', hs9, List.length_append, List.length_singleton]; omega
end
end Go.D
namespace Go.D
open Go Go.Proofs
def vz (ev v : Value) : Value := if isNilI ev then v else ev
theorem zo (r : Nat) (s : Slc) (bs : List UInt8) (ev v : Value) (w : World) (h : gd w r s bs ev) (hi : isI ev) (hv : ∀ X : Prop, X -> oneK v X) :
  Calls Tryz.prog gM ⟨[.pointer (some ⟨r, 0, none⟩), v]⟩ w fun e w' => e = .returned (.tuple #[]) /\ gd w' r s bs (vz ev v) /\ bJ (lC r s) (lC r s) w w' := by
 refine uI _ _ ?_
 refine aa rfl ⟨_, by rw [add_lit]; exact h.c1, hi, aj (fun hn => aa rfl (hv _ (hv _ ?_))) (fun hn => ?_)⟩
 ·obtain ⟨h1, h2, h3⟩ := h.CN v
  rw [add_lit]
  refine ⟨h1, ?_⟩
  rintro w6 rfl
  refine ⟨rfl, ?_, h3⟩
  rw [vz, if_pos hn]; exact h2
 ·refine ⟨rfl, ?_, bJ.refl _ _⟩
  rw [vz, if_neg (by rw [hn]; decide)]; exact h
theorem yr (A : Nat -> Addr) (g : Nat) : ∀ X : Prop, X -> oneK (mj A g) X := fun X h => h
theorem uk (A : Nat -> Addr) (r : Nat) (s : Slc) (bs : List UInt8) (ev : Value) (n : Int) (w : World) (h : gd w r s bs ev) (hi : isI ev) (hn : -9223372036854775808 <= n /\ n <= 9223372036854775807) (hl : bs.length <= 2 ^ 20)
  (hE : vg BF w aD (A aD)) :
  Calls Tryz.prog cE ⟨[.pointer (some ⟨r, 0, none⟩), .int .i64 n]⟩ w fun e w' => e = .returned (.tuple #[]) /\
   ∃ s', gd w' r s' (if n < 0 \/ 4611686018427387903 < n then bs else bs ++ bQ n.toNat) (if n < 0 \/ 4611686018427387903 < n then vz ev (mj A aD) else ev) /\ bJ (lC r s) (lC r s') w w' := by
 refine vQ _ _ ?_
 unfold tH
 by_cases hbad : n < 0 \/ 4611686018427387903 < n
 ·rw [if_pos hbad, if_pos hbad]
  have key := zo r s bs ev (mj A aD) w h hi (yr A _)
  refine ⟨fun _ => False, af (fun h1 => ⟨_, hE.1, key.mono ?_⟩) (fun h1 => af (fun h2 => ⟨_, hE.1, key.mono ?_⟩) (fun h2 => by omega)), fun _ h => h.elim⟩
  ·rintro e w' ⟨rfl, h2, h3⟩
   exact ⟨rfl, rfl, s, h2, h3⟩
  ·rintro e w' ⟨rfl, h2, h3⟩
   exact ⟨rfl, rfl, s, h2, h3⟩
 ·rw [if_neg hbad, if_neg hbad]
  refine ⟨fun w2 => w2 = w, af (fun h1 => by omega) (fun h1 => af (fun h2 => by omega) (fun h2 => rfl)), ?_⟩
  rintro w2 rfl
  intros
  refine ⟨fun m w3 => ∃ (k : Nat) (s' : Slc) (x : List UInt8), m = k /\ x ++ bQ k = bs ++ bQ n.toNat /\ gd w3 r s' x ev /\ bJ (lC r s) (lC r s') w2 w3, fun m _ => m.toNat, ⟨n.toNat, s, bs, by omega, rfl, h, bJ.refl _ _⟩, ?_⟩
  rintro m w3 ⟨k, s', x, rfl, hx, ho, hft⟩
  intros
  have hlen := congrArg List.length hx
  have hle := ma n.toNat 8 (by omega)
  have hpos := FH k
  simp only [List.length_append] at hlen
  have hsl : s'.l = x.length := by have := ho.2.1.1; simpa using this
  refine af (fun h1 => ?_) (fun h1 => ?_)
  ·refine aa rfl ⟨s', ho.c0, by omega, by omega, ar (by omega), ao (fun r43 w44 hr43 hb43 hk43 hs43 => ?_)⟩
   have e1 : ((k : Int) % 128 + 128) = ((k % 128 + 128 : Nat) : Int) := by omega
   rw [e1, BV] at hb43
   have hb : au w44 ⟨some ⟨r43, 0, none⟩, 1, 1⟩ [UInt8.ofNat (k % 128 + 128)] := (Own.new (sz := 1) (n := 1) hb43 (.inl (by simp)) rfl).bytes
   refine (ho.ae hk43).append rfl (eD hb) (by simp only [Src.n]; omega) (fun s45 w46 hc hh => aa rfl ⟨hc, ?_⟩)
   rintro w48 rfl
   obtain ⟨h5, h6⟩ := hh _ rfl
   refine ⟨by omega, by omega, ⟨k / 128, s45, _, by omega, ?_, h5, (hft.ae hk43).trans h6⟩, by dsimp only; omega⟩
   rw [<- hx, bQ.eq_1 k, dif_neg (by omega)]; simp
  ·refine aa rfl ⟨s', ho.c0, ao (fun r43 w44 hr43 hb43 hk43 hs43 => ?_)⟩
   rw [BV] at hb43
   have hb : au w44 ⟨some ⟨r43, 0, none⟩, 1, 1⟩ [UInt8.ofNat k] := (Own.new (sz := 1) (n := 1) hb43 (.inl (by simp)) rfl).bytes
   refine (ho.ae hk43).append rfl (eD hb) (by simp only [Src.n]; omega) (fun s45 w46 hc hh => aa rfl ⟨hc, ?_⟩)
   rintro w48 rfl
   obtain ⟨h5, h6⟩ := hh _ rfl
   refine ⟨rfl, s45, ?_, (hft.ae hk43).trans h6⟩
   rw [bQ.eq_1 k, dif_pos (by omega)] at hx
   rw [<- hx]; exact h5
end Go.D
namespace Go.D
open Go Go.Proofs
end Go.D
namespace Go.D
open Go Go.Proofs
def rawR : Nat -> Nat -> List UInt8 -> Except Nat (Nat × List UInt8)
 | _, _, [] => .error 1
 | k, n, c :: rest =>
  if 128 <= c.toNat /\ k < 8 then rawR (k + 1) (n + (c.toNat % 128) * 2 ^ (7 * k)) rest
  else if 128 <= c.toNat \/ (c.toNat = 0 /\ 0 < k) \/ 4611686018427387903 < n + (c.toNat % 128) * 2 ^ (7 * k) then .error 3
  else .ok (n + (c.toNat % 128) * 2 ^ (7 * k), rest)
def qL (w : World) (r : Nat) (s : Slc) (bs : List UInt8) (ev : Value) : Prop := aq w r [s.v, ev] /\ au w s bs /\ ¬ ai s r /\ s.l <= s.c
def eqB (r k : Nat) : Prop := k = r
theorem qL.c0 {w : World} {r : Nat} {s : Slc} {bs : List UInt8} {ev : Value} (h : qL w r s bs ev) : w.cell? ⟨r, 0, none⟩ = some s.v := h.1.cell 0 (by simp)
theorem qL.c1 {w : World} {r : Nat} {s : Slc} {bs : List UInt8} {ev : Value} (h : qL w r s bs ev) : w.cell? ⟨r, 1, none⟩ = some ev := h.1.cell 1 (by simp)
theorem qL.CN {w : World} {r : Nat} {s : Slc} {bs : List UInt8} {ev : Value} (h : qL w r s bs ev) (v : Value) :
  aw w ⟨r, 1, none⟩ 1 /\ qL (w.setCell ⟨r, 1, none⟩ v) r s bs v /\ Ext (eqB r) w (w.setCell ⟨r, 1, none⟩ v) := by
 obtain ⟨h1, h2, h3⟩ := h.1.set 1 (by simp) v
 exact ⟨h1, ⟨h2, cC h.2.1 h3 (fun k hk he => h.2.2.1 (he ▸ hk)), h.2.2⟩, h3⟩
theorem um (r : Nat) (s : Slc) (bs : List UInt8) (ev v : Value) (w : World) (h : qL w r s bs ev) (hi : isI ev) (hv : ∀ X : Prop, X -> oneK v X) :
  Calls Tryz.prog aX ⟨[.pointer (some ⟨r, 0, none⟩), v]⟩ w fun e w' => e = .returned (.int .i64 0) /\ qL w' r s bs (vz ev v) /\ Ext (eqB r) w w' := by
 refine vR _ _ ?_
 refine aa rfl ⟨_, by rw [add_lit]; exact h.c1, hi, aj (fun hn => aa rfl (hv _ (hv _ ?_))) (fun hn => ?_)⟩
 ·obtain ⟨h1, h2, h3⟩ := h.CN v
  rw [add_lit]
  refine ⟨h1, ?_⟩
  rintro w6 rfl
  refine ⟨rfl, ?_, h3⟩
  rw [vz, if_pos hn]; exact h2
 ·refine ⟨rfl, ?_, Ext.refl _ _⟩
  rw [vz, if_neg (by rw [hn]; decide)]; exact h
theorem yt {s : Slc} {sz lo hi c k : Nat} (h : ai (Slc.sub s sz lo hi c) k) : ai s k := by
 obtain ⟨a, ha, rfl⟩ := h
 simp only [Slc.sub] at ha
 split at ha
 ·exact ⟨a, ha, rfl⟩
 ·obtain ⟨b, hb, rfl⟩ := Option.map_eq_some_iff.1 ha
  exact ⟨b, hb, (ew b _).symm⟩
theorem qL.cut {w : World} {r : Nat} {s : Slc} {bs : List UInt8} {ev : Value} (h : qL w r s bs ev) {k : Nat} (hk : k <= bs.length) :
  aw w ⟨r, 0, none⟩ 1 /\ qL (w.setCell ⟨r, 0, none⟩ (Slc.sub s 1 k s.l s.c).v) r (Slc.sub s 1 k s.l s.c) (bs.drop k) ev /\ Ext (eqB r) w (w.setCell ⟨r, 0, none⟩ (Slc.sub s 1 k s.l s.c).v) := by
 obtain ⟨h1, h2, h3⟩ := h.1.set 0 (by simp) (Slc.sub s 1 k s.l s.c).v
 have hl := h.2.1.1
 have hc := h.2.2.2
 have hb : au w (Slc.sub s 1 k s.l s.c) (bs.drop k) := by
  have := iP h.2.1 (lo := k) (hi := s.l) (c := s.c) (by omega) (by omega) (by omega)
  rw [hl, List.take_length] at this
  rw [hl]; exact this
 have hn : ¬ ai (Slc.sub s 1 k s.l s.c) r := fun hh => h.2.2.1 (yt hh)
 refine ⟨h1, ⟨h2, cC hb h3 (fun x hx he => hn (he ▸ hx)), hn, ?_⟩, h3⟩
 simp only [Slc.sub]
 omega
def Da (A : Nat -> Addr) (w w' : World) (r : Nat) (s : Slc) (bs : List UInt8) (n : Int) : Except Nat (Nat × List UInt8) -> Prop
 | .error k => n = 0 /\ qL w' r s bs (mj A (gw.getD k 0)) /\ Ext (eqB r) w w'
 | .ok (m, rest) => n = m /\ ∃ s', qL w' r s' rest .nilIface /\ (∀ k, ai s' k -> ai s k) /\ Ext (eqB r) w w'
theorem B8 (A : Nat -> Addr) (r : Nat) (s : Slc) (bs : List UInt8) (w : World) (h : qL w r s bs .nilIface) (hl : bs.length <= 2 ^ 30) (hE : cP A w) :
  Calls Tryz.prog lE ⟨[.pointer (some ⟨r, 0, none⟩)]⟩ w fun e w' => ∃ n : Int, e = .returned (.int .i64 n) /\ Da A w w' r s bs n (rawR 0 0 bs) := by
 have hsl := h.2.1.1
 refine xz _ ?_
 unfold vn
 refine aa rfl ⟨s, h.c0, ?_⟩
 refine ⟨fun n i w2 => w2 = w /\ ∃ k m : Nat, i = k /\ n = m /\ k <= bs.length /\ k <= 8 /\ m < 2 ^ (7 * k) /\ rawR k m (bs.drop k) = rawR 0 0 bs, fun _ i _ => ((bs.length : Int) - i).toNat, ⟨rfl, 0, 0, rfl, rfl, by omega, by omega, by simp, rfl⟩, ?_⟩
 rintro n6 i7 w8 ⟨rfl, k, m, rfl, rfl, hk, hk8, hm, hraw⟩
 intros
 have fail : ∀ (j : Nat), j < 19 -> Calls Tryz.prog aX ⟨[.pointer (some ⟨r, 0, none⟩), mj A (gw.getD j 0)]⟩ w8 fun e w' => e = .returned (.int .i64 0) /\ qL w' r s bs (mj A (gw.getD j 0)) /\ Ext (eqB r) w8 w' :=
  fun j hj => um r s bs .nilIface _ w8 h trivial (yr A _)
 refine af (fun h1 => ?_) (fun h1 => ?_)
 ·have hkl : k < bs.length := by omega
  obtain ⟨a, ha, hc⟩ := eE h.2.1 hkl
  have hd : bs.drop k = bs[k] :: bs.drop (k + 1) := Fv hkl
  rw [hd, rawR] at hraw
  have hcl := bs[k].toNat_lt
  generalize hcc : bs[k].toNat = c at hraw hcl
  have hc' : w8.cell? (a.add k) = some (.int .u8 (c : Int)) := by rw [hc, aS, hcc]
  have hmin : min (Int.toNat ((7 : Int) * (k : Int))) 64 = 7 * k := by omega
  have hP : 2 ^ (7 * k) <= 2 ^ 56 := Nat.pow_le_pow_right (by omega) (by omega)
  have hP1 : 2 ^ (7 * (k + 1)) = 128 * 2 ^ (7 * k) := by rw [show 7 * (k + 1) = 7 + 7 * k by omega, Nat.pow_add]
  have hor := DH m (c % 128) (7 * k) hm
  have hdm : (c % 128) * 2 ^ (7 * k) <= 127 * 2 ^ (7 * k) := Nat.mul_le_mul_right _ (by omega)
  rw [hmin]
  have ecast : ((c : Int) % 128) * ((2 ^ (7 * k) : Nat) : Int) = (((c % 128) * 2 ^ (7 * k) : Nat) : Int) := by
   rw [Int.natCast_mul]; congr 1
  refine aa ha ⟨by omega, h1, (c : Int), by rw [show (Int.toNat (k : Int)) * 1 = k by omega]; exact hc', ?_⟩
  rw [ecast, DG, hor]
  generalize hdv : (c % 128) * 2 ^ (7 * k) = d at hraw hdm
  generalize hPv : 2 ^ (7 * k) = P at hP hP1 hm hdm
  refine ⟨by omega, by omega, ar (by omega), ar (by omega), by omega, ar (by omega), by omega, by omega, ar (by omega), ar (by omega), ?_⟩
  refine ⟨fun w2 => w2 = w8 /\ ¬ (128 <= c /\ k < 8), af (fun h2 => af (fun h3 => ?_) (fun h3 => ⟨rfl, by omega⟩)) (fun h2 => ⟨rfl, by omega⟩), ?_⟩
  ·rw [if_pos (by omega)] at hraw
   exact ⟨ar (by omega), ⟨rfl, k + 1, m + d, rfl, rfl, by omega, by omega, by rw [hP1]; omega, hraw⟩, by dsimp only; omega⟩
  ·rintro w66 ⟨rfl, hno⟩
   intros
   rw [if_neg hno] at hraw
   have form : (128 <= c \/ (c = 0 /\ 0 < k) \/ 4611686018427387903 < m + d) -> ∃ v : Value, w66.cell? ⟨aH, 0, none⟩ = some v /\ Calls Tryz.prog aX ⟨[.pointer (some ⟨r, 0, none⟩), v]⟩ w66 fun e w' => ∃ n : Int, e = .returned (.int .i64 n) /\ ∃ n' : Int, Ending.returned (Value.int .i64 n) = .returned (.int .i64 n') /\ Da A w66 w' r s bs n' (rawR 0 0 bs) := by
    intro hbad
    refine ⟨_, cP.at hE 3 (by omega), (fail 3 (by omega)).mono ?_⟩
    rintro e w' ⟨rfl, g1, g2⟩
    rw [if_pos hbad] at hraw
    refine ⟨0, rfl, 0, rfl, ?_⟩
    rw [<- hraw]
    exact ⟨rfl, g1, g2⟩
   have good : ¬ (128 <= c \/ (c = 0 /\ 0 < k) \/ 4611686018427387903 < m + d) ->
     needSome (some (⟨r, 0, none⟩ : Addr)) fun a102 => ∃ s103 : Slc, w66.cell? a102 = some s103.v /\ inR .i64 ((k : Int) + 1) /\ 0 <= ((k : Int) + 1) /\ ((k : Int) + 1) <= ((s103.l : Nat) : Int) /\ ((s103.l : Nat) : Int) <= ((s103.c : Nat) : Int) /\ ((s103.c : Nat) : Int) <= ((s103.c : Nat) : Int) /\
      needSome (some (⟨r, 0, none⟩ : Addr)) fun a105 => aw w66 a105 1 /\ ∀ w106 : World, w106 = w66.setCell a105 (Slc.v (Slc.sub s103 1 (Int.toNat ((k : Int) + 1)) s103.l s103.c)) ->
       ∃ n' : Int, Ending.returned (Value.int .i64 ((m + d : Nat) : Int)) = .returned (.int .i64 n') /\ Da A w66 w106 r s bs n' (rawR 0 0 bs) := by
    intro hgood
    rw [if_neg hgood] at hraw
    have ek : Int.toNat ((k : Int) + 1) = k + 1 := by omega
    obtain ⟨g1, g2, g3⟩ := h.cut (k := k + 1) (by omega)
    refine aa rfl ⟨s, h.c0, ar (by omega), by omega, by omega, by have := h.2.2.2; omega, by omega, aa rfl ⟨g1, ?_⟩⟩
    rintro w106 rfl
    rw [ek]
    refine ⟨_, rfl, ?_⟩
    rw [<- hraw]
    exact ⟨rfl, _, g2, fun x hx => yt hx, g3⟩
   refine af (fun h2 => form (.inl (by omega))) (fun h2 => af (fun h3 => af (fun h4 => form (.inr (.inl (by omega)))) (fun h4 => ?_)) (fun h3 => ?_))
   ·refine af (fun h5 => form (.inr (.inr (by omega)))) (fun h5 => af (fun h6 => by omega) (fun h6 => good (by omega)))
   ·refine af (fun h5 => form (.inr (.inr (by omega)))) (fun h5 => af (fun h6 => by omega) (fun h6 => good (by omega)))
 ·refine ⟨_, cP.at hE 1 (by omega), (fail 1 (by omega)).mono ?_⟩
  rintro e w' ⟨rfl, g1, g2⟩
  have : bs.drop k = [] := List.drop_eq_nil_of_le (by omega)
  rw [this, rawR] at hraw
  refine ⟨0, rfl, 0, rfl, ?_⟩
  rw [<- hraw]
  exact ⟨rfl, g1, g2⟩
end Go.D
namespace Go.D
open Go Go.Proofs
abbrev InS := List UInt8 × Option Nat
def AS (A : Nat -> Addr) (w : World) (r : Nat) (s : Slc) (st : InS) : Prop := gd w r s st.1 (cm A st.2)
def GZ (n : Int) (st : InS) : InS := if n < 0 \/ 4611686018427387903 < n then (st.1, some (st.2.getD 0)) else (st.1 ++ bQ n.toNat, st.2)
def FK (t : List UInt8) (st : InS) : InS := (st.1 ++ bQ t.length ++ t, st.2)
theorem Db (A : Nat -> Addr) (e : Option Nat) : vz (cm A e) (mj A aD) = cm A (some (e.getD 0)) := by
 cases e <;> rfl
theorem FL (A : Nat -> Addr) (n0 r : Nat) (s : Slc) (st : InS) (n : Int) (w : World) (h : AS A w r s st) (hn : -9223372036854775808 <= n /\ n <= 9223372036854775807) (hl : st.1.length <= 2 ^ 20) (hE : dL A n0 w) :
  Calls Tryz.prog cE ⟨[.pointer (some ⟨r, 0, none⟩), .int .i64 n]⟩ w fun e w' => e = .returned (.tuple #[]) /\ ∃ s', AS A w' r s' (GZ n st) /\ bJ (lC r s) (lC r s') w w' := by
 refine (uk A r s st.1 (cm A st.2) n w h (aF _ _) hn hl (hE.1.1 aD (lT (k := 0) (by omega)))).mono ?_
 rintro e w' ⟨rfl, s', h1, h2⟩
 refine ⟨rfl, s', ?_, h2⟩
 unfold AS GZ
 split at h1
 ·rename_i hh; rw [if_pos hh]
  rw [Db] at h1; exact h1
 ·rename_i hh; rw [if_neg hh]
  exact h1
theorem AS.new {w1 : World} {r : Nat} {T : TypeId} (A : Nat -> Addr) (h : w1.heap[r]? = some (.cells ⟨[(Slc.v (⟨none, 0, 0⟩ : Slc)), Value.nilIface]⟩ T)) : AS A w1 r ⟨none, 0, 0⟩ ([], none) :=
 ⟨⟨T, (0, 0), h, .inl (by simp)⟩, Own.nil _ _, by rintro ⟨a, ha, _⟩; cases ha⟩
theorem FM {r k : Nat} (h : lC r ⟨none, 0, 0⟩ k) : k = r := by
 rcases h with h | ⟨a, ha, _⟩
 ·exact h
 ·cases ha
end Go.D
namespace Go.D
open Go Go.Proofs
theorem uq {n : Nat} (h : n < 256) : (UInt8.ofNat n).toNat = n := by
 simp [UInt8.toNat_ofNat', Nat.mod_eq_of_lt h]
theorem ur (c : UInt8) : UInt8.ofNat c.toNat = c := by simp
theorem H7 (k : Nat) : 2 ^ (7 * (k + 1)) = 128 * 2 ^ (7 * k) := by rw [show 7 * (k + 1) = 7 + 7 * k by omega, Nat.pow_add]
theorem B9 : ∀ (bs : List UInt8) (k m n : Nat) (rest : List UInt8), rawR k m bs = .ok (n, rest) ->
  ∃ q, n = m + q * 2 ^ (7 * k) /\ bs = bQ q ++ rest /\ (0 < k -> 0 < q) /\ n <= 4611686018427387903
 | [], k, m, n, rest, h => by simp [rawR] at h
 | c :: bs, k, m, n, rest, h => by
  rw [rawR] at h
  have hc := c.toNat_lt
  split at h
  ·rename_i h1
   obtain ⟨q, h2, h3, h4, h5⟩ := B9 bs (k + 1) _ n rest h
   refine ⟨c.toNat % 128 + 128 * q, ?_, ?_, fun _ => by have := h4 (by omega); omega, h5⟩
   ·rw [h2, H7, Nat.add_mul, Nat.add_assoc, <- Nat.mul_assoc, Nat.mul_comm q 128]
   ·have hq := h4 (by omega)
    rw [AQ (by omega), h3]
    have e1 : (c.toNat % 128 + 128 * q) % 128 + 128 = c.toNat := by omega
    have e2 : (c.toNat % 128 + 128 * q) / 128 = q := by omega
    rw [e1, e2, ur]; rfl
  ·split at h
   ·cases h
   ·rename_i h1 h2
    simp only [Except.ok.injEq, Prod.mk.injEq] at h
    obtain ⟨rfl, rfl⟩ := h
    have h3 : c.toNat < 128 := by omega
    have e1 : c.toNat % 128 = c.toNat := by omega
    rw [e1] at h2 ⊢
    refine ⟨c.toNat, rfl, ?_, fun _ => by omega, by omega⟩
    rw [AP h3, ur]; rfl
theorem FN : ∀ (q k m : Nat) (rest : List UInt8), k <= 8 -> (0 < k -> 0 < q) -> m + q * 2 ^ (7 * k) <= 4611686018427387903 ->
  rawR k m (bQ q ++ rest) = .ok (m + q * 2 ^ (7 * k), rest) := by
 intro q
 induction q using Nat.strongRecOn with
 | ind q ih =>
  intro k m rest hk hq hm
  by_cases h : q < 128
  ·rw [AP h]
   simp only [List.cons_append, List.nil_append, rawR, uq (show q < 256 by omega)]
   have e1 : q % 128 = q := by omega
   rw [e1, if_neg (by omega), if_neg (by omega)]
  ·rw [AQ h]
   simp only [List.cons_append, rawR, uq (show q % 128 + 128 < 256 by omega)]
   have e1 : (q % 128 + 128) % 128 = q % 128 := by omega
   have hk8 : k < 8 := by
    rcases Nat.lt_or_ge k 8 with h | h
    ·exact h
    ·have hk8 : k = 8 := by omega
     subst hk8
     exfalso
     have e9 : (2 : Nat) ^ (7 * 8) = 72057594037927936 := by decide
     rw [e9] at hm
     have : 128 * 72057594037927936 <= q * 72057594037927936 := Nat.mul_le_mul_right _ (by omega)
     omega
   have e2 : m + q % 128 * 2 ^ (7 * k) + q / 128 * 2 ^ (7 * (k + 1)) = m + q * 2 ^ (7 * k) := by
    rw [H7, Nat.add_assoc]
    congr 1
    rw [<- Nat.mul_assoc, <- Nat.add_mul]
    congr 1
    omega
   rw [e1, if_pos ⟨by omega, hk8⟩, ih (q / 128) (by omega) (k + 1) _ rest (by omega) (fun _ => by omega) (by rw [e2]; exact hm), e2]
theorem G0 (n : Nat) (rest : List UInt8) (h : n <= 4611686018427387903) : rawR 0 0 (bQ n ++ rest) = .ok (n, rest) := by
 have := FN n 0 0 rest (by omega) (fun h => by omega) (by simpa using h)
 simpa using this
theorem G1 {bs : List UInt8} {n : Nat} {rest : List UInt8} (h : rawR 0 0 bs = .ok (n, rest)) : bs = bQ n ++ rest /\ n <= 4611686018427387903 := by
 obtain ⟨q, h1, h2, _, h4⟩ := B9 bs 0 0 n rest h
 have : n = q := by simpa using h1
 subst this
 exact ⟨h2, h4⟩
theorem Ca : ∀ (bs : List UInt8) (k m j : Nat), rawR k m bs = .error j -> j = 1 \/ j = 3
 | [], k, m, j, h => by simp [rawR] at h; exact .inl h.symm
 | c :: bs, k, m, j, h => by
  rw [rawR] at h
  split at h
  ·exact Ca bs _ _ j h
  ·split at h
   ·simp at h; exact .inr h.symm
   ·cases h
end Go.D
namespace Go.D
open Go Go.Proofs
def InR (A : Nat -> Addr) (w : World) (r : Nat) (F : Nat -> Prop) (st : InS) : Prop :=
 ∃ s, qL w r s st.1 (cm A st.2) /\ (∀ k, ai s k -> F k) /\ ¬ F r
def rNum (most : Int) : InS -> Int × InS
 | (bs, some k) => (0, (bs, some k))
 | (bs, none) => match rawR 0 0 bs with
  | .error k => (0, (bs, some k))
  | .ok (n, rest) => if most < (n : Int) then (0, (rest, some 0)) else ((n : Int), (rest, none))
theorem Cb {bs : List UInt8} {k : Nat} (most : Int) (h : rawR 0 0 bs = .error k) : rNum most (bs, none) = (0, (bs, some k)) := by simp [rNum, h]
theorem Cc {bs rest : List UInt8} {n : Nat} {most : Int} (h : rawR 0 0 bs = .ok (n, rest)) (hm : most < (n : Int)) : rNum most (bs, none) = (0, (rest, some 0)) := by simp [rNum, h, hm]
theorem AT {bs rest : List UInt8} {n : Nat} {most : Int} (h : rawR 0 0 bs = .ok (n, rest)) (hm : ¬ most < (n : Int)) : rNum most (bs, none) = ((n : Int), (rest, none)) := by simp [rNum, h, hm]
theorem Ext.trans' {M : Nat -> Prop} {a b c : World} (h1 : Ext M a b) (h2 : Ext M b c) : Ext M a c := h1.trans h2 (fun _ h => h) (fun _ h => .inl h)
theorem Ew (A : Nat -> Addr) (s : Slc) (bs : List UInt8) (w : World) (h : au w s bs) (hl : s.l <= 2 ^ 30) :
  Calls Tryz.prog oN ⟨[s.v]⟩ w fun e w' => ∃ (r : Nat) (F : Nat -> Prop), e = .returned (.pointer (some ⟨r, 0, none⟩)) /\ InR A w' r F (bs, none) /\ ah w w' /\ w.heap.size <= r /\ (∀ k, F k -> w.heap.size <= k /\ k < w'.heap.size) := by
 refine AG _ ?_
 unfold zU
 refine (fO s bs w h hl).mono ?_
 rintro e w3 ⟨t, rfl, ht, hf, hk⟩
 refine ⟨t, rfl, ao (fun r w6 hr hb hk6 hs6 => ?_)⟩
 have hnot : ¬ ai t r := fun hh => by have := cD ht r hh; omega
 exact ⟨r, ai t, rfl, ⟨t, ⟨⟨_, _, hb, .inl (by simp)⟩, aG ht.bytes hk6, hnot, ht.le (by omega)⟩, fun _ h => h, hnot⟩, hk.trans hk6, by have := hk.size; omega, fun k hk => ⟨hf k hk, by have := cD ht k hk; omega⟩⟩
theorem Cd {A : Nat -> Addr} {r : Nat} {F : Nat -> Prop} {bs : List UInt8} {w : World} (h : InR A w r F (bs, none)) (k : Nat) :
  Calls Tryz.prog aX ⟨[.pointer (some ⟨r, 0, none⟩), mj A (gw.getD k 0)]⟩ w fun e w' => e = .returned (.int .i64 0) /\ InR A w' r F (bs, some k) /\ Ext (eqB r) w w' := by
 obtain ⟨s, h1, h2, h3⟩ := h
 refine (um r s bs .nilIface (mj A (gw.getD k 0)) w h1 trivial (yr A _)).mono ?_
 rintro e w' ⟨rfl, g1, g2⟩
 exact ⟨rfl, ⟨s, g1, h2, h3⟩, g2⟩
theorem vF (A : Nat -> Addr) (n0 r : Nat) (F : Nat -> Prop) (st : InS) (most : Int) (w : World) (h : InR A w r F st) (hl : st.1.length <= 2 ^ 30) (hE : dL A n0 w) (hr : n0 <= r) :
  Calls Tryz.prog dS ⟨[.pointer (some ⟨r, 0, none⟩), .int .i64 most]⟩ w fun e w' => e = .returned (.int .i64 (rNum most st).1) /\ InR A w' r F (rNum most st).2 /\ Ext (eqB r) w w' := by
 obtain ⟨bs, er⟩ := st
 refine xA _ _ ?_
 unfold vo
 have h0 := h
 obtain ⟨s, h1, h2, h3⟩ := h
 refine aa rfl ⟨_, by rw [add_lit]; exact h1.c1, aF _ _, ?_⟩
 cases er with
 | some k =>
  refine aj (fun _ => ?_) (fun hh => by cases hh)
  exact ⟨rfl, h0, Ext.refl _ _⟩
 | none =>
  refine aj (fun hh => by cases hh) (fun _ => ?_)
  refine (B8 A r s bs w h1 hl hE.1).mono ?_
  rintro e w6 ⟨n, rfl, hres⟩
  refine ⟨n, rfl, ?_⟩
  cases hraw : rawR 0 0 bs with
  | error k =>
   rw [hraw] at hres
   obtain ⟨rfl, g1, g2⟩ := hres
   rw [Cb most hraw]
   refine aa rfl ⟨mj A (gw.getD k 0), by rw [add_lit]; exact g1.c1, trivial, aj (fun hh => by cases hh) (fun _ => ?_)⟩
   exact ⟨rfl, ⟨s, g1, h2, h3⟩, g2⟩
  | ok x =>
   obtain ⟨m, rest⟩ := x
   rw [hraw] at hres
   obtain ⟨rfl, s', g1, g2, g3⟩ := hres
   have hR : InR A w6 r F (rest, none) := ⟨s', g1, fun k hk => h2 k (g2 k hk), h3⟩
   refine aa rfl ⟨.nilIface, by rw [add_lit]; exact g1.c1, trivial, aj (fun _ => af (fun hlt => ?_) (fun hlt => ?_)) (fun hh => by cases hh)⟩
   ·refine ⟨_, cP.at (hE.ext g3 (fun k hk => by rw [show k = r from hk]; exact hr)).1 0 (by omega), (Cd hR 0).mono ?_⟩
    rintro e w12 ⟨rfl, q1, q2⟩
    rw [Cc hraw hlt]
    exact ⟨_, rfl, rfl, q1, g3.trans' q2⟩
   ·rw [AT hraw hlt]
    exact ⟨rfl, hR, g3⟩
theorem yu (most : Int) (st : InS) :
  (∃ bs k, st = (bs, some k) /\ rNum most st = (0, (bs, some k))) \/
  (∃ bs k, st = (bs, none) /\ (k = 1 \/ k = 3) /\ rNum most st = (0, (bs, some k))) \/
  (∃ n rest, st = (bQ n ++ rest, none) /\ n <= 4611686018427387903 /\ most < (n : Int) /\ rNum most st = (0, (rest, some 0))) \/
  (∃ n rest, st = (bQ n ++ rest, none) /\ n <= 4611686018427387903 /\ (n : Int) <= most /\ rNum most st = ((n : Int), (rest, none))) := by
 obtain ⟨bs, er⟩ := st
 cases er with
 | some k => exact .inl ⟨bs, k, rfl, rfl⟩
 | none =>
  cases h : rawR 0 0 bs with
  | error k => exact .inr (.inl ⟨bs, k, rfl, Ca _ _ _ _ h, Cb most h⟩)
  | ok x =>
   obtain ⟨n, rest⟩ := x
   obtain ⟨h1, h2⟩ := G1 h
   by_cases hm : most < (n : Int)
   ·exact .inr (.inr (.inl ⟨n, rest, by rw [h1], h2, hm, Cc h hm⟩))
   ·exact .inr (.inr (.inr ⟨n, rest, by rw [h1], h2, by omega, AT h hm⟩))
theorem Ce (most : Int) (n : Nat) (rest : List UInt8) (h : n <= 4611686018427387903) (hm : (n : Int) <= most) : rNum most (bQ n ++ rest, none) = ((n : Int), (rest, none)) :=
 AT (G0 n rest h) (by omega)
theorem FO (most : Int) (st : InS) : (rNum most st).2.1.length <= st.1.length := by
 rcases yu most st with ⟨bs, k, rfl, h⟩ | ⟨bs, k, rfl, _, h⟩ | ⟨n, rest, rfl, _, _, h⟩ | ⟨n, rest, rfl, _, _, h⟩ <;> rw [h] <;> simp
theorem Cf (most : Int) (st : InS) : 0 <= (rNum most st).1 /\ (rNum most st).1 <= 4611686018427387903 := by
 rcases yu most st with ⟨bs, k, rfl, h⟩ | ⟨bs, k, rfl, _, h⟩ | ⟨n, rest, rfl, _, _, h⟩ | ⟨n, rest, rfl, _, _, h⟩ <;> rw [h] <;> simp <;> omega
def HF : InS -> Option Nat
 | (bs, some k) => some k
 | (bs, none) => if 0 < bs.length then some 3 else none
theorem Cg (A : Nat -> Addr) (n0 r : Nat) (F : Nat -> Prop) (st : InS) (w : World) (h : InR A w r F st) (hE : dL A n0 w) :
  Calls Tryz.prog jd ⟨[.pointer (some ⟨r, 0, none⟩)]⟩ w fun e w' => e = .returned (cm A (HF st)) /\ w' = w := by
 refine xB _ ?_
 obtain ⟨bs, er⟩ := st
 obtain ⟨s, h1, h2, h3⟩ := h
 have hl := h1.2.1.1
 dsimp only at hl
 refine aa rfl ⟨_, by rw [add_lit]; exact h1.c1, aF _ _, ?_⟩
 cases er with
 | some k => exact aj (fun hh => by cases hh) (fun _ => aa rfl ⟨_, by rw [add_lit]; exact h1.c1, rfl, rfl⟩)
 | none =>
  refine aj (fun _ => aa rfl ⟨s, h1.c0, af (fun hlt => ?_) (fun hlt => ?_)⟩) (fun hh => by cases hh)
  ·refine ⟨_, cP.at hE.1 3 (by omega), ?_, rfl⟩
   rw [HF, if_pos (by omega)]; rfl
  ·refine aa rfl ⟨_, by rw [add_lit]; exact h1.c1, ?_, rfl⟩
   rw [HF, if_neg (by omega)]
def yv (n : Int) : InS -> List UInt8 × InS
 | (bs, some k) => ([], (bs, some k))
 | (bs, none) => if (bs.length : Int) < n then ([], (bs, some 1)) else (bs.take n.toNat, (bs.drop n.toNat, none))
theorem AU {n : Int} {bs : List UInt8} (h : (bs.length : Int) < n) : yv n (bs, none) = ([], (bs, some 1)) := by simp [yv, h]
theorem Aa {n : Int} {bs : List UInt8} (h : ¬ (bs.length : Int) < n) : yv n (bs, none) = (bs.take n.toNat, (bs.drop n.toNat, none)) := by simp [yv, h]
def Ch (most : Int) (st : InS) : List UInt8 × InS := yv (rNum most st).1 (rNum most st).2
theorem Ey (most : Int) (t rest : List UInt8) (h : t.length <= 4611686018427387903) (hm : (t.length : Int) <= most) : Ch most (bQ t.length ++ (t ++ rest), none) = (t, (rest, none)) := by
 rw [Ch, Ce most _ _ h hm, Aa (by simp; omega)]
 simp
end Go.D
namespace Go.D
open Go Go.Proofs
structure RdK (A : Nat -> Addr) (n0 : Nat) (w0 w : World) (r : Nat) (F : Nat -> Prop) (bs : List UInt8) : Prop where
 i : InR A w r F (bs, none)
 ge : w0.heap.size <= r
 l : r < w.heap.size
 f : ∀ k, F k -> w0.heap.size <= k /\ k < w.heap.size
 k : ah w0 w
 e : dL A n0 w0
 n : n0 <= w0.heap.size
 b : bs.length <= 2 ^ 20
section
variable {A : Nat -> Addr} {n0 : Nat} {w0 w : World} {r : Nat} {F : Nat -> Prop} {bs rest : List UInt8}
theorem RdK.step {w' : World} {bs' : List UInt8} (h : RdK A n0 w0 w r F bs) (he : Ext (eqB r) w w') (hi : InR A w' r F (bs', none)) (hb : bs'.length <= 2 ^ 20) : RdK A n0 w0 w' r F bs' := by
 have z := he.size
 exact ⟨hi, h.ge, by have := h.l; omega, fun k hk => ⟨(h.f k hk).1, by have := (h.f k hk).2; omega⟩, h.k.ext he (fun k hk => by rw [show k = r from hk]; exact h.ge), h.e, h.n, hb⟩
theorem rdNum {n most : Int} (h : RdK A n0 w0 w r F (pf n ++ rest)) (hn : 0 <= n) (hm : n <= most) (hb : most <= 2 ^ 40) :
  Calls Tryz.prog dS ⟨[.pointer (some ⟨r, 0, none⟩), .int .i64 most]⟩ w fun e w' => e = .returned (.int .i64 n) /\ RdK A n0 w0 w' r F rest /\ Ext (eqB r) w w' := by
 have hl := h.b
 have q := Ce most n.toNat rest (by omega) (by omega)
 have hrl : rest.length <= 2 ^ 20 := by rw [List.length_append] at hl; omega
 refine (vF A n0 r F _ most w h.i (by dsimp only; omega) (h.e.ae h.k) (by have := h.n; have := h.ge; omega)).mono ?_
 rintro e w' ⟨rfl, g, k⟩
 unfold pf at *
 rw [q] at g ⊢
 refine ⟨?_, h.step k g hrl, k⟩
 rw [show ((n.toNat : Nat) : Int) = n by omega]
end
end Go.D
namespace Go.D
open Go Go.Proofs
theorem zp (A : Nat -> Addr) (r : Nat) (s : Slc) (bs : List UInt8) (ev : Value) (t : List UInt8) (w : World) (h : gd w r s bs ev) (hi : isI ev) (hl : bs.length <= 2 ^ 20) (ht : t.length <= 2 ^ 20)
  (hE : vg BF w aD (A aD)) :
  Calls Tryz.prog fg ⟨[.pointer (some ⟨r, 0, none⟩), dA t]⟩ w fun e w' => e = .returned (.tuple #[]) /\
   ∃ s', gd w' r s' (bs ++ bQ t.length ++ t) ev /\ bJ (lC r s) (lC r s') w w' := by
 refine uJ _ _ ?_
 unfold rC
 refine (uk A r s bs ev t.length w h hi (by omega) hl hE).mono ?_
 rintro e w4 ⟨rfl, s4, h4, f4⟩
 rw [if_neg (by omega), if_neg (by omega)] at h4
 have hn : ((t.length : Nat) : Int).toNat = t.length := by omega
 rw [hn] at h4
 have hle := ma t.length 8 (by omega)
 have hsl : s4.l = bs.length + (bQ t.length).length := by have := h4.2.1.1; simpa using this
 refine ⟨rfl, aa rfl ⟨s4, h4.c0, h4.append rfl ⟨rfl, rfl⟩ (by simp only [Src.n]; omega) (fun s7 w8 hc hh => aa rfl ⟨hc, ?_⟩)⟩⟩
 rintro w10 rfl
 obtain ⟨h5, h6⟩ := hh _ rfl
 exact ⟨rfl, s7, h5, f4.trans h6⟩
end Go.D
namespace Go.D
open Go Go.Proofs
theorem Ez (A : Nat -> Addr) (n0 r : Nat) (s : Slc) (st : InS) (t : List UInt8) (w : World) (h : AS A w r s st) (hl : st.1.length <= 2 ^ 20) (ht : t.length <= 2 ^ 20) (hE : dL A n0 w) :
  Calls Tryz.prog fg ⟨[.pointer (some ⟨r, 0, none⟩), dA t]⟩ w fun e w' => e = .returned (.tuple #[]) /\ ∃ s', AS A w' r s' (FK t st) /\ bJ (lC r s) (lC r s') w w' := by
 exact zp A r s st.1 (cm A st.2) t w h (aF _ _) hl ht (hE.1.1 aD (lT (k := 0) (by omega)))
end Go.D
namespace Go.D
open Go Go.Proofs
theorem AV (A : Nat -> Addr) (n0 r : Nat) (F : Nat -> Prop) (st : InS) (most : Int) (w : World) (h : InR A w r F st) (hl : st.1.length <= 2 ^ 30) (hE : dL A n0 w) (hr : n0 <= r) :
  Calls Tryz.prog ik ⟨[.pointer (some ⟨r, 0, none⟩), .int .i64 most]⟩ w fun e w' => e = .returned (dA (Ch most st).1) /\ InR A w' r F (Ch most st).2 /\ Ext (eqB r) w w' := by
 refine vS _ _ ?_
 unfold tI
 refine (vF A n0 r F st most w h hl hE hr).mono ?_
 rintro e w4 ⟨rfl, hR, k4⟩
 have hlen := FO most st
 have hnn := Cf most st
 unfold Ch
 generalize hst : rNum most st = x at hR hlen hnn ⊢
 obtain ⟨n, bs, er⟩ := x
 dsimp only at hR hlen hnn ⊢
 have hE4 : dL A n0 w4 := hE.ext k4 (fun k hk => by rw [show k = r from hk]; exact hr)
 have hR0 := hR
 obtain ⟨s, h1, h2, h3⟩ := hR
 have hsl := h1.2.1.1
 have hsc := h1.2.2.2
 dsimp only at hsl h1
 refine ⟨_, rfl, aa rfl ⟨_, by rw [add_lit]; exact h1.c1, aF _ _, ?_⟩⟩
 cases er with
 | some k => exact aj (fun _ => ⟨rfl, hR0, k4⟩) (fun hh => by cases hh)
 | none =>
  refine aj (fun hh => by cases hh) (fun _ => aa rfl ⟨s, h1.c0, af (fun hlt => ?_) (fun hlt => ?_)⟩)
  ·refine ⟨_, cP.at hE4.1 1 (by omega), (Cd hR0 1).mono ?_⟩
   rintro e w12 ⟨rfl, q1, q2⟩
   rw [AU (by omega)]
   exact ⟨_, rfl, rfl, q1, k4.trans' q2⟩
  ·rw [Aa (by omega)]
   obtain ⟨g1, g2, g3⟩ := h1.cut (k := n.toNat) (by omega)
   have hb := iP h1.2.1 (lo := 0) (hi := n.toNat) (c := s.c) (by omega) (by omega) (by omega)
   refine aa rfl ⟨s, h1.c0, by omega, by omega, by omega, by omega, bs.take n.toNat, by simpa using hb, aa rfl ⟨s, h1.c0, by omega, by omega, by omega, by omega, aa rfl ⟨g1, ?_⟩⟩⟩
   rintro w22 rfl
   exact ⟨rfl, ⟨_, g2, fun k hk => h2 k (yt hk), h3⟩, k4.trans' g3⟩
end Go.D
namespace Go.D
open Go Go.Proofs
section
variable {A : Nat -> Addr} {n0 : Nat} {w0 w : World} {r : Nat} {F : Nat -> Prop} {bs rest : List UInt8}
theorem HG {t : List UInt8} {most : Int} (h : RdK A n0 w0 w r F (uh t ++ rest)) (hm : (t.length : Int) <= most) (hb : most <= 2 ^ 40) :
  Calls Tryz.prog ik ⟨[.pointer (some ⟨r, 0, none⟩), .int .i64 most]⟩ w fun e w' => e = .returned (dA t) /\ RdK A n0 w0 w' r F rest /\ Ext (eqB r) w w' := by
 have hl := h.b
 have q := Ey most t rest (by omega) (by omega)
 have hrl : rest.length <= 2 ^ 20 := by rw [List.length_append] at hl; omega
 refine (AV A n0 r F _ most w h.i (by dsimp only; omega) (h.e.ae h.k) (by have := h.n; have := h.ge; omega)).mono ?_
 rintro e w' ⟨rfl, g, k⟩
 unfold uh at *
 rw [List.append_assoc] at g ⊢
 rw [q] at g ⊢
 exact ⟨rfl, h.step k g hrl, k⟩
end
end Go.D
namespace Go.D
open Go Go.Proofs
section
variable {w w' : World} {r st : Nat} {x : UnP} {tr ep top : Int} {pg : Int -> Option (List UInt8)} {ins : Int -> List Int}
theorem UnM.DM (h : UnM w r st x tr ep top pg ins) : r ≠ x.mp /\ r ≠ x.mi := by
 obtain ⟨T, f, hc, _⟩ := h.o
 obtain ⟨_, _, hp1, _⟩ := h.p.at'
 obtain ⟨_, _, hi1, _⟩ := h.i.at'
 exact ⟨(fun e => by rw [e, hp1] at hc; cases hc), (fun e => by rw [e, hi1] at hc; cases hc)⟩
theorem UnM.Ci {tr' ep' top' : Int} (h : UnM w r st x tr ep top pg ins) (he : Ext (fun k => k = r) w w') (ho : aq w' r [av st, .map (some x.mp), .map (some x.mi), .int .i64 tr', .int .i64 ep', .int .i64 top']) : UnM w' r st x tr' ep' top' pg ins := by
 obtain ⟨n1, n2⟩ := h.DM
 refine ⟨ho, h.p.ext he (fun hh => n1 hh.symm), h.i.ext he (fun hh => n2 hh.symm), h.ne, fun a => ⟨fun s hs => ?_, (h.pv a).2⟩, fun n => ?_, h.sep, h.ir, h.pb⟩
 ·obtain ⟨t, g1, g2, g3⟩ := (h.pv a).1 s hs
  exact ⟨t, g1, aZ g2 he (fun h0 k hk hh => (h.pb a s hs h0 k hk).1 hh), g3⟩
 ·refine (h.iv n).ext he (fun k hk hh => ?_)
  obtain ⟨s, e1, e2, e3⟩ := mT (x := x) hk
  exact h.ir n s e1 (hh ▸ e3)
def FP (tr : Int) : Rc -> Int
 | .trim t _ => t
 | _ => tr
def FQ (ep : Int) : Rc -> Int
 | .trim _ e => e
 | .shut e => e
 | _ => ep
def tellTop (top : Int) : Rc -> Int
 | .dO a _ => max top (a + 1)
 | _ => top
def uW (pg : Int -> Option (List UInt8)) : Rc -> Int -> Option (List UInt8)
 | .dO a t => ju pg a (some t)
 | _ => pg
def mc (ins : Int -> List Int) (seg : Int) : Rc -> Int -> List Int
 | .dO a _ => ju ins seg (ins seg ++ [(a : Int)])
 | _ => ins
theorem Dc (A : Nat -> Addr) {n0 : Nat} (h : UnM w r st x tr ep top pg ins) (seg : Int) (c : Rc) (hc : okR c) (s : Slc) (hb : au w s (encR c)) (hE : dL A n0 w) (hn0 : n0 <= w.heap.size) (hpg : ∀ a t, c = .dO a t -> pg (a : Int) = none) (htop : top <= 2 ^ 41) (hlen : (ins seg).length < 2 ^ 20) :
  Calls Tryz.prog ja ⟨[av r, .int .i64 seg, s.v]⟩ w fun e w' => e = .returned .nilIface /\ ∃ x', UnM w' r st x' (FP tr c) (FQ ep c) (tellTop top c) (uW pg c) (mc ins seg c) /\ HE r x x' (fun _ => False) w w' := by
 refine tu _ _ _ ?_
 unfold qv
 have hel := j9 hc
 have hsl := hb.1
 have lt := h.lt
 refine (Ew A s (encR c) w hb (by omega)).mono ?_
 rintro e w5 ⟨ri, F, rfl, hi, k5, hri, hF⟩
 have hR : RdK A n0 w w5 ri F (encR c) := ⟨hi, hri, by obtain ⟨_, h, _⟩ := hi; exact h.1.lt, hF, k5, hE, hn0, by omega⟩
 refine ⟨_, rfl, ?_⟩
 -- the end of the reading: nothing is left
 have fin : ∀ {w2 : World}, RdK A n0 w w2 ri F [] -> Calls Tryz.prog jd ⟨[.pointer (some ⟨ri, 0, none⟩)]⟩ w2 fun e w' => e = .returned .nilIface /\ w' = w2 := by
  intro w2 h2
  refine (Cg A n0 ri F _ w2 h2.i (h2.e.ae h2.k)).mono ?_
  rintro e w' ⟨rfl, rfl⟩
  exact ⟨rfl, rfl⟩
 cases c with
 | dO a t =>
  obtain ⟨v1, v2, v3⟩ := hc
  refine (rdNum (n := 1) (most := 3) hR (by omega) (by omega) (by omega)).mono ?_
  rintro e w8 ⟨rfl, h8, _⟩
  refine ⟨_, rfl, (rdNum (n := (a : Int)) (most := 1073741824) h8 (by omega) (by omega) (by omega)).mono ?_⟩
  rintro e w11 ⟨rfl, h11, _⟩
  refine ⟨_, rfl, fun t2 e2 w2 => t2 = t /\ RdK A n0 w w2 ri F [], af (fun _ => (HG (rest := []) (most := 2048) (by simpa using h11) (by omega) (by omega)).mono ?_) (fun hh => absurd rfl hh), ?_⟩
  ·rintro e w15 ⟨rfl, h15, _⟩
   exact ⟨t, rfl, rfl, h15⟩
  ·rintro t2 e2 w22 ⟨rfl, h22⟩
   intros
   refine (fin h22).mono ?_
   rintro e w33 ⟨rfl, rfl⟩
   refine ⟨_, rfl, trivial, aj (fun hh => by cases hh) (fun _ => af (fun _ => af (fun hh => by omega) (fun _ => af (fun hh => ?_) (fun _ => Ej (fun s38 w39 hb38 hc38 hf38 k39 => ?_)))) (fun hh => absurd rfl hh))⟩
   ·rw [hh] at v2; simp at v2
   ·have h39 := (h.ae h22.k).ae k39
    have hpga := hpg a t2 rfl
    have z22 := h22.k.size
    refine (yo h39 seg (a : Int) s38 t2 hb38 v3 (fun _ k hk hh => ?_) hpga (by omega) htop hlen).mono ?_
    ·have := hf38 k hk
     have := lt.1 k hh; omega
    ·rintro e w41 ⟨rfl, x', hU, hT1, hT2, hT3⟩
     have z39 := k39.size
     refine ⟨rfl, rfl, x', hU, Ext.trans (h22.k.trans k39) hT1 (fun _ h => h.elim) (fun _ h => .inl h), fun k hk => (hT2 k hk).imp (fun h => h) (fun h => by omega), fun k hk => ?_⟩
     rcases hT3 k hk with g | ⟨_, g⟩ | g
     ·exact .inl g
     ·have := hf38 k g; exact .inr (.inr (by omega))
     ·exact .inr (.inr (by omega))
 | trim to e0 =>
  obtain ⟨v1, v2⟩ := hc
  refine (rdNum (n := 2) (most := 3) hR (by omega) (by omega) (by omega)).mono ?_
  rintro e w8 ⟨rfl, h8, _⟩
  refine ⟨_, rfl, (rdNum (n := (to : Int)) (most := 1073741824) h8 (by omega) (by omega) (by omega)).mono ?_⟩
  rintro e w11 ⟨rfl, h11, _⟩
  refine ⟨_, rfl, fun t2 e2 w2 => e2 = (e0 : Int) /\ RdK A n0 w w2 ri F [], af (fun hh => absurd hh (by omega)) (fun _ => af (fun _ => (rdNum (rest := []) (n := (e0 : Int)) (most := 1073741824) (by simpa using h11) (by omega) (by omega) (by omega)).mono ?_) (fun hh => absurd rfl hh)), ?_⟩
  ·rintro e w15 ⟨rfl, h15, _⟩
   exact ⟨_, rfl, rfl, h15⟩
  ·rintro t2 e2 w22 ⟨rfl, h22⟩
   intros
   refine (fin h22).mono ?_
   rintro e w33 ⟨rfl, rfl⟩
   have h33 := h.ae h22.k
   obtain ⟨c1, c2⟩ := h33.o.bf 3 (by simp) (.int .i64 (to : Int))
   refine ⟨_, rfl, trivial, aj (fun hh => by cases hh) (fun _ => af (fun hh => absurd hh (by omega)) (fun _ => af (fun _ => af (fun hh => by omega) (fun _ => aa rfl ?_)) (fun hh => absurd rfl hh)))⟩
   rw [add_lit]
   refine ⟨c1, fun w44 hw44 => aa rfl ?_⟩
   obtain ⟨o44, e44, _⟩ := c2 w44 hw44
   have h44 := h33.Ci e44 o44
   obtain ⟨c3, c4⟩ := o44.bf 4 (by simp) (.int .i64 (e0 : Int))
   rw [add_lit]
   refine ⟨c3, fun w46 hw46 => ?_⟩
   obtain ⟨o46, e46, _⟩ := c4 w46 hw46
   refine ⟨rfl, x, h44.Ci e46 o46, ?_, fun k hk => .inl hk, fun k hk => .inl hk⟩
   exact (Ext.trans h22.k (e44.mono (fun j hj => Or.inl hj)) (fun _ h => h.elim) (fun _ h => .inl h)).trans e46 (fun _ h => h) (fun j hj => .inl (.inl hj))
 | shut e0 =>
  have v1 : e0 <= 2 ^ 30 := hc
  refine (rdNum (n := 3) (most := 3) hR (by omega) (by omega) (by omega)).mono ?_
  rintro e w8 ⟨rfl, h8, _⟩
  refine ⟨_, rfl, (rdNum (rest := []) (n := (e0 : Int)) (most := 1073741824) (by simpa using h8) (by omega) (by omega) (by omega)).mono ?_⟩
  rintro e w11 ⟨rfl, h11, _⟩
  refine ⟨_, rfl, fun t2 e2 w2 => e2 = (e0 : Int) /\ RdK A n0 w w2 ri F [], af (fun hh => absurd hh (by omega)) (fun _ => af (fun hh => absurd hh (by omega)) (fun _ => ⟨rfl, h11⟩)), ?_⟩
  rintro t2 e2 w22 ⟨rfl, h22⟩
  intros
  refine (fin h22).mono ?_
  rintro e w33 ⟨rfl, rfl⟩
  have h33 := h.ae h22.k
  obtain ⟨c3, c4⟩ := h33.o.bf 4 (by simp) (.int .i64 (e0 : Int))
  refine ⟨_, rfl, trivial, aj (fun hh => by cases hh) (fun _ => af (fun hh => absurd hh (by omega)) (fun _ => af (fun hh => absurd hh (by omega)) (fun _ => af (fun _ => aa rfl ?_) (fun hh => absurd rfl hh))))⟩
  rw [add_lit]
  refine ⟨c3, fun w46 hw46 => ?_⟩
  obtain ⟨o46, e46, _⟩ := c4 w46 hw46
  refine ⟨rfl, x, h33.Ci e46 o46, ?_, fun k hk => .inl hk, fun k hk => .inl hk⟩
  exact Ext.trans h22.k (e46.mono (fun j hj => Or.inl hj)) (fun _ h => h.elim) (fun _ h => .inl h)
end
end Go.D
namespace Go.D
open Go Go.Proofs
structure Dd (A : Nat -> Addr) (w0 w : World) (r : Nat) (s : Slc) (b : List UInt8) : Prop where
 o : AS A w r s (b, none)
 m : ∀ k, lC r s k -> w0.heap.size <= k
 k : ah w0 w
section
variable {A : Nat -> Addr} {n0 : Nat} {w0 w : World} {r : Nat} {s : Slc} {b : List UInt8}
theorem De {n : Int} (h : Dd A w0 w r s b) (hn : 0 <= n /\ n <= 2 ^ 40) (hb : b.length <= 2 ^ 19) (hE : dL A n0 w0) :
  Calls Tryz.prog cE ⟨[.pointer (some ⟨r, 0, none⟩), .int .i64 n]⟩ w fun e w' => e = .returned (.tuple #[]) /\ ∃ s', Dd A w0 w' r s' (b ++ pf n) /\ bJ (lC r s) (lC r s') w w' := by
 refine (FL A n0 r s (b, none) n w h.o (by omega) (by simp only; omega) (hE.ae h.k)).mono ?_
 rintro e w' ⟨rfl, s', g1, g2⟩
 have e1 : GZ n (b, none) = (b ++ pf n, none) := by unfold GZ pf; rw [if_neg (by omega)]
 rw [e1] at g1
 obtain ⟨g3, g4⟩ := g2.new h.k h.m
 exact ⟨rfl, s', ⟨g1, g4, g3⟩, g2⟩
end
theorem FR {A : Nat -> Addr} {n0 : Nat} {w0 w : World} {r : Nat} {s : Slc} {b : List UInt8} (h : Dd A w0 w r s b) (hb : b.length <= 65536) (hE : dL A n0 w0) :
  Calls Tryz.prog jH ⟨[.pointer (some ⟨r, 0, none⟩)]⟩ w fun e w' => ∃ t : Slc, e = .returned (.tuple ⟨[t.v, .nilIface]⟩) /\ Own w' t 1 (b.map aS) /\ aN w0 t /\ ah w0 w' /\ ah w w' := by
 refine uK _ ?_
 unfold rD
 have ho := h.o
 have hsl : s.l = b.length := by have := ho.2.1.1; simpa using this
 refine aa rfl ⟨_, by rw [add_lit]; exact ho.c1, aF A _, aj (fun hn => by cases hn) (fun hn => ?_)⟩
 refine aa rfl ⟨s, ho.c0, af (fun h1 => by omega) (fun h1 => ?_)⟩
 refine aa rfl ⟨s, ho.c0, ?_⟩
 refine (fO s b w ho.2.1.bytes (by omega)).mono ?_
 rintro e w' ⟨t, rfl, hb, hf, hk⟩
 exact ⟨t, rfl, t, rfl, hb, hf.mono h.k.size, h.k.trans hk, hk⟩
end Go.D
namespace Go.D
open Go Go.Proofs
section
variable {A : Nat -> Addr} {n0 : Nat} {w0 w : World} {r : Nat} {s : Slc} {b : List UInt8}
theorem G2 {t : List UInt8} (h : Dd A w0 w r s b) (ht : t.length <= 2 ^ 19) (hb : b.length <= 2 ^ 19) (hE : dL A n0 w0) :
  Calls Tryz.prog fg ⟨[.pointer (some ⟨r, 0, none⟩), dA t]⟩ w fun e w' => e = .returned (.tuple #[]) /\ ∃ s', Dd A w0 w' r s' (b ++ uh t) /\ bJ (lC r s) (lC r s') w w' := by
 refine (Ez A n0 r s (b, none) t w h.o (by simp only; omega) (by omega) (hE.ae h.k)).mono ?_
 rintro e w' ⟨rfl, s', g1, g2⟩
 have e1 : FK t (b, none) = (b ++ uh t, none) := by unfold FK uh; simp
 rw [e1] at g1
 obtain ⟨g3, g4⟩ := g2.new h.k h.m
 exact ⟨rfl, s', ⟨g1, g4, g3⟩, g2⟩
end
end Go.D
namespace Go.D
open Go
section
variable (N E C s0 : Nat) (z : List UInt8) (B : List aJ)
variable {N E C s0 z B}
end
end Go.D
namespace Go.D
open Go Go.Proofs
theorem G3 {w : World} {n0 r rd m : Nat} {u : StP} {q : cU} {d : aK} {L : List aJ} (h : Sys w n0 r rd u q d L m) : ∀ k, cJ r u rd q k -> n0 <= k := fun k hk => hk.elim (h.B.sn k) (h.B.dn k)
end Go.D
namespace Go.D
open Go Go.Proofs
def kindR : Rc -> Int
 | .dO _ _ => 1
 | .trim _ _ => 2
 | .shut _ => 3
def wa : Rc -> Int
 | .dO a _ => a
 | .trim t _ => t
 | .shut e => e
def H8 : Rc -> List UInt8
 | .dO _ t => t
 | _ => []
theorem ph {w : World} {n0 r st rd m : Nat} {u : StP} {q : cU} {d : aK} {L : List aJ} {x : UnP} {tr ep top : Int} {pg : Int -> Option (List UInt8)} {ins : Int -> List Int} (A : Nat -> Addr) (hS : Sys w n0 st rd u q d L m) (h : UnM w r st x tr ep top pg ins) (hE : dL A n0 w) (hm : m <= 2 ^ 60)
  (c : Rc) (hc : okR c) (hep : ∀ t e, c = .trim t e -> ep = (e : Int)) (s : Slc) (hb : (∃ a t, c = .dO a t) -> au w s (H8 c)) :
  Calls Tryz.prog dB ⟨[av r, .int .i64 (kindR c), .int .i64 (wa c), s.v]⟩ w fun e w' => ∃ (n : Int) (e' : Option Nat) (w1 : World), e = .returned (.tuple ⟨[.int .i64 n, cm A e']⟩) /\ ah w w1 /\ qX A w1 n0 st rd u q d L m (encR c) n e' w' := by
 refine rm _ _ _ _ ?_
 unfold nO
 have hel := j9 hc
 refine ao (fun r5 w6 hr5 hb5 k6 hs5 => ?_)
 have hO : Dd A w w6 r5 ⟨none, 0, 0⟩ [] := ⟨AS.new A hb5, fun k hk => by rw [FM hk]; omega, k6⟩
 have hk3 : 0 <= kindR c /\ kindR c <= 3 := by cases c <;> simp [kindR]
 have hn3 : 0 <= wa c /\ wa c <= 2 ^ 31 := by
  cases c with
  | dO a t => obtain ⟨v1, _⟩ := hc; simp only [wa]; omega
  | trim t e => obtain ⟨v1, _⟩ := hc; simp only [wa]; omega
  | shut e => have v1 : e <= 2 ^ 30 := hc; simp only [wa]; omega
 have hl1 := ou (kindR c) (by omega)
 have hl2 := ou (wa c) (by omega)
 refine (De hO (by omega) (by simp) hE).mono ?_
 rintro e w8 ⟨rfl, s8, h8, _⟩
 refine ⟨rfl, (De h8 (by omega) (by simp; omega) hE).mono ?_⟩
 rintro e w10 ⟨rfl, s10, h10, _⟩
 refine ⟨rfl, fun w2 => ∃ s2, Dd A w w2 r5 s2 (encR c), ?_, ?_⟩
 ·cases c with
  | dO a t =>
   obtain ⟨v1, v2, v3⟩ := hc
   refine af (fun _ => ⟨t, aG (hb ⟨a, t, rfl⟩) h10.k, (G2 h10 (by omega) (by simp [kindR, wa] at hl1 hl2 ⊢; omega) hE).mono ?_⟩) (fun hh => absurd rfl hh)
   rintro e w14 ⟨rfl, s14, h14, _⟩
   exact ⟨rfl, s14, by simpa [encR, kindR, wa] using h14⟩
  | trim t e0 =>
   obtain ⟨v1, v2⟩ := hc
   have he := hep t e0 rfl
   subst he
   refine af (fun hh => absurd hh (by simp [kindR])) (fun _ => af (fun _ => aa rfl ⟨_, (h.ae h10.k).c.2.2.2.2.1, (De h10 (by omega) (by simp [kindR, wa] at hl1 hl2 ⊢; omega) hE).mono ?_⟩) (fun hh => absurd rfl hh))
   rintro e w18 ⟨rfl, s18, h18, _⟩
   exact ⟨rfl, s18, by simpa [encR, kindR, wa] using h18⟩
  | shut e0 =>
   refine af (fun hh => absurd hh (by simp [kindR])) (fun _ => af (fun hh => absurd hh (by simp [kindR])) (fun _ => ⟨s10, by simpa [encR, kindR, wa] using h10⟩))
 ·rintro w19 ⟨s19, h19⟩
  intros
  refine (FR h19 (by omega) hE).mono ?_
  rintro e w36 ⟨t, rfl, ht, htf, k36, _⟩
  have hS36 := hS.ae k36
  refine ⟨t, _, rfl, trivial, aj (fun hh => by cases hh) (fun _ => aa rfl ⟨_, (h.ae k36).c.1, ?_⟩)⟩
  refine Calls.mono (R := fun e w' => ∃ n e', e = .returned (.tuple ⟨[.int .i64 n, cm A e']⟩) /\ qX A w36 n0 st rd u q d L m (encR c) n e' w') (qq _ _ (B4 hS36 ((hE.ae k36).g.sub tZ) hm ht.bytes (ht.le (by omega)) (by omega) (fun _ k hk hh => ?_) (fun n e' w' hp => ⟨n, e', rfl, hp⟩))) ?_
  ·have := htf k hk
   have := hS.B.lt k hh
   omega
  ·rintro e w42 ⟨n, e', rfl, hp⟩
   exact ⟨n, _, rfl, n, e', w36, rfl, k36, hp⟩
end Go.D
namespace Go.D
open Go
structure UV where
 tr : Int
 ep : Int
 top : Int
 pg : Int -> Option (List UInt8)
 ins : Int -> List Int
def kW (v : UV) (x : Int × Rc) : UV := ⟨FP v.tr x.2, FQ v.ep x.2, tellTop v.top x.2, uW v.pg x.2, mc v.ins x.1 x.2⟩
def pP : UV := ⟨0, 0, 0, fun _ => none, fun _ => []⟩
def bR (Q : List (Int × Rc)) : UV := Q.foldl kW pP
theorem iL (Q : List (Int × Rc)) (x : Int × Rc) : bR (Q ++ [x]) = kW (bR Q) x := by simp [bR]
theorem Cj {R : List Rc} {y : Nat × List UInt8} : y ∈ pagesOf R ↔ Rc.dO y.1 y.2 ∈ R := by
 induction R with
 | nil => simp [pagesOf]
 | cons c R ih => cases c <;> simp [pagesOf, ih, Prod.ext_iff]
theorem ov {P : List (Int × Rc) -> Prop} (h0 : P []) (hs : ∀ Q x, P Q -> P (Q ++ [x])) : ∀ Q, P Q := by
 intro Q
 have key : ∀ n, P (Q.take n) := by
  intro n
  induction n with
  | zero => simpa using h0
  | succ n ih =>
   by_cases hn : n < Q.length
   ·rw [List.take_succ_eq_append_getElem hn]; exact hs _ _ ih
   ·rw [List.take_of_length_le (by omega)]
    rwa [List.take_of_length_le (by omega)] at ih
 have := key Q.length
 rwa [List.take_length] at this
theorem FU (Q : List (Int × Rc)) : ∀ a : Int, (∀ y ∈ pagesOf (Q.map (·.2)), (y.1 : Int) ≠ a) -> (bR Q).pg a = none := by
 refine ov (P := fun Q => ∀ a : Int, (∀ y ∈ pagesOf (Q.map (·.2)), (y.1 : Int) ≠ a) -> (bR Q).pg a = none) (fun a _ => rfl) (fun Q x ih a h => ?_) Q
 rw [iL]
 rw [List.map_append, aR] at h
 have ih' := ih a (fun y hy => h y (by simp [hy]))
 obtain ⟨seg, c⟩ := x
 cases c with
 | dO b t =>
  have hb := h (b, t) (by simp [pagesOf])
  simp only [kW, uW, ju]
  rw [if_neg (fun e => hb e.symm)]
  exact ih'
 | trim t e => exact ih'
 | shut e => exact ih'
theorem Ab (Q : List (Int × Rc)) (hq : ∀ x ∈ Q, okR x.2) : 0 <= (bR Q).top /\ (bR Q).top <= 4096 := by
 refine ov (P := fun Q => (∀ x ∈ Q, okR x.2) -> 0 <= (bR Q).top /\ (bR Q).top <= 4096) (fun _ => by simp [bR, pP]) (fun Q x ih h => ?_) Q hq
 rw [iL]
 have ih' := ih (fun y hy => h y (by simp [hy]))
 have hx := h x (by simp)
 obtain ⟨seg, c⟩ := x
 cases c with
 | dO b t =>
  obtain ⟨v1, _⟩ := hx
  simp only [kW, tellTop]
  omega
 | trim t e => exact ih'
 | shut e => exact ih'
end Go.D
namespace Go.D
open Go Go.Proofs
def qs1 (g : aO) : List (Int × Rc) := g.rs.map fun c => ((g.num : Int), c)
def qsU (U : List aO) : List (Int × Rc) := U.flatMap qs1
theorem pj (U : List aO) : (qsU U).map (·.2) = fo U := by
 induction U with
 | nil => rfl
 | cons g U ih =>
  simp only [qsU, fo, List.flatMap_cons, List.map_append] at ih ⊢
  rw [ih]
  congr 1
  unfold qs1
  rw [List.map_map]
  exact List.map_id _
theorem FV (U : List aO) (j : Nat) (hj : j < U.length) : qsU (U.take (j + 1)) = qsU (U.take j) ++ qs1 U[j] := by
 unfold qsU
 rw [List.take_succ_eq_append_getElem hj, List.flatMap_append, List.flatMap_cons, List.flatMap_nil, List.append_nil]
theorem EA (U : List aO) (j n : Nat) (hj : j < U.length) (hn : n < U[j].rs.length) : ∃ R, qsU U = (qsU (U.take j) ++ (qs1 U[j]).take n) ++ (((U[j].num : Int), U[j].rs[n]) :: R) := by
 have e : U = U.take j ++ (U[j] :: U.drop (j + 1)) := by
  rw [<- List.drop_eq_getElem_cons hj, List.take_append_drop]
 have hq : n < (qs1 U[j]).length := by simpa [qs1] using hn
 have e2 : qs1 U[j] = (qs1 U[j]).take n ++ ((qs1 U[j])[n] :: (qs1 U[j]).drop (n + 1)) := by
  rw [<- List.drop_eq_getElem_cons hq, List.take_append_drop]
 have e3 : (qs1 U[j])[n] = ((U[j].num : Int), U[j].rs[n]) := by simp [qs1]
 refine ⟨(qs1 U[j]).drop (n + 1) ++ qsU (U.drop (j + 1)), ?_⟩
 have h1 : qsU U = qsU (U.take j) ++ (qs1 U[j] ++ qsU (U.drop (j + 1))) := by
  conv => lhs; rw [e]
  unfold qsU
  rw [List.flatMap_append, List.flatMap_cons]
 rw [h1]
 conv => lhs; rw [e2]
 rw [e3]
 simp
theorem FX {Q R : List (Int × Rc)} {seg : Int} {a : Nat} {t : List UInt8} (hn : ((pagesOf ((Q ++ ((seg, Rc.dO a t) :: R)).map (·.2))).map (·.1)).Nodup) : (bR Q).pg (a : Int) = none := by
 refine FU Q _ (fun y hy e => ?_)
 rw [List.map_append, aR, List.map_append] at hn
 have h1 := (List.nodup_append.1 hn).2.2 y.1 (List.mem_map.2 ⟨y, hy, rfl⟩) a (by simp [pagesOf])
 omega
end Go.D
namespace Go.D
open Go
def pgM (U : List aO) (tr : Nat) (a : Int) : Option (List UInt8) := if a < (tr : Int) then none else cQ (pgU U) a.toNat
def jw (U : List aO) (n : Int) : List Int := (pagesOf (((qsU U).filter fun x => decide (x.1 = n)).map (·.2))).map fun y => (y.1 : Int)
theorem FZ (Q : List (Int × Rc)) : (bR Q).tr = ((AR (Q.map (·.2))).1 : Int) /\ (bR Q).ep = ((AR (Q.map (·.2))).2 : Int) := by
 refine ov (P := fun Q => (bR Q).tr = ((AR (Q.map (·.2))).1 : Int) /\ (bR Q).ep = ((AR (Q.map (·.2))).2 : Int)) (by simp [bR, pP, AR]) (fun Q x ih => ?_) Q
 obtain ⟨seg, c⟩ := x
 rw [iL, List.map_append, List.map_cons, List.map_nil, uV]
 cases c with
 | dO b t => exact ih
 | trim t e => exact ⟨rfl, rfl⟩
 | shut e => exact ⟨ih.1, rfl⟩
theorem Ck (Q : List (Int × Rc)) : (bR Q).top = ((ef (pagesOf (Q.map (·.2)))) : Int) := by
 refine ov (P := fun Q => (bR Q).top = ((ef (pagesOf (Q.map (·.2)))) : Int)) (by simp [bR, pP, ef, pagesOf]) (fun Q x ih => ?_) Q
 obtain ⟨seg, c⟩ := x
 rw [iL, List.map_append, List.map_cons, List.map_nil, aR]
 cases c with
 | dO b t =>
  simp only [kW, tellTop, pagesOf]
  rw [C9, ih]; omega
 | trim t e => simpa [kW, tellTop, pagesOf] using ih
 | shut e => simpa [kW, tellTop, pagesOf] using ih
theorem Df (Q : List (Int × Rc)) (hn : ((pagesOf (Q.map (·.2))).map (·.1)).Nodup) (a : Nat) : (bR Q).pg (a : Int) = cQ (pagesOf (Q.map (·.2))) a := by
 revert hn
 refine ov (P := fun Q => ((pagesOf (Q.map (·.2))).map (·.1)).Nodup -> (bR Q).pg (a : Int) = cQ (pagesOf (Q.map (·.2))) a) (fun _ => by simp [bR, pP, cQ, pagesOf]) (fun Q x ih hn => ?_) Q
 obtain ⟨seg, c⟩ := x
 rw [List.map_append, List.map_cons, List.map_nil, aR] at hn ⊢
 rw [iL]
 have hq : ((pagesOf (Q.map (·.2))).map (·.1)).Nodup := by rw [List.map_append] at hn; exact (List.nodup_append.1 hn).1
 have ih' := ih hq
 cases c with
 | dO b t =>
  simp only [kW, uW, pagesOf, ju]
  rw [mS]
  by_cases e : (a : Int) = (b : Int)
  ·have e2 : b = a := by omega
   subst e2
   rw [if_pos rfl]
   have : cQ (pagesOf (Q.map (·.2))) b = none := vy.2 (fun y hy e => by
    rw [List.map_append] at hn
    exact (List.nodup_append.1 hn).2.2 y.1 (List.mem_map.2 ⟨y, hy, rfl⟩) b (by simp [pagesOf]) e)
   rw [this]; simp
  ·rw [if_neg e, ih']
   cases cQ (pagesOf (Q.map (·.2))) a with
   | some y => rfl
   | none => simp only; rw [if_neg (by omega)]
 | trim t e => simpa [kW, uW, pagesOf] using ih'
 | shut e => simpa [kW, uW, pagesOf] using ih'
theorem vH (Q : List (Int × Rc)) (n : Int) : (bR Q).ins n = (pagesOf ((Q.filter fun x => decide (x.1 = n)).map (·.2))).map fun y => (y.1 : Int) := by
 refine ov (P := fun Q => (bR Q).ins n = (pagesOf ((Q.filter fun x => decide (x.1 = n)).map (·.2))).map fun y => (y.1 : Int)) (by simp [bR, pP, pagesOf]) (fun Q x ih => ?_) Q
 obtain ⟨seg, c⟩ := x
 rw [iL, List.filter_append, List.map_append, aR, List.map_append, <- ih]
 by_cases e : seg = n
 ·subst e
  cases c with
  | dO b t => simp [kW, mc, ju, pagesOf]
  | trim t e => simp [kW, mc, pagesOf]
  | shut e => simp [kW, mc, pagesOf]
 ·have e' : ¬ n = seg := fun h => e h.symm
  cases c with
  | dO b t => simp [kW, mc, ju, pagesOf, e, e']
  | trim t e1 => simp [kW, mc, pagesOf, e]
  | shut e1 => simp [kW, mc, pagesOf, e]
theorem Dg {U : List aO} {tr ep T : Nat} (h : gb U tr ep T) : (bR (qsU U)).tr = (tr : Int) /\ (bR (qsU U)).ep = (ep : Int) /\ max (bR (qsU U)).top (tr : Int) = (T : Int) /\ yq (tr : Int) (bR (qsU U)).pg = pgM U tr /\ (bR (qsU U)).ins = jw U := by
 have h1 := FZ (qsU U)
 have h2 := Ck (qsU U)
 have hte := h.te
 have htl := h.tl
 rw [pj] at h1 h2
 rw [hte] at h1
 refine ⟨h1.1, h1.2, ?_, ?_, funext fun n => vH _ n⟩
 ·rw [h2]; show max ((ef (pgU U) : Nat) : Int) (tr : Int) = T
  omega
 ·funext a
  unfold yq pgM
  split
  ·rfl
  ·rename_i ha
   obtain ⟨b, rfl⟩ : ∃ b : Nat, a = b := ⟨a.toNat, by omega⟩
   rw [Df _ (by rw [pj]; exact h.nd), pj]; rfl
theorem jN (U V : List aO) : qsU (U ++ V) = qsU U ++ qsU V := by simp [qsU]
theorem q7 (g : aO) : qsU [g] = qs1 g := by simp [qsU]
theorem G4 (M : List aO) (g : aO) (x : Rc) : qsU (M ++ [{ g with rs := g.rs ++ [x] }]) = qsU (M ++ [g]) ++ [((g.num : Int), x)] := by
 rw [jN, jN, q7, q7, List.append_assoc]
 simp [qs1]
theorem DN {U V : List aO} {n : Int} {x : Rc} (h : qsU V = qsU U ++ [(n, x)]) : jw V = mc (jw U) n x := by
 funext k
 have e0 : jw V k = jw U k ++ (pagesOf (([(n, x)].filter fun x => decide (x.1 = k)).map (·.2))).map fun y => (y.1 : Int) := by
  unfold jw
  rw [h, List.filter_append, List.map_append, aR, List.map_append]
 rw [e0]
 by_cases e : k = n
 ·subst e
  cases x <;> simp [mc, ju, pagesOf]
 ·have e' : ¬ n = k := fun h => e h.symm
  cases x <;> simp [mc, ju, pagesOf, e, e']
theorem filter_none {g : aO} {n : Int} (h : (g.num : Int) ≠ n) : (qs1 g).filter (fun x => decide (x.1 = n)) = [] := by
 rw [List.filter_eq_nil_iff]
 intro x hx
 obtain ⟨c, _, rfl⟩ := List.mem_map.1 hx
 simpa using h
theorem filter_all (g : aO) : (qs1 g).filter (fun x => decide (x.1 = (g.num : Int))) = qs1 g := by
 rw [List.filter_eq_self]
 intro x hx
 obtain ⟨c, _, rfl⟩ := List.mem_map.1 hx
 simp
theorem uu {U : List aO} {n : Int} (h : ∀ g ∈ U, (g.num : Int) ≠ n) : (qsU U).filter (fun x => decide (x.1 = n)) = [] := by
 induction U with
 | nil => rfl
 | cons g U ih =>
  rw [show g :: U = [g] ++ U from rfl, jN, q7, List.filter_append, filter_none (h g (by simp)), ih (fun g' hg' => h g' (by simp [hg']))]; rfl
theorem EB {g : aO} {U : List aO} (h : ∀ g' ∈ U, g'.num ≠ g.num) : jw (g :: U) (g.num : Int) = (pagesOf g.rs).map fun y => (y.1 : Int) := by
 unfold jw
 rw [show g :: U = [g] ++ U from rfl, jN, q7, List.filter_append, filter_all, uu (fun g' hg' e => h g' hg' (by omega)), List.append_nil]
 congr 2
 unfold qs1
 rw [List.map_map]
 exact List.map_id _
theorem EC {g : aO} {U : List aO} (h : ∀ g' ∈ U, g'.num ≠ g.num) : jw U = ju (jw (g :: U)) (g.num : Int) [] := by
 funext k
 unfold ju
 by_cases e : k = (g.num : Int)
 ·rw [if_pos e]
  unfold jw
  rw [e, uu (fun g' hg' e => h g' hg' (by omega))]; rfl
 ·rw [if_neg e]
  unfold jw
  rw [show g :: U = [g] ++ U from rfl, jN, q7, List.filter_append, filter_none (fun h => e h.symm), List.nil_append]
theorem F0 (U : List aO) (n : Int) : (jw U n).length <= (pgU U).length := by
 unfold jw pgU
 rw [<- pj, List.length_map]
 have key : ∀ Q : List (Int × Rc), (pagesOf ((Q.filter fun x => decide (x.1 = n)).map (·.2))).length <= (pagesOf (Q.map (·.2))).length := by
  intro Q
  induction Q with
  | nil => simp
  | cons x Q ih =>
   obtain ⟨s, c⟩ := x
   by_cases e : s = n
   ·rw [List.filter_cons_of_pos (by simpa using e)]
    cases c <;> simp only [List.map_cons, pagesOf, List.length_cons] <;> omega
   ·rw [List.filter_cons_of_neg (by simpa using e)]
    cases c <;> simp only [List.map_cons, pagesOf, List.length_cons] <;> omega
 exact key _
def appU (k : Nat) (U : List aO) (x : Rc) : Option (Nat × List aO) :=
 if jn (sU U) (encR x).length then (if h : U ≠ [] then some ((U.getLast h).num, U.dropLast ++ [{ U.getLast h with rs := (U.getLast h).rs ++ [x] }]) else none)
 else match gz k (sU U) with
  | none => none
  | some p => some (cd (sU U), U ++ [⟨p, cd (sU U), [x]⟩])
def rH (k : Nat) (U : List aO) (n : Nat) : List aO :=
 if jn (sU U) n then U else match gz k (sU U) with
  | none => U
  | some p => U ++ [⟨p, cd (sU U), []⟩]
theorem AW {U : List aO} {n : Nat} (h : jn (sU U) n = true) : U ≠ [] := fun e => by subst e; simp [jn] at h
theorem DO {k : Nat} {U : List aO} {x : Rc} (h : okR x) : j8 k (sU U) (encR x) = match appU k U x with | none => (some 12, 0, sU U) | some (n, V) => (none, (n : Int), sU V) := by
 have hl := j9 h
 have hap : j8 k (sU U) (encR x) = match jB k (sU U) (encR x).length with | none => (some 12, 0, sU U) | some L0 => (none, lastN L0, addRec L0 (encR x)) := by
  unfold j8; rw [if_neg (by omega)]; try rfl
 rw [hap]
 unfold appU jB
 by_cases hf : jn (sU U) (encR x).length = true
 ·have hne := AW hf
  rw [if_pos hf, if_pos hf, dif_pos hne]
  have e : U.dropLast ++ [U.getLast hne] = U := List.dropLast_concat_getLast hne
  have e1 : sU U = sU U.dropLast ++ [(U.getLast hne).s] := by rw [show sU U = sU (U.dropLast ++ [U.getLast hne]) by rw [e]]; simp
  have e2 : sU (U.dropLast ++ [{ U.getLast hne with rs := (U.getLast hne).rs ++ [x] }]) = sU U.dropLast ++ [{ (U.getLast hne).s with bP := (U.getLast hne).s.bP ++ [encR x] }] := by simp [aO.s]
  simp only
  rw [e1, l9, j7, e2]; rfl
 ·rw [if_neg hf, if_neg hf]
  cases hp : gz k (sU U) with
  | none => rfl
  | some p =>
   simp only [Option.map_some]
   unfold pO
   rw [l9, j7]
   simp [aO.s]
theorem gk {k : Nat} {U V : List aO} {x : Rc} {n : Nat} (h : appU k U x = some (n, V)) : qsU V = qsU U ++ [((n : Int), x)] /\ (V.getLast?.map (·.num)) = some n /\ (∃ M g, V = M ++ [{ g with rs := g.rs ++ [x] }] /\ (M ++ [g] = U \/ ∃ p, gz k (sU U) = some p /\ M = U /\ g = ⟨p, cd (sU U), []⟩)) := by
 unfold appU at h
 by_cases hf : jn (sU U) (encR x).length = true
 ·have hne := AW hf
  rw [if_pos hf, dif_pos hne] at h
  cases h
  have e : U.dropLast ++ [U.getLast hne] = U := List.dropLast_concat_getLast hne
  refine ⟨?_, by simp, U.dropLast, U.getLast hne, rfl, .inl e⟩
  rw [G4, e]
 ·rw [if_neg hf] at h
  cases hp : gz k (sU U) with
  | none => rw [hp] at h; cases h
  | some p =>
   rw [hp] at h
   cases h
   refine ⟨?_, by simp, U, ⟨p, cd (sU U), []⟩, by simp, .inr ⟨p, hp.symm ▸ rfl, rfl, rfl⟩⟩
   rw [jN, q7]; simp [qs1]
theorem q8 {U V : List aO} {n : Int} {x : Rc} (h : qsU V = qsU U ++ [(n, x)]) : fo V = fo U ++ [x] := by
 rw [<- pj, h, List.map_append, pj]; rfl
theorem F1 {k : Nat} {U V : List aO} {x : Rc} {n : Nat} (h : appU k U x = some (n, V)) (hU : okU U) (hx : okR x) : okU V := by
 obtain ⟨_, _, M, g, rfl, hM⟩ := gk h
 refine DL ?_ hx
 rcases hM with rfl | ⟨p, _, rfl, rfl⟩
 ·exact hU
 ·intro y hy z hz
  rcases List.mem_append.1 hy with hy | hy
  ·exact hU y hy z hz
  ·rw [List.mem_singleton] at hy; subst hy; simp at hz
end Go.D
namespace Go.D
open Go Go.Proofs
structure UnS where
 U : List aO
 tr : Nat
 ep : Nat
 T : Nat
structure UnF where
 st : Nat
 x : UnP
 u : StP
 q : cU
 top : Int
def UB (r rd : Nat) (f : UnF) (k : Nat) : Prop := UnW r f.x k \/ cJ f.st f.u rd f.q k
structure UAt (w : World) (n0 r rd : Nat) (f : UnF) (d : aK) (s : UnS) (m : Nat) : Prop where
 S : Sys w n0 f.st rd f.u f.q d (sU s.U) m
 M : UnM w r f.st f.x s.tr s.ep f.top (pgM s.U s.tr) (jw s.U)
 O : gb s.U s.tr s.ep s.T
 t : 0 <= f.top /\ max f.top (s.tr : Int) = s.T
 T : s.T <= 4096 /\ s.ep <= 2 ^ 30
 sep : ∀ k, UnW r f.x k -> ¬ cJ f.st f.u rd f.q k
 uv : ∀ k, UnY f.x k -> ¬ UB r rd f k
 n : ∀ k, UnW r f.x k -> n0 <= k
section
variable {w w' : World} {n0 r rd m : Nat} {f : UnF} {d : aK} {s : UnS}
theorem UAt.ext {M : Nat -> Prop} (h : UAt w n0 r rd f d s m) (he : Ext M w w') (h1 : ∀ k, UB r rd f k -> ¬ M k) (h2 : ∀ k, UnY f.x k -> ¬ M k) : UAt w' n0 r rd f d s m :=
 ⟨h.S.ext he (fun k hk => h1 k (.inr hk)), h.M.ext he (fun k hk => h1 k (.inl hk)) h2, h.O, h.t, h.T, h.sep, h.uv, h.n⟩
theorem UAt.ae (h : UAt w n0 r rd f d s m) (he : ah w w') : UAt w' n0 r rd f d s m := h.ext he (fun _ _ h => h) (fun _ _ h => h)
theorem UAt.lt (h : UAt w n0 r rd f d s m) : (∀ k, UB r rd f k -> k < w.heap.size) /\ ∀ k, UnY f.x k -> k < w.heap.size :=
 ⟨fun k hk => hk.elim (h.M.lt.1 k) (h.S.B.lt k), h.M.lt.2⟩
theorem UAt.ge (h : UAt w n0 r rd f d s m) : ∀ k, UB r rd f k -> n0 <= k := fun k hk => hk.elim (h.n k) (G3 h.S k)
theorem UAt.up (h : UAt w n0 r rd f d s m) {m' : Nat} (hm : m <= m') : UAt w n0 r rd f d s m' := ⟨h.S.up hm, h.M, h.O, h.t, h.T, h.sep, h.uv, h.n⟩
end
theorem mU {R : Nat -> Nat -> Prop} {U : List aO} (h : (sU U).Pairwise fun g h => R g.num h.num) : U.Pairwise fun g h => R g.num h.num := by
 rw [List.pairwise_map] at h
 exact h
theorem Cl {U : List aO} (h : U.Pairwise fun g h => g.num < h.num) {g : aO} (hg : g ∈ U) : uR (g.num : Int) (sU U) = g.rs.map encR := by
 unfold uR
 rcases pc (fun x => decide ((x.num : Int) = (g.num : Int))) (sU U) with ⟨_, h2, _⟩ | ⟨i, hi, _, h2, h3, _⟩
 ·have := h2 g.s (List.mem_map.2 ⟨g, hg, rfl⟩)
  simp [aO.s] at this
 ·rw [h3]
  obtain ⟨j, hj, rfl⟩ := List.getElem_of_mem hg
  have hi' : i < U.length := by simpa using hi
  have e1 : (sU U)[i] = U[i].s := List.getElem_map _
  rw [e1] at h2 ⊢
  have h4 : (U[i].num : Int) = (U[j].num : Int) := of_decide_eq_true h2
  have hp := List.pairwise_iff_getElem.1 h
  rcases Nat.lt_trichotomy i j with h5 | h5 | h5
  ·have := hp i j hi' hj h5; omega
  ·subst h5; rfl
  ·have := hp j i hj hi' h5; omega
theorem vI {S : Nat -> List UInt8} {k : Nat} {L : List aJ} (h : cI S k L) : ∀ g ∈ L, g.bP.length <= 2 ^ 20 /\ ∀ b ∈ g.bP, b.length <= 2 ^ 20 := by
 intro g hg
 have hon := h.on g hg
 have hf := hon.fin
 have h1 := wv g.bP
 unfold aJ.fin at hf
 exact ⟨by omega, fun b hb => by have := (tV hon.2 b hb).2; omega⟩
theorem Dh {l : List Nat} (hn : l.Nodup) (hl : ∀ x ∈ l, x < 4096) : l.length <= 4096 := by
 have := yp hn (b := List.range 4096) (fun x hx => List.mem_range.2 (hl x hx))
 rwa [List.length_range] at this
theorem F2 {R : List Rc} (h : ∀ x ∈ R, okR x) : ∀ y ∈ pagesOf R, y.1 < 4096 /\ 1 <= y.2.length /\ y.2.length <= 2048 := fun y hy => h _ (Cj.1 hy)
theorem gb.Hj {U : List aO} {tr ep T : Nat} (h : gb U tr ep T) : ∀ y ∈ pgU U, y.1 < 4096 /\ 1 <= y.2.length /\ y.2.length <= 2048 :=
 F2 (fun x hx => by
  obtain ⟨g, hg, hx⟩ := List.mem_flatMap.1 hx
  exact h.ok g hg x hx)
theorem gb.few {U : List aO} {tr ep T : Nat} (h : gb U tr ep T) : (pgU U).length <= 4096 := by
 have := Dh h.nd (fun x hx => by
  obtain ⟨y, hy, rfl⟩ := List.mem_map.1 hx
  exact (h.Hj y hy).1)
 rwa [List.length_map] at this
theorem gb.AX {U : List aO} {tr ep T : Nat} (h : gb U tr ep T) (n : Int) : (jw U n).length <= 4096 := Nat.le_trans (F0 U n) h.few
theorem Di {w1 : World} {n0 rd m : Nat} {q : cU} {d : aK} {U : List aO} {tr ep T : Nat} (A : Nat -> Addr) (hE : dL A n0 w1) (hD : aP w1 rd q d) (hp : d.aI = []) (hI : cI (aW d.img) (d.n / 64) (sU U)) (hO : gb U tr ep T) (hT : T <= 4096 /\ ep <= 2 ^ 30)
  (hk : 1 <= d.n / 64 /\ d.n / 64 < 20) (hN : ∀ g ∈ sU U, g.num < m) (hm : m <= 2 ^ 60) (hdn : ∀ k, bp rd q k -> n0 <= k) (hz : n0 <= w1.heap.size) :
  Calls Tryz.prog kX ⟨[av rd]⟩ w1 fun e w2 => ∃ (r : Nat) (f : UnF), e = .returned (.tuple ⟨[av r, .nilIface]⟩) /\ UAt w2 n0 r rd f d ⟨U, tr, ep, T⟩ m /\ f.q = q /\ (∀ k, UB r rd f k -> bp rd q k \/ w1.heap.size <= k) /\ (∀ k, UnY f.x k -> w1.heap.size <= k) /\ ah w1 w2 := by
 refine AE _ ?_
 unfold zQ
 refine (Eu A (hE.g.sub tZ) hD hp hI hk hN hm hdn hz).mono ?_
 rintro e w3 ⟨st, u, rfl, hS, hfr, k3⟩
 refine ⟨_, _, rfl, trivial, aj (fun h => by cases h) (fun _ => ao (fun r6 w7 hr6 hb6 k7 hs7 => ao (fun r8 w9 hr8 hb8 k9 hs9 => ao (fun r10 w11 hr10 hb10 k11 hs11 => ?_))))⟩
 have p6 : iI KS w11 r6 [] := ((iI.new hb6).ae k9).ae k11
 have p8 : iI KS w11 r8 [] := (iI.new hb8).ae k11
 have k311 : ah w3 w11 := (k7.trans k9).trans k11
 have hUL := hS.len
 have hULe : (sU U).length = U.length := by simp
 have z3 := k3.size
 have U0 : UnM w11 r10 st ⟨r6, r8, [], []⟩ pP.tr pP.ep pP.top pP.pg pP.ins := by
  refine ⟨aq.new hb10 (Ax _), p6, p8, by show r6 ≠ r8; omega, fun a => ⟨fun s hs => by simp [lookL] at hs, fun _ => rfl⟩, fun n => by simpa [lookL, pP] using aB.nil w11, fun n m s t hs => by simp [lookL] at hs, fun n s hs => by simp [lookL] at hs, fun a s hs => by simp [lookL] at hs⟩
 have hnd := hO.nd
 have hso := mU (R := fun a b => a < b) hI.so
 refine (qH (hS.ae k311).B.S (by omega)).mono ?_
 rintro e w13 ⟨s14, rfl, hI14, hf14, k13⟩
 have W0 : ∀ k, UnW r10 ⟨r6, r8, [], []⟩ k -> w3.heap.size <= k /\ k < w11.heap.size := by
  rintro k (hk | hk | hk | ⟨n, s, hs, _⟩)
  ·omega
  ·have hk' : k = r6 := hk; omega
  ·have hk' : k = r8 := hk; omega
  ·simp [lookL] at hs
 have hl14 : s14.l = U.length := by
  have := Rows.sl hI14
  simpa using this
 have hid : ∀ w2, ah w3 w2 -> dL A n0 w2 := fun w2 hk2 => (hE.ae k3).ae hk2
 have n3 : n0 <= w3.heap.size := by omega
 refine ⟨s14, rfl, fun i w2 => ∃ (j : Nat) (x : UnP), i = j /\ j <= U.length /\ UnM w2 r10 st x (bR (qsU (U.take j))).tr (bR (qsU (U.take j))).ep (bR (qsU (U.take j))).top (bR (qsU (U.take j))).pg (bR (qsU (U.take j))).ins /\
   ah w3 w2 /\ (∀ k, UnW r10 x k -> w3.heap.size <= k /\ ¬ ai s14 k) /\ (∀ k, UnY x k -> w3.heap.size <= k) /\ aB w2 s14 ((sU U).map fun g => (g.num : Int)), fun i _ => ((U.length : Int) - i).toNat,
  ⟨0, _, rfl, by omega, by simpa [qsU, bR] using U0.ae k13, k311.trans k13, fun k hk => ⟨(W0 k hk).1, fun hh => by have := hf14 k hh; have := (W0 k hk).2; omega⟩, (by rintro k ⟨a, s, hs, _⟩; simp [lookL] at hs), hI14⟩, ?_⟩
 rintro i w18 ⟨j, x, rfl, hj, hU, hk18, hW, hY, hI18⟩
 intros
 have z18 := hk18.size
 refine af (fun h0 => ?_) (fun h0 => ?_)
 ·have hjl : j < U.length := by omega
  obtain ⟨a44, ha44, hc44⟩ := hI18.get (i := j) (by simpa using hjl)
  have hnum : (((sU U).map fun g => (g.num : Int))[j]'(by simpa using hjl)) = (U[j].num : Int) := by simp [aO.s]
  rw [hnum] at hc44
  refine aa ha44 ⟨by omega, h0, _, by rw [Int.toNat_natCast]; exact hc44, (zk (hS.ae hk18).B.S (U[j].num : Int) (by omega) (vI hI)).mono ?_⟩
  rintro e w47 ⟨s48, css, rfl, hR47, k47, hf48, hfc⟩
  rw [Cl hso (List.getElem_mem hjl)] at hR47
  have hl48 : s48.l = U[j].rs.length := by
   have := hR47.sl
   simpa using this
  have ltU := hU.lt
  have hfew : U[j].rs.length <= 2 ^ 20 := by
   have := (vI hI U[j].s (List.mem_map.2 ⟨_, List.getElem_mem hjl, rfl⟩)).1
   simpa [aO.s] using this
  refine ⟨s48, rfl, fun i w2 => ∃ (n : Nat) (x : UnP), i = n /\ n <= U[j].rs.length /\ UnM w2 r10 st x (bR (qsU (U.take j) ++ (qs1 U[j]).take n)).tr (bR (qsU (U.take j) ++ (qs1 U[j]).take n)).ep (bR (qsU (U.take j) ++ (qs1 U[j]).take n)).top (bR (qsU (U.take j) ++ (qs1 U[j]).take n)).pg (bR (qsU (U.take j) ++ (qs1 U[j]).take n)).ins /\
   ah w3 w2 /\ (∀ k, UnW r10 x k -> w3.heap.size <= k /\ ¬ ai s14 k /\ ¬ ai s48 k /\ ¬ dK css k) /\ (∀ k, UnY x k -> w3.heap.size <= k) /\ aB w2 s14 ((sU U).map fun g => (g.num : Int)) /\ Rows pY w2 s48 (U[j].rs.map encR) css, fun i _ => ((U[j].rs.length : Int) - i).toNat,
   ⟨0, x, rfl, by omega, by simpa using hU.ae k47, hk18.trans k47, fun k hk => ⟨(hW k hk).1, (hW k hk).2, fun hh => ?_, fun hh => ?_⟩, hY, hI18.ae k47, hR47⟩, ?_⟩
  ·have := hf48 k hh; have := ltU.1 k hk; omega
  ·have := hfc k hh; have := ltU.1 k hk; omega
  rintro i w52 ⟨n, x, rfl, hn, hU, hk52, hW, hY, hI52, hR52⟩
  intros
  refine af (fun h1 => ?_) (fun h1 => ?_)
  ·have hnl : n < U[j].rs.length := by omega
   have hnc : n < css.length := by rw [hR52.len]; simpa using hnl
   obtain ⟨a68, ha68, _, hrow⟩ := hR52.get (i := n) hnc
   obtain ⟨s69, hcs, hb69⟩ := hR52.row n hnc (by simpa using hnl)
   rw [hcs] at hrow
   have hb69' : au w52 s69 (encR U[j].rs[n]) := by simpa using hb69
   obtain ⟨R, hsp⟩ := EA U j n hjl hnl
   have hok : okR U[j].rs[n] := hO.ok _ (List.getElem_mem hjl) _ (List.getElem_mem hnl)
   have hndQ := hnd
   have hQok : ∀ y ∈ qsU (U.take j) ++ (qs1 U[j]).take n, okR y.2 := fun y hy => by
    have h9 : y ∈ qsU U := by rw [hsp]; exact List.mem_append_left _ hy
    obtain ⟨g, hg, hy'⟩ := List.mem_flatMap.1 h9
    obtain ⟨c, hc, rfl⟩ := List.mem_map.1 hy'
    exact hO.ok g hg c hc
   have hlenI : ((bR (qsU (U.take j) ++ (qs1 U[j]).take n)).ins (U[j].num : Int)).length < 2 ^ 20 := by
    rw [vH]
    have e1 : ∀ Q Q2 : List (Int × Rc), (pagesOf (((Q.filter fun x => decide (x.1 = (U[j].num : Int)))).map (·.2))).length <= (jw U (U[j].num : Int)).length \/ ¬ (qsU U = Q ++ Q2) := fun Q Q2 => by
     by_cases e : qsU U = Q ++ Q2
     ·left
      unfold jw
      rw [e, List.filter_append, List.map_append, aR, List.map_append, List.length_append, List.length_map]; omega
     ·exact .inr e
    have e2 := (e1 (qsU (U.take j) ++ (qs1 U[j]).take n) _).resolve_right (fun hh => hh hsp)
    have e3 := hO.AX (U[j].num : Int)
    rw [List.length_map]; omega
   have htop := Ab _ hQok
   have z52 := hk52.size
   refine aa ha68 ⟨by omega, h1, s69, by rw [Int.toNat_natCast]; exact jk hrow 0 (by simp), (Dc A hU (U[j].num : Int) U[j].rs[n] hok s69 hb69' (hid w52 hk52) (by omega) (fun a t hc => ?_) (by omega) hlenI).mono ?_⟩
   ·refine FX (R := R) (seg := (U[j].num : Int)) (t := t) ?_
    rw [<- hc, <- hsp, pj]; exact hnd
   ·rintro e w71 ⟨rfl, x', hU', hT1, hT2, hT3⟩
    have hnew : ah w3 w71 := hk52.ext hT1 (fun k hk => (hW k hk).1)
    have ltO := hU.lt
    have z71 := hT1.size
    have hr1 := hI52.lt
    have hr2 := hR52.lt
    have hr3 := hR52.flt
    refine ⟨_, rfl, trivial, aj (fun h => by cases h) (fun _ => ⟨ar (by omega), ⟨n + 1, x', rfl, hnl, ?_, hnew, fun k hk => ?_, fun k hk => ?_, hI52.ext hT1 (fun k hk hh => (hW k hh).2.1 hk), hR52.ext hT1 (fun k hk hh => (hW k hh).2.2.1 hk) (fun k hk hh => (hW k hh).2.2.2 hk)⟩, by dsimp only; omega⟩)⟩
    ·have hq : n < (qs1 U[j]).length := by simpa [qs1] using hnl
     have e3 : (qs1 U[j])[n] = ((U[j].num : Int), U[j].rs[n]) := by simp [qs1]
     rw [List.take_succ_eq_append_getElem hq, <- List.append_assoc, e3, iL]
     exact hU'
    ·rcases hT2 k hk with g | g
     ·exact hW k g
     ·exact ⟨by omega, fun hh => by have := hr1 k hh; omega, fun hh => by have := hr2 k hh; omega, fun hh => by have := hr3 k hh; omega⟩
    ·rcases hT3 k hk with g | g | g
     ·exact hY k g
     ·exact g.elim
     ·omega
  ·have hnn : n = U[j].rs.length := by omega
   subst hnn
   refine ⟨ar (by omega), ⟨j + 1, x, rfl, hjl, ?_, hk52, fun k hk => ⟨(hW k hk).1, (hW k hk).2.1⟩, hY, hI52⟩, by dsimp only; omega⟩
   have e4 : (qs1 U[j]).take U[j].rs.length = qs1 U[j] := List.take_of_length_le (by simp [qs1])
   rw [e4] at hU
   rw [FV U j hjl]
   exact hU
 ·have hjj : j = U.length := by omega
  subst hjj
  rw [List.take_length] at hU
  obtain ⟨v1, v2, v3, v4, v5⟩ := Dg hO
  have hQok : ∀ y ∈ qsU U, okR y.2 := fun y hy => by
   obtain ⟨g, hg, hy'⟩ := List.mem_flatMap.1 hy
   obtain ⟨c, hc, rfl⟩ := List.mem_map.1 hy'
   exact hO.ok g hg c hc
  have htop := Ab _ hQok
  refine (uj hU).mono ?_
  rintro e w74 ⟨rfl, x', hU', hT1, hT2, hT3⟩
  rw [v1, v2, v4, v5] at hU'
  have ltO := hU.lt
  have hk74 : ah w3 w74 := hk18.ext hT1 (fun k hk => (hW k hk).1)
  have hW' : ∀ k, UnW r10 x' k -> w3.heap.size <= k := fun k hk => by
   rcases hT2 k hk with g | g
   ·exact (hW k g).1
   ·omega
  have hY' : ∀ k, UnY x' k -> w3.heap.size <= k := fun k hk => by
   rcases hT3 k hk with g | g | g
   ·exact hY k g
   ·exact g.elim
   ·omega
  have hSlt := hS.B.lt
  refine ⟨rfl, r10, ⟨st, x', u, q, (bR (qsU U)).top⟩, rfl, ⟨hS.ae hk74, hU', hO, ⟨htop.1, v3⟩, hT, fun k hk hh => ?_, fun k hk hh => ?_, fun k hk => ?_⟩, rfl, fun k hk => ?_, fun k hk => ?_, k3.trans hk74⟩
  ·have := hSlt k hh; have := hW' k hk; omega
  ·rcases hh with hh | hh
   ·obtain ⟨b, s0, hs0, h00, hk0⟩ := hk
    obtain ⟨y1, y2⟩ := hU'.pb b s0 hs0 h00 k hk0
    obtain ⟨t0, _, hb0, _⟩ := (hU'.pv b).1 s0 hs0
    rcases hh with hh | hh | hh | ⟨n, s1, hs1, hk1⟩
    ·exact y1 hh
    ·obtain ⟨_, _, hp1, _⟩ := hU'.p.at'
     exact cV hb0 h00 hk0 (by rw [hh]; exact hp1)
    ·obtain ⟨_, _, hp1, _⟩ := hU'.i.at'
     exact cV hb0 h00 hk0 (by rw [hh]; exact hp1)
    ·exact y2 n s1 hs1 hk1
   ·have := hSlt k hh; have := hY' k hk; omega
  ·have := hW' k hk; omega
  ·rcases hk with hk | hk | hk
   ·have := hW' k hk; exact .inr (by omega)
   ·exact .inr (hfr k hk)
   ·exact .inl hk
  ·have := hY' k hk; omega
end Go.D
namespace Go.D
open Go Go.Proofs
def writeP (k : Nat) (s : UnS) (epoch a : Int) (t : List UInt8) : Option Nat × UnS :=
 match eu s.ep epoch a 4095 with
 | some c => (some c, s)
 | none => if t.length = 0 \/ 2048 < t.length then (some 2, s) else if a < (s.tr : Int) then (some 10, s) else if (pgM s.U s.tr a).isSome then (some 8, s)
  else match appU k s.U (.dO a.toNat t) with
   | none => (some 12, s)
   | some (n, V) => (none, ⟨V, s.tr, s.ep, max s.T (a.toNat + 1)⟩)
def gZ (k : Nat) (s : UnS) (epoch : Int) : Option Nat × UnS :=
 if epoch < 0 \/ 1073741824 < epoch then (some 13, s) else if epoch < (s.ep : Int) then (some 7, s) else if epoch = (s.ep : Int) then (none, s)
 else match appU k s.U (.shut epoch.toNat) with
  | none => (some 12, s)
  | some (n, V) => (none, ⟨V, s.tr, epoch.toNat, s.T⟩)
def dC (tr : Nat) : List aO -> List aO
 | [] => []
 | [g] => [g]
 | g :: h :: t => if (pagesOf g.rs).all (fun y => decide (y.1 < tr)) then dC tr (h :: t) else g :: h :: t
def jo (k : Nat) (s : UnS) (epoch to : Int) : Option Nat × UnS :=
 match eu s.ep epoch to 4096 with
 | some c => (some c, s)
 | none => if to <= (s.tr : Int) then (none, s)
  else match appU k s.U (.trim to.toNat s.ep) with
   | none => (some 12, s)
   | some (n, V) => (none, ⟨dC to.toNat V, to.toNat, s.ep, max s.T to.toNat⟩)
def yx (U : List aO) (s : UnS) : Prop := gb U s.tr s.ep s.T /\ ∀ a, pgM U s.tr a = pgM s.U s.tr a
def UCr (d : aK) (k m : Nat) (Ss : List UnS) : Prop := d.aI.length <= 100 /\ ∀ kept torn cut : Int, ∃ U, cI (aW (crashL kept torn cut 0 d.aI d.img)) k (sU U) /\ (∀ g ∈ sU U, g.num < m) /\ ∃ s ∈ Ss, yx U s
def jq (r rd : Nat) (f f' : UnF) (w w' : World) : Prop := bJ (UB r rd f) (UB r rd f') w w' /\ ∀ k, UnY f'.x k -> UnY f.x k \/ w.heap.size <= k
theorem jq.refl (r rd : Nat) (f : UnF) (w : World) : jq r rd f f w w := ⟨bJ.refl _ _, fun k hk => .inl hk⟩
theorem jq.trans {r rd : Nat} {f f1 f2 : UnF} {a b c : World} (h1 : jq r rd f f1 a b) (h2 : jq r rd f1 f2 b c) : jq r rd f f2 a c :=
 ⟨h1.1.trans h2.1, fun k hk => (h2.2 k hk).elim (h1.2 k) (fun h => .inr (Nat.le_trans h1.1.1.size h))⟩
theorem jq.ae {r rd : Nat} {f f' : UnF} {a b c : World} (h1 : jq r rd f f' a b) (h2 : ah b c) : jq r rd f f' a c := ⟨h1.1.ae h2, h1.2⟩
theorem ah.Hk {r rd : Nat} {f f' : UnF} {a b c : World} (h1 : ah a b) (h2 : jq r rd f f' b c) : jq r rd f f' a c :=
 ⟨h1.kh h2.1, fun k hk => (h2.2 k hk).imp (fun h => h) (fun h => Nat.le_trans h1.size h)⟩
def AY (w : World) (n0 r rd : Nat) (f : UnF) (d : aK) (s : UnS) (m : Nat) (p : Option Nat × UnS) (e' : Option Nat) (w' : World) : Prop :=
 (e' = p.1 /\ ∃ f' d', UAt w' n0 r rd f' d' p.2 (m + 1) /\ d'.n = d.n /\ d'.stops = d.stops /\ jq r rd f f' w w') \/
 (e' = some 11 /\ d.stops = true /\ ∃ q' d', aP w' rd q' d' /\ d'.n = d.n /\ d'.stops = d.stops /\ UCr d' (d.n / 64) (m + 1) [s, p.2] /\ bJ (UB r rd f) (bp rd q') w w')
theorem F3 (k : Nat) (U : List aO) (n : Nat) : (jB k (sU U) n).getD (sU U) = sU (rH k U n) := by
 unfold jB rH
 split
 ·rfl
 ·cases gz k (sU U) with
  | none => rfl
  | some p => simp [pO, aO.s]
theorem Ac (k : Nat) (U : List aO) (n : Nat) : fo (rH k U n) = fo U := by
 unfold rH
 split
 ·rfl
 ·split
  ·rfl
  ·exact B7 _ _ _
theorem F4 (k : Nat) {U : List aO} (n : Nat) (h : okU U) : okU (rH k U n) := by
 unfold rH
 split
 ·exact h
 ·split
  ·exact h
  ·intro y hy z hz
   rcases List.mem_append.1 hy with hy | hy
   ·exact h y hy z hz
   ·rw [List.mem_singleton] at hy; subst hy; simp at hz
theorem gb.HH {U V : List aO} {tr ep T : Nat} (h : gb U tr ep T) (ho : okU V) (ha : fo V = fo U) : gb V tr ep T :=
 ⟨ho, by rw [ha]; exact h.te, by unfold pgU; rw [ha]; exact h.nd, by unfold pgU; rw [ha]; exact h.tl⟩
theorem G5 {U V : List aO} (ha : fo V = fo U) (tr : Nat) : pgM V tr = pgM U tr := by
 unfold pgM pgU
 rw [ha]
theorem ED {k m n : Nat} {U : List aO} (h : ∀ g ∈ sU U, g.num < m) : ∀ g ∈ sU (rH k U n), g.num < m + 1 := by
 intro g hg
 have hnx := ue h
 unfold rH at hg
 split at hg
 ·have := h g hg; omega
 ·split at hg
  ·have := h g hg; omega
  ·obtain ⟨y, hy, rfl⟩ := List.mem_map.1 hg
   rcases List.mem_append.1 hy with hy | hy
   ·have := h _ (List.mem_map.2 ⟨y, hy, rfl⟩); omega
   ·rw [List.mem_singleton] at hy; subst hy
    show cd (sU U) < m + 1; omega
theorem F5 {k m n : Nat} {U V : List aO} {x : Rc} (h : ∀ g ∈ sU U, g.num < m) (ha : appU k U x = some (n, V)) : ∀ g ∈ sU V, g.num < m + 1 := by
 intro g hg
 have hnx := ue h
 obtain ⟨_, _, M, g0, rfl, hM⟩ := gk ha
 obtain ⟨y, hy, rfl⟩ := List.mem_map.1 hg
 have key : ∀ z ∈ M ++ [g0], z.num < m + 1 := by
  intro z hz
  rcases hM with rfl | ⟨p, _, rfl, rfl⟩
  ·have := h _ (List.mem_map.2 ⟨z, hz, rfl⟩)
   have h2 : z.num < m := this
   omega
  ·rcases List.mem_append.1 hz with hz | hz
   ·have := h _ (List.mem_map.2 ⟨z, hz, rfl⟩)
    have h2 : z.num < m := this
    omega
   ·rw [List.mem_singleton] at hz; subst hz
    show cd (sU M) < m + 1; omega
 rcases List.mem_append.1 hy with hy | hy
 ·exact key y (by simp [hy])
 ·rw [List.mem_singleton] at hy; subst hy
  exact key g0 (by simp)
theorem qX.unit {A : Nat -> Addr} {w w' : World} {n0 st rd m : Nat} {u : StP} {q : cU} {d : aK} {U : List aO} {c : Rc} (hc : okR c) {n : Int} {e' : Option Nat} (h : qX A w n0 st rd u q d (sU U) m (encR c) n e' w') :
  (appU (d.n / 64) U c = none /\ e' = some 12 /\ aP w' rd q d /\ ah w w') \/
  (∃ n' V, appU (d.n / 64) U c = some (n', V) /\ n = (n' : Int) /\ e' = none /\ ∃ u' q' d', Sys w' n0 st rd u' q' d' (sU V) (m + 1) /\ d'.n = d.n /\ d'.stops = d.stops /\ bJ (cJ st u rd q) (cJ st u' rd q') w w') \/
  (∃ n' V, appU (d.n / 64) U c = some (n', V) /\ e' = some 11 /\ d.stops = true /\ ∃ q' d', aP w' rd q' d' /\ d'.n = d.n /\ d'.stops = d.stops /\ ud d' (d.n / 64) [sU U, sU (rH (d.n / 64) U (encR c).length), sU V] /\ bJ (cJ st u rd q) (bp rd q') w w') := by
 obtain ⟨q', d', hD, hn, hs, hcase⟩ := h
 have hok := DO (k := d.n / 64) (U := U) hc
 cases ha : appU (d.n / 64) U c with
 | none =>
  rw [ha] at hok
  simp only at hok
  rw [hok] at hcase
  rcases hcase with ⟨_, h2, _, rfl, rfl, hk⟩ | ⟨h1, _⟩ | ⟨h1, _⟩
  ·exact .inl ⟨rfl, h2, hD, hk⟩
  ·cases h1
  ·cases h1
 | some p =>
  obtain ⟨n', V⟩ := p
  rw [ha] at hok
  simp only at hok
  rw [hok] at hcase
  rcases hcase with ⟨h1, _⟩ | ⟨_, h2, h3, u', hS, ft⟩ | ⟨_, h2, h3, h4, ft⟩
  ·exact absurd rfl h1
  ·exact .inr (.inl ⟨n', V, rfl, h3, h2, u', q', d', hS, hn, hs, ft⟩)
  ·rw [F3] at h4
   exact .inr (.inr ⟨n', V, rfl, h2, h3, q', d', hD, hn, hs, h4, ft⟩)
theorem ud.unit {d' : aK} {k m n n' : Nat} {U V : List aO} {c : Rc} {s s1 : UnS} (h : ud d' k [sU U, sU (rH k U n), sU V]) (hN : ∀ g ∈ sU U, g.num < m) (ha : appU k U c = some (n', V)) (h0 : s.U = U) (hO : gb U s.tr s.ep s.T) (h1 : yx V s1) : UCr d' k (m + 1) [s, s1] := by
 refine ⟨h.1, fun a b c => ?_⟩
 obtain ⟨L, hL, hI⟩ := h.2 a b c
 simp only [List.mem_cons, List.not_mem_nil, or_false] at hL
 rcases hL with rfl | rfl | rfl
 ·exact ⟨U, hI, fun g hg => by have := hN g hg; omega, s, by simp, hO, fun a => by rw [h0]⟩
 ·exact ⟨_, hI, ED hN, s, by simp, hO.HH (F4 k n hO.ok) (Ac k U n), fun a => by rw [h0, G5 (Ac k U n)]⟩
 ·exact ⟨V, hI, F5 hN ha, s1, by simp, h1⟩
theorem F6 {U V : List aO} {tr a : Nat} {t : List UInt8} (h : fo V = fo U ++ [.dO a t]) (ha : tr <= a) (hn : pgM U tr (a : Int) = none) : pgM V tr = ju (pgM U tr) (a : Int) (some t) := by
 funext b
 have hn' : cQ (pgU U) a = none := by
  unfold pgM at hn
  rw [if_neg (by omega)] at hn
  exact hn
 unfold ju pgM pgU
 rw [h, aR]
 by_cases e : b = (a : Int)
 ·subst e
  rw [if_neg (by omega), if_pos rfl]
  simp only [pagesOf]
  rw [mS, Int.toNat_natCast]
  unfold pgU at hn'
  rw [hn']; simp
 ·rw [if_neg e]
  by_cases e2 : b < (tr : Int)
  ·rw [if_pos e2, if_pos e2]
  ·rw [if_neg e2, if_neg e2]
   simp only [pagesOf]
   rw [mS]
   cases cQ (pagesOf (fo U)) b.toNat with
   | some y => rfl
   | none => simp only; rw [if_neg (by omega)]
theorem F7 {U V : List aO} {x : Rc} (h : fo V = fo U ++ [x]) (hx : ∀ a t, x ≠ .dO a t) (tr : Nat) : pgM V tr = pgM U tr := by
 unfold pgM pgU
 rw [h, aR]
 cases x with
 | dO a t => exact absurd rfl (hx a t)
 | trim t e => simp [pagesOf]
 | shut e => simp [pagesOf]
theorem yy {U : List aO} {tr a : Nat} (ha : tr <= a) (hn : pgM U tr (a : Int) = none) : ∀ y ∈ pgU U, y.1 ≠ a := by
 unfold pgM at hn
 rw [if_neg (by omega)] at hn
 exact vy.1 hn
def tailR (T tt : Nat) : Rc -> Nat
 | .dO a _ => max T (a + 1)
 | .trim t _ => max tt t
 | .shut _ => T
theorem uw {k n : Nat} {U V : List aO} {x : Rc} {tr ep T : Nat} (h : gb U tr ep T) (hx : okR x) (ha : appU k U x = some (n, V)) (hp : ∀ a t, x = .dO a t -> ∀ y ∈ pgU U, y.1 ≠ a) :
  gb V (mb (tr, ep) x).1 (mb (tr, ep) x).2 (tailR T (ef (pgU U)) x) := by
 have hV := F1 ha h.ok hx
 obtain ⟨_, _, M, g, rfl, hM⟩ := gk ha
 have hR : fo (M ++ [g]) = fo U := by
  rcases hM with rfl | ⟨p, _, rfl, rfl⟩
  ·rfl
  ·exact B7 _ _ _
 have hok : okU (M ++ [g]) := by
  intro y hy z hz
  rcases List.mem_append.1 hy with hy | hy
  ·exact hV y (by simp [hy]) z hz
  ·rw [List.mem_singleton] at hy; subst hy
   exact hV _ (List.mem_append_right _ (List.mem_singleton.2 rfl)) z (List.mem_append_left _ hz)
 cases x <;> exact h.add hok hR hx hp
section
variable {w w' : World} {n0 r rd m : Nat} {f : UnF} {d : aK} {s : UnS}
theorem UAt.ins (h : UAt w n0 r rd f d s m) (n : Int) : (jw s.U n).length < 2 ^ 20 := by have := h.O.AX n; omega
theorem UAt.we (h : UAt w n0 r rd f d s m) {e' : Option Nat} (hk : ah w w') : AY w n0 r rd f d s m (e', s) e' w' :=
 .inl ⟨rfl, f, d, (h.ae hk).up (by omega), rfl, rfl, hk.Hk (jq.refl _ _ _ _)⟩
theorem Cm (A : Nat -> Addr) (h : UAt w n0 r rd f d s m) (hE : dL A n0 w) (hm : m <= 2 ^ 60) (epoch a : Int) (sl : Slc) (t : List UInt8) (hb : au w sl t) (ht : t.length <= 2 ^ 20) (hs : ∀ k, ai sl k -> ¬ UB r rd f k) :
  Calls Tryz.prog iz ⟨[av r, .int .i64 epoch, .int .i64 a, sl.v]⟩ w fun e w' => ∃ e', e = .returned (cm A e') /\ AY w n0 r rd f d s m (writeP (d.n / 64) s epoch a t) e' w' := by
 refine se _ _ _ _ ?_
 unfold pI
 have hG : bK Ev A n0 w := hE.g.sub qJ
 have hbl := hb.1
 refine (qK A h.M epoch a 4095 hG).mono ?_
 rintro e w6 ⟨rfl, rfl⟩
 unfold writeP
 cases hc : eu s.ep epoch a 4095 with
 | some c => exact ⟨_, rfl, aF A _, aj (fun _ => ⟨_, rfl, h.we (Ext.refl _ _)⟩) (fun hh => by cases hh)⟩
 | none =>
  have ha : 0 <= a /\ a <= 4095 := by
   unfold eu at hc
   split at hc
   ·cases hc
   ·split at hc
    ·cases hc
    ·omega
  obtain ⟨es, g1, g2⟩ := h.M.p.get
  refine ⟨_, rfl, aF A _, aj (fun hh => by cases hh) (fun _ => aa rfl ⟨_, h.M.c.2.1, es, g1, lookL f.x.pl a, g2 a, fun w2 => ¬ (t.length = 0 \/ 2048 < t.length) /\ ¬ a < (s.tr : Int) /\ (pgM s.U s.tr a).isSome = false /\ w2 = w6,
   ⟨fun b w2 => b = decide (t.length = 0 \/ 2048 < t.length) /\ w2 = w6, af (fun h0 => ⟨(decide_eq_true (.inl (by omega))).symm, rfl⟩) (fun h0 => ⟨by rw [decide_eq_decide]; omega, rfl⟩), ?_⟩, ?_⟩)⟩
  ·rintro b w15 ⟨rfl, rfl⟩
   intros
   refine af (fun h1 => ?_) (fun h1 => aa rfl ⟨_, h.M.c.2.2.2.1, af (fun h2 => ?_) (fun h2 => ?_)⟩)
   ·rw [if_pos h1]
    exact ⟨_, eb hG 2 jJ rfl (by decide), _, rfl, h.we (Ext.refl _ _)⟩
   ·rw [if_neg h1, if_pos h2]
    exact ⟨_, eb hG 10 eL rfl (by decide), _, rfl, h.we (Ext.refl _ _)⟩
   ·rw [if_neg h1, if_neg h2]
    refine aj (fun h3 => ?_) (fun h3 => ?_)
    ·rw [h.M.has] at h3
     rw [if_pos h3]
     exact ⟨_, eb hG 8 eK rfl (by decide), _, rfl, h.we (Ext.refl _ _)⟩
    ·rw [h.M.has] at h3
     exact ⟨h1, h2, h3, rfl⟩
  ·rintro w29 ⟨h1, h2, h3, rfl⟩
   intros
   rw [if_neg h1, if_neg h2, if_neg (by rw [h3]; decide)]
   obtain ⟨an, rfl⟩ : ∃ an : Nat, a = an := ⟨a.toNat, by omega⟩
   rw [Int.toNat_natCast]
   have hok : okR (.dO an t) := ⟨by omega, by omega, by omega⟩
   have hpn : pgM s.U s.tr (an : Int) = none := by simpa using h3
   refine (ph A h.S h.M hE hm (.dO an t) hok (fun _ _ hh => by cases hh) sl (fun _ => hb)).mono ?_
   rintro e w53 ⟨n, e', w1, rfl, k1, hp⟩
   rcases hp.unit hok with ⟨ha1, rfl, hD, hk⟩ | ⟨n', V, ha1, rfl, rfl, u', q', d', hS', hn', hst', ft⟩ | ⟨n', V, ha1, rfl, hst, q', d', hD', hn', hst', hcr, ft⟩
   ·rw [ha1]
    exact ⟨_, _, rfl, aF A _, aj (fun hh => by cases hh) (fun _ => ⟨_, rfl, h.we (k1.trans hk)⟩)⟩
   ·rw [ha1]
    have ft' : bJ (cJ f.st f.u rd f.q) (cJ f.st u' rd q') w29 w53 := k1.kh ft
    have hqs := (gk ha1).1
    have hal := q8 hqs
    have hM53 := h.M.ext ft'.1 h.sep (fun k hk hh => h.uv k hk (.inr hh))
    refine ⟨_, _, rfl, aF A _, aj (fun _ => ?_) (fun hh => by cases hh)⟩
    have hb53 : au w53 sl t := aZ hb ft'.1 (fun _ k hk hh => hs k hk (.inr hh))
    refine (fO sl t w53 hb53 (by omega)).mono ?_
    rintro e w57 ⟨s58, rfl, ho58, hf58, k57⟩
    have hM57 := hM53.ae k57
    have ht4 := h.T.1
    have htt := h.t
    have z53 := ft'.1.size
    have z57 := k57.size
    have lt53 := hM53.lt
    refine ⟨s58, rfl, (yo hM57 (n' : Int) (an : Int) s58 t ho58.bytes (by omega) (fun _ k hk hh => ?_) hpn (by omega) (by omega) (h.ins _)).mono ?_⟩
    ·have := hf58 k hk; have := lt53.1 k hh; omega
    ·rintro e w60 ⟨rfl, x', hM60, t1, t2, t3⟩
     have hpg : pgM V s.tr = ju (pgM s.U s.tr) (an : Int) (some t) := F6 hal (by omega) hpn
     have hin : jw V = ju (jw s.U) (n' : Int) (jw s.U (n' : Int) ++ [(an : Int)]) := DN hqs
     rw [<- hpg, <- hin] at hM60
     have hSlt := hS'.B.lt
     have sys57 := hS'.ae k57
     have sepW : ∀ k, UnW r f.x k -> ¬ cJ f.st u' rd q' k := fun k hk hh => (ft'.2 k hh).elim (h.sep k hk) (fun hh => by have := h.M.lt.1 k hk; omega)
     have sys60 := sys57.ext t1 (fun k hk hh => sepW k hh hk)
     have x60 : Ext (UB r rd f) w29 w60 := (Ext.trans (ft'.1.mono (fun k hk => Or.inr hk)) k57 (fun _ h => h) (fun _ h => h.elim)).trans t1 (fun _ h => h) (fun k hk => .inl (.inl hk))
     have z60 := t1.size
     have hO' := uw h.O hok ha1 (fun a' t' he y hy => by cases he; exact yy (by omega) hpn y hy)
     refine ⟨rfl, none, rfl, .inl ⟨rfl, ⟨f.st, x', u', q', max f.top (an + 1)⟩, d', ⟨sys60, hM60, hO', ⟨by show 0 <= max f.top ((an : Int) + 1); omega, by show max (max f.top ((an : Int) + 1)) (s.tr : Int) = ((max s.T (an + 1) : Nat) : Int); omega⟩, ⟨by show max s.T (an + 1) <= 4096; omega, h.T.2⟩, fun k hk hh => ?_, fun k hk hh => ?_, fun k hk => ?_⟩, hn', hst', ⟨⟨x60, fun k hk => ?_⟩, fun k hk => ?_⟩⟩⟩
     ·rcases t2 k hk with g | g
      ·exact sepW k g hh
      ·have := hSlt k hh; omega
     ·rcases hh with hh | hh
      ·obtain ⟨b, s0, hs0, h00, hk0⟩ := hk
       obtain ⟨y1, y2⟩ := hM60.pb b s0 hs0 h00 k hk0
       obtain ⟨t0, _, hb0, _⟩ := (hM60.pv b).1 s0 hs0
       rcases hh with hh | hh | hh | ⟨n, s1, hs1, hk1⟩
       ·exact y1 hh
       ·obtain ⟨_, _, hp1, _⟩ := hM60.p.at'
        exact cV hb0 h00 hk0 (by rw [hh]; exact hp1)
       ·obtain ⟨_, _, hp1, _⟩ := hM60.i.at'
        exact cV hb0 h00 hk0 (by rw [hh]; exact hp1)
       ·exact y2 n s1 hs1 hk1
      ·have hl := hSlt k hh
       rcases t3 k hk with g | ⟨_, g⟩ | g
       ·rcases ft'.2 k hh with g2 | g2
        ·exact h.uv k g (.inr g2)
        ·have := h.M.lt.2 k g; omega
       ·have := hf58 k g; omega
       ·omega
     ·rcases t2 k hk with g | g
      ·exact h.n k g
      ·have := h.S.B.z; omega
     ·rcases hk with hk | hk
      ·rcases t2 k hk with g | g
       ·exact .inl (.inl g)
       ·exact .inr (by omega)
      ·exact (ft'.2 k hk).imp .inr (fun g => g)
     ·rcases t3 k hk with g | ⟨_, g⟩ | g
      ·exact .inl g
      ·have := hf58 k g; exact .inr (by omega)
      ·exact .inr (by omega)
   ·rw [ha1]
    have hal := q8 (gk ha1).1
    have hO' := uw h.O hok ha1 (fun a' t' he y hy => by cases he; exact yy (by omega) hpn y hy)
    exact ⟨_, _, rfl, aF A _, aj (fun hh => by cases hh) (fun _ => ⟨some 11, rfl, .inr ⟨rfl, hst, q', d', hD', hn', hst', hcr.unit h.S.N ha1 rfl h.O ⟨hO', fun _ => rfl⟩, ⟨(k1.kh ft).1.mono (fun k hk => .inr hk), fun k hk => ((k1.kh ft).2 k hk).imp .inr (fun g => g)⟩⟩⟩)⟩
end
end Go.D
namespace Go.D
open Go Go.Proofs
section
variable {w w' : World} {n0 r rd m : Nat} {f : UnF} {d : aK} {s : UnS}
theorem UAt.Hl (h : UAt w n0 r rd f d s m) {V : List aO} {n : Nat} {c : Rc} {u' : StP} {q' : cU} {d' : aK} (hc : okR c) (hnp : ∀ a t, c ≠ .dO a t) (ha : appU (d.n / 64) s.U c = some (n, V)) (hS : Sys w' n0 f.st rd u' q' d' (sU V) (m + 1)) (ft : bJ (cJ f.st f.u rd f.q) (cJ f.st u' rd q') w w') :
  UnM w' r f.st f.x s.tr s.ep f.top (pgM V s.tr) (jw V) /\ (∀ k, UnW r f.x k -> ¬ cJ f.st u' rd q' k) /\ (∀ k, UnY f.x k -> ¬ UB r rd ⟨f.st, f.x, u', q', f.top⟩ k) := by
 have hqs := (gk ha).1
 have hal := q8 hqs
 have hM := h.M.ext ft.1 h.sep (fun k hk hh => h.uv k hk (.inr hh))
 have hin : jw V = jw s.U := by
  rw [DN hqs]
  cases c with
  | dO a t => exact absurd rfl (hnp a t)
  | trim t e => rfl
  | shut e => rfl
 rw [F7 hal hnp, hin]
 refine ⟨hM, fun k hk hh => (ft.2 k hh).elim (h.sep k hk) (fun hh => by have := h.M.lt.1 k hk; omega), fun k hk hh => ?_⟩
 rcases hh with hh | hh
 ·exact h.uv k hk (.inl hh)
 ·rcases ft.2 k hh with g | g
  ·exact h.uv k hk (.inr g)
  ·have := h.M.lt.2 k hk; omega
theorem Dj (A : Nat -> Addr) (h : UAt w n0 r rd f d s m) (hE : dL A n0 w) (hm : m <= 2 ^ 60) (epoch : Int) :
  Calls Tryz.prog iZ ⟨[av r, .int .i64 epoch]⟩ w fun e w' => ∃ (n : Int) (e' : Option Nat), e = .returned (.tuple ⟨[.int .i64 n, cm A e']⟩) /\ AY w n0 r rd f d s m (gZ (d.n / 64) s epoch) e' w' /\ (e' = (gZ (d.n / 64) s epoch).1 -> n = if e' = none then ((gZ (d.n / 64) s epoch).2.T : Int) else 0) := by
 refine tx _ _ ?_
 unfold qz
 have hG : bK Ev A n0 w := hE.g.sub qJ
 have hep := h.T.2
 have kd : ah w (World.drew w) := Ext.drew _ _
 unfold gZ
 refine ⟨fun b w2 => b = decide (epoch < 0 \/ 1073741824 < epoch) /\ w2 = w, af (fun h0 => ⟨(decide_eq_true (.inl h0)).symm, rfl⟩) (fun h0 => ⟨by rw [decide_eq_decide]; omega, rfl⟩), ?_⟩
 rintro b w5 ⟨rfl, rfl⟩
 intros
 refine af (fun h1 => ?_) (fun h1 => aa rfl ⟨_, h.M.c.2.2.2.2.1, af (fun h2 => ?_) (fun h2 => aa rfl ⟨_, h.M.c.2.2.2.2.1, ?_⟩)⟩)
 ·rw [if_pos h1]
  exact ⟨_, eb (hG.ae kd) 13 jX rfl (by decide), 0, _, rfl, h.we kd, fun _ => rfl⟩
 ·rw [if_neg h1, if_pos h2]
  exact ⟨_, eb (hG.ae kd) 7 fN rfl (by decide), 0, _, rfl, h.we kd, fun _ => rfl⟩
 rw [if_neg h1, if_neg h2]
 refine af (fun h3 => ?_) (fun h3 => ?_)
 ·rw [if_neg (by omega)]
  obtain ⟨en, rfl⟩ : ∃ en : Nat, epoch = en := ⟨epoch.toNat, by omega⟩
  rw [Int.toNat_natCast]
  have hok : okR (.shut en) := show en <= 2 ^ 30 by omega
  refine (ph A h.S h.M hE hm (.shut en) hok (fun _ _ hh => by cases hh) ⟨none, 0, 0⟩ (fun ⟨_, _, hh⟩ => by cases hh)).mono ?_
  rintro e w53 ⟨n, e', w1, rfl, k1, hp⟩
  rcases hp.unit hok with ⟨ha1, rfl, hD, hk⟩ | ⟨n', V, ha1, rfl, rfl, u', q', d', hS', hn', hst', ft⟩ | ⟨n', V, ha1, rfl, hst, q', d', hD', hn', hst', hcr, ft⟩
  ·rw [ha1]
   exact ⟨_, _, rfl, aF A _, aj (fun _ => ⟨_, _, rfl, h.we (k1.trans hk), fun _ => rfl⟩) (fun hh => by cases hh)⟩
  ·rw [ha1]
   have ft' : bJ (cJ f.st f.u rd f.q) (cJ f.st u' rd q') w5 w53 := k1.kh ft
   obtain ⟨hM53, sepW, uv⟩ := h.Hl hok (fun _ _ hh => by cases hh) ha1 hS' ft'
   obtain ⟨c1, c2⟩ := hM53.o.bf 4 (by simp) (.int .i64 (en : Int))
   refine ⟨_, _, rfl, aF A _, aj (fun hh => by cases hh) (fun _ => aa rfl ?_)⟩
   rw [add_lit]
   refine ⟨c1, fun w23 hw23 => ?_⟩
   obtain ⟨o23, e23, _⟩ := c2 w23 hw23
   have hM23 := hM53.Ci e23 o23
   have hO' := uw h.O hok ha1 (fun a' t' he y hy => by cases he)
   have x23 : Ext (UB r rd f) w5 w23 := (ft'.1.mono (fun k hk => Or.inr hk)).trans e23 (fun _ h => h) (fun k hk => .inl (.inl (.inl hk)))
   have hS23 := hS'.ext e23 (fun k hk hh => sepW r (.inl rfl) (by rw [<- show k = r from hh]; exact hk))
   have fin : ∀ {w25}, ah w23 w25 -> AY w5 n0 r rd f d s m (none, ⟨V, s.tr, en, s.T⟩) none w25 := fun k25 =>
    .inl ⟨rfl, ⟨f.st, f.x, u', q', f.top⟩, d', ⟨hS23.ae k25, hM23.ae k25, hO', h.t, ⟨h.T.1, by show en <= 2 ^ 30; omega⟩, sepW, uv, h.n⟩, hn', hst', ⟨⟨x23.trans k25 (fun _ h => h) (fun _ h => h.elim), fun k hk => hk.elim (fun h => .inl (.inl h)) (fun h => (ft'.2 k h).imp .inr (fun h => h))⟩, fun k hk => .inl hk⟩⟩
   refine (sN hM23).mono ?_
   rintro e w25 ⟨rfl, k25⟩
   exact ⟨_, rfl, _, none, rfl, fin k25, fun _ => h.t.2⟩
  ·rw [ha1]
   have hO' := uw h.O hok ha1 (fun a' t' he y hy => by cases he)
   have hal := q8 (gk ha1).1
   exact ⟨_, _, rfl, aF A _, aj (fun _ => ⟨_, some 11, rfl, .inr ⟨rfl, hst, q', d', hD', hn', hst', hcr.unit h.S.N ha1 rfl h.O ⟨hO', fun _ => rfl⟩, ⟨(k1.kh ft).1.mono (fun k hk => .inr hk), fun k hk => ((k1.kh ft).2 k hk).imp .inr (fun g => g)⟩⟩, fun hh => by cases hh⟩) (fun hh => by cases hh)⟩
 ·rw [if_pos (by omega)]
  refine (sN h.M).mono ?_
  rintro e w28 ⟨rfl, k28⟩
  exact ⟨_, rfl, _, none, rfl, h.we k28, fun _ => h.t.2⟩
theorem UnM.Iu {st : Nat} {x : UnP} {tr ep top : Int} {pg : Int -> Option (List UInt8)} {ins : Int -> List Int} (h : UnM w r st x tr ep top pg ins) (n : Int) (hp : iI KS w' x.mi (jZ x.il n)) (he : Ext (fun j => j = x.mi) w w') : UnM w' r st { x with il := jZ x.il n } tr ep top pg (ju ins n []) := by
 have lk : ∀ b, lookL (jZ x.il n) b = if b = n then none else lookL x.il b := fun b => tC n b h.i.nd
 obtain ⟨_, _, hi1, _⟩ := h.i.at'
 have rmi := h.DM.2
 refine ⟨h.o.ext he (fun hh => rmi hh), h.p.ext he (fun hh => h.ne hh), hp, h.ne, fun a => ⟨fun s hs => ?_, (h.pv a).2⟩, fun b => ?_, fun a b s t ha hb hne => ?_, fun a s ha => ?_, fun a s hs h0 j hj => ?_⟩
 ·obtain ⟨t, g1, g2, g3⟩ := (h.pv a).1 s hs
  exact ⟨t, g1, aZ g2 he (fun h0 j hj hh => cV g2 h0 (show ai s x.mi from hh ▸ hj) hi1), g3⟩
 ·dsimp only
  rw [lk]
  unfold ju
  by_cases e : b = n
  ·rw [if_pos e, if_pos e]; exact aB.nil _
  ·rw [if_neg e, if_neg e]
   refine (h.iv b).ext he (fun j hj hh => ?_)
   obtain ⟨c, T, f, hc⟩ := Own.ne (h.iv b).own hj
   rw [hh, hi1] at hc; cases hc
 ·dsimp only at ha hb
  rw [lk] at ha hb
  by_cases e : a = n
  ·rw [if_pos e] at ha; cases ha
  ·by_cases e2 : b = n
   ·rw [if_pos e2] at hb; cases hb
   ·rw [if_neg e] at ha; rw [if_neg e2] at hb
    exact h.sep a b s t ha hb hne
 ·dsimp only at ha
  rw [lk] at ha
  by_cases e : a = n
  ·rw [if_pos e] at ha; cases ha
  ·rw [if_neg e] at ha
   exact h.ir a s ha
 ·obtain ⟨y1, y2⟩ := h.pb a s hs h0 j hj
  refine ⟨y1, fun b t hb => ?_⟩
  dsimp only at hb
  rw [lk] at hb
  by_cases e : b = n
  ·rw [if_pos e] at hb; cases hb
  ·rw [if_neg e] at hb
   exact y2 b t hb
theorem yz {x : UnP} {st : Nat} {tr ep top : Int} {pg : Int -> Option (List UInt8)} {ins : Int -> List Int} {r2 : Nat} (h : UnM w r st x tr ep top pg ins) (o2 : aq w r2 [av r]) (sl : Slc) (l : List Int) (hl : aB w sl l) (hlen : l.length <= 2 ^ 40) :
  Calls Tryz.prog bj ⟨[sl.v, .func (.func fI) ⟨[]⟩ ⟨[av r2]⟩]⟩ w fun e w' => e = .returned (.bool (!l.all fun a => decide (a < tr))) /\ w' = w := by
 refine eM _ _ ?_
 unfold cl
 have hsl := Rows.sl hl
 refine Calls.mono (R := fun e w' => ∃ n : Int, e = .returned (.int .i64 n) /\ (decide ((0 : Int) <= n)) = (!l.all fun a => decide (a < tr)) /\ w' = w) (fm _ _ ?_) ?_
 ·unfold cM
  refine ⟨fun i w2 => ∃ k : Nat, i = k /\ k <= l.length /\ (l.take k).all (fun a => decide (a < tr)) = true /\ w2 = w, fun i _ => ((l.length : Int) - i).toNat, ⟨0, rfl, by omega, by simp, rfl⟩, ?_⟩
  rintro i w6 ⟨k, rfl, hk, hall, rfl⟩
  intros
  refine af (fun h0 => ?_) (fun h0 => ⟨-1, rfl, ?_, rfl⟩)
  ·have hkl : k < l.length := by omega
   obtain ⟨a, ha, hc⟩ := hl.get hkl
   refine aa ha ⟨by omega, h0, _, by rw [Int.toNat_natCast]; exact hc, ?_⟩
   refine Calls.mono (R := fun e w' => e = .returned (.bool (decide (tr <= l[k]))) /\ w' = w6) (oQ _ _ ?_) ?_
   ·unfold kK
    exact aa rfl ⟨_, o2.cell 0 (by simp), aa rfl ⟨_, h.c.2.2.2.1, rfl, rfl⟩⟩
   ·rintro e w22 ⟨rfl, rfl⟩
    refine ⟨_, rfl, af (fun h1 => ⟨_, rfl, ?_, rfl⟩) (fun h1 => ⟨ar (by omega), ⟨k + 1, rfl, hkl, ?_, rfl⟩, by dsimp only; omega⟩)⟩
    ·have : l.all (fun a => decide (a < tr)) = false := by
      rw [Bool.eq_false_iff]
      intro hh
      have := List.all_eq_true.1 hh _ (List.getElem_mem hkl)
      have h3 : l[k] < tr := by simpa using this
      omega
     rw [this]
     exact decide_eq_true (by omega)
    ·rw [fP _ _ hkl, List.all_append, hall]
     simp; omega
  ·have : k = l.length := by omega
   subst this
   rw [List.take_length] at hall
   rw [hall]; rfl
 ·rintro e w' ⟨n, rfl, hn, rfl⟩
  exact ⟨n, rfl, by rw [hn], rfl⟩
end
theorem yA {g h : aO} {t : List aO} : dropR (sU (g :: h :: t)) (g.num : Int) = (none, sU (h :: t)) := by
 unfold dropR
 have : (sU (g :: h :: t)).findIdx? (fun x => decide ((x.num : Int) = (g.num : Int))) = some 0 := by
  simp [List.findIdx?_cons, aO.s]
 rw [this]
 simp
def pQ (U : List aO) (tr ep : Nat) : Prop := ∃ M p n rs, U = M ++ [⟨p, n, rs ++ [.trim tr ep]⟩]
theorem pQ.tail {g h : aO} {t : List aO} {tr ep : Nat} (hh : pQ (g :: h :: t) tr ep) : pQ (h :: t) tr ep := by
 obtain ⟨M, p, n, rs, e⟩ := hh
 cases M with
 | nil => simp at e
 | cons x M =>
  simp only [List.cons_append, List.cons.injEq] at e
  exact ⟨M, p, n, rs, e.2⟩
theorem pQ.all {U : List aO} {tr ep : Nat} (hh : pQ U tr ep) : ∃ R, fo U = R ++ [.trim tr ep] := by
 obtain ⟨M, p, n, rs, rfl⟩ := hh
 rw [qZ]
 exact ⟨fo M ++ rs, by simp⟩
theorem Cn {g : aO} {U : List aO} {tr : Nat} (h : ∀ a, tr <= a -> cQ (pgU U) a = cQ (pgU (g :: U)) a) : pgM U tr = pgM (g :: U) tr := by
 funext a
 unfold pgM
 split
 ·rfl
 ·rw [h _ (by omega)]
end Go.D

