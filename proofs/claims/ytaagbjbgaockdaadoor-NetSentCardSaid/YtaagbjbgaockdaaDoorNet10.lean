/-
  WHAT IS PROVED: contracts of functions, and the plain law, for this proof. No further conditions.
-/
import Derived.Test.YtaagbjbgaockdaaDoorNet9
set_option linter.unusedVariables false
set_option linter.unusedSimpArgs false
namespace Go.D
open Go Go.Proofs

abbrev SV := Int × Int × Int × Slc
def MS : KV Int SV := KV.int fun v => .agg ⟨msgC v.1 v.2.1 v.2.2.1 v.2.2.2⟩
/-- What is held of what was sent. -/
def Sent (w0 : World) : List (Int × SV) → List Msg → Prop
  | [], [] => True
  | (k, v) :: al, m :: ms => k = m.1 ∧ (∃ s : Slc, v = (m.1, m.2.1, m.2.2.1, s) ∧ bytesAt w0 s m.2.2.2) ∧ Sent w0 al ms
  | _, _ => False
theorem sent_len {w0 : World} : ∀ {al : List (Int × SV)} {ms : List Msg}, Sent w0 al ms → al.length = ms.length
  | [], [], _ => rfl
  | _ :: al, _ :: ms, h => by simp [sent_len h.2.2]
  | [], _ :: _, h => h.elim
  | _ :: _, [], h => h.elim
theorem sent_none {w0 : World} {n : Int} : ∀ {al : List (Int × SV)} {ms : List Msg}, Sent w0 al ms → (∀ j (h : j < ms.length), ms[j].1 ≠ n) → lookL al n = none
  | [], [], _, _ => rfl
  | (k, v) :: al, m :: ms, h, hn => by
    have h0 := hn 0 (by simp)
    rw [lookL, if_neg (fun e => h0 (by show m.1 = n; rw [e, h.1]))]
    exact sent_none h.2.2 (fun j hj => hn (j + 1) (by simpa using hj))
  | [], _ :: _, h, _ => h.elim
  | _ :: _, [], h, _ => h.elim
theorem sent_some {w0 : World} {n : Int} : ∀ {al : List (Int × SV)} {ms : List Msg}, Sent w0 al ms → ms.Pairwise (fun a b => a.1 < b.1) → ∀ {i : Nat} (hi : i < ms.length), ms[i].1 = n →
    (∃ s : Slc, lookL al n = some (ms[i].1, ms[i].2.1, ms[i].2.2.1, s) ∧ bytesAt w0 s ms[i].2.2.2) ∧ Sent w0 (delL al n) (ms.eraseIdx i)
  | [], [], _, _, i, hi, _ => by simp at hi
  | (k, v) :: al, m :: ms, h, hp, i, hi, he => by
    obtain ⟨h1, h2, h3⟩ := h
    cases i with
    | zero =>
      have he : m.1 = n := he
      obtain ⟨s, rfl, hb⟩ := h2
      rw [lookL, delL, if_pos (by rw [h1, he]), if_pos (by rw [h1, he])]
      exact ⟨⟨s, rfl, hb⟩, h3⟩
    | succ i =>
      have hi2 : i < ms.length := by simpa using hi
      have hlt := (List.pairwise_cons.1 hp).1 _ (List.getElem_mem hi2)
      have he : ms[i].1 = n := he
      have hne : n ≠ k := by rw [h1]; omega
      obtain ⟨g1, g2⟩ := sent_some h3 (List.pairwise_cons.1 hp).2 hi2 he
      rw [lookL, delL, if_neg hne, if_neg hne]
      exact ⟨g1, h1, h2, g2⟩
  | [], _ :: _, h, _, _, _, _ => h.elim
  | _ :: _, [], h, _, _, _, _ => h.elim
theorem sent_snoc {w0 : World} {m : Msg} {s : Slc} (hb : bytesAt w0 s m.2.2.2) : ∀ {al : List (Int × SV)} {ms : List Msg}, Sent w0 al ms → Sent w0 (al ++ [(m.1, (m.1, m.2.1, m.2.2.1, s))]) (ms ++ [m])
  | [], [], _ => ⟨rfl, ⟨s, rfl, hb⟩, trivial⟩
  | (k, v) :: al, x :: ms, h => ⟨h.1, h.2.1, sent_snoc hb h.2.2⟩
  | [], _ :: _, h => h.elim
  | _ :: _, [], h => h.elim
theorem put_new {κ α : Type} [DecidableEq κ] {k : κ} {a : α} : ∀ {al : List (κ × α)}, lookL al k = none → putL al k a = al ++ [(k, a)]
  | [], _ => rfl
  | (k', a') :: al, h => by
    rw [lookL] at h
    split at h
    · cases h
    · rename_i hk
      rw [putL, if_neg hk, put_new h]; rfl

structure SB (w0 w2 : World) (r rm : Nat) (q : NetP) (ms : List Msg) (al : List (Int × SV)) (nx : Int) : Prop where
  net : NetAt w2 r q (upN 4) ms nx
  map : MapAt MS w2 rm al
  k : Keep w0 w2
  b : ∀ x, NetM r q x → w0.heap.size ≤ x
  m0 : w0.heap.size ≤ rm
  m1 : ¬ NetM r q rm
  m2 : ¬ NetF q rm
variable {w0 w2 w' : World} {r rm : Nat} {q q' : NetP} {ms ms' : List Msg} {al al' : List (Int × SV)} {nx nx' : Int}
theorem SB.keep (h : SB w0 w2 r rm q ms al nx) (he : Keep w2 w') : SB w0 w' r rm q ms al nx := ⟨h.net.keep he, h.map.keep he, h.k.trans he, h.b, h.m0, h.m1, h.m2⟩
theorem SB.toNet (h : SB w0 w2 r rm q ms al nx) (hN : NetAt w' r q' (upN 4) ms' nx') (hT : NetTo r q q' w2 w') : SB w0 w' r rm q' ms' al nx' := by
  have hz := h.k.size
  have hl := h.map.lt
  exact ⟨hN, h.map.ext hT.1.1 h.m1, h.k.ext hT.1.1 h.b, fun x hx => (hT.1.2 x hx).elim (h.b x) (fun h => by omega), h.m0, fun hx => (hT.1.2 rm hx).elim h.m1 (fun h => by omega), fun hx => (hT.2 rm hx).elim h.m2 (fun h => by omega)⟩
theorem SB.toMap (h : SB w0 w2 r rm q ms al nx) (hM : MapAt MS w' rm al') (he : Ext (fun x => x = rm) w2 w') : SB w0 w' r rm q ms al' nx :=
  ⟨h.net.ext he (fun k hk e => h.m1 (e ▸ hk)) (fun k hk e => h.m2 (e ▸ hk)), hM, h.k.ext he (fun k hk => by rw [hk]; exact h.m0), h.b, h.m0, h.m1, h.m2⟩

def SentI (w0 : World) (r rm : Nat) (len : Nat) (i : Int) (w2 : World) : Prop :=
  ∃ (k : Nat) (q : NetP) (ms : List Msg) (al : List (Int × SV)) (nx : Nat), i = k ∧ k ≤ len ∧ SB w0 w2 r rm q ms al nx ∧ Sent w0 al ms ∧ nx ≤ k ∧ ms.length ≤ nx ∧ ms.Pairwise (fun a b => a.1 < b.1) ∧ ∀ m ∈ ms, m.1 < nx

theorem sentFin {len k nx : Nat} (hlen : len ≤ 80) (hB : SB w0 w2 r rm q ms al (nx : Int)) (hS : Sent w0 al ms) (hk : k < len) (h1 : nx ≤ k + 1) (h2 : ms.length ≤ nx) (h3 : ms.Pairwise (fun a b => a.1 < b.1)) (h4 : ∀ m ∈ ms, m.1 < nx) :
    Calls Tryd.prog fn_net_Net_Waiting ⟨[ptrR r]⟩ w2 fun e w190 => ∃ s191 : Slc, e = .returned (Slc.v s191) ∧ ∃ es192 : Array MapEntry, mapIs w190 (some rm) es192 ∧
      BIf (!decide (((s191.l : Nat) : Int) = (((Array.size es192) : Nat) : Int))) (Ending.returned (Value.bool false) = .returned (.bool true) ∧ Keep w0 w190)
        (inR .i64 ((k : Int) + 1) ∧ (SentI w0 r rm len ((k : Int) + 1) w190 ∧ ((len : Int) - ((k : Int) + 1)).toNat < ((len : Int) - (k : Int)).toNat)) := by
  refine (Waiting_spec hB.net (by omega)).mono ?_
  rintro e w190 ⟨t, css, rfl, hR, k190⟩
  have B := hB.keep k190
  obtain ⟨es, he1, he2⟩ := B.map.size
  have hl := sent_len hS
  have htl := hR.sl
  refine ⟨t, rfl, es, he1, BIf_ndec (fun hh => absurd (by rw [he2, hl, htl]) hh) (fun _ => ⟨inR64 (by omega), ⟨k + 1, q, ms, al, nx, by omega, by omega, B, hS, h1, h2, h3, h4⟩, by omega⟩)⟩

theorem pair_snoc {ms : List Msg} {m : Msg} (h : ms.Pairwise (fun a b => a.1 < b.1)) (hm : ∀ x ∈ ms, x.1 < m.1) : (ms ++ [m]).Pairwise (fun a b => a.1 < b.1) := by
  rw [List.pairwise_append]
  exact ⟨h, by simp, fun a ha b hb => by rw [List.mem_singleton] at hb; subst hb; exact hm a ha⟩

theorem NetSent_walk (s : Slc) (xs : List ActT) (w : World) (hx : rowsR rdAct w s xs) (A : Nat → Addr) (hE0 : Errs A w) :
    Calls Tryd.prog fn_tidewaterlaw32_NetSent ⟨[s.v]⟩ w fun e w' => e = .returned (.bool true) ∧ Keep w w' := by
  have hsl := hx.1
  refine tidewaterlaw32_NetSent_ok _ ?_
  unfold tidewaterlaw32_NetSent
  refine (alive32_spec A w hE0).mono ?_
  rintro e w4 ⟨rfl, k4⟩
  refine ⟨_, rfl, BIf_mk (fun h => by cases h) (fun _ => ?_)⟩
  refine (long32_spec s xs w4 (rowsR_keep hx k4)).mono ?_
  rintro e w7 ⟨b, rfl, k7', hlong⟩
  have k7 := k4.trans k7'
  refine ⟨b, rfl, BIf_mk (fun _ => ⟨rfl, k7⟩) (fun hb => ?_)⟩
  obtain ⟨hxl, hxs⟩ := hlong hb
  refine (New_spec A _ 4 w7 (Errs.b (hE0.keep k7))).mono ?_
  rintro e w10 (⟨hh, _⟩ | ⟨_, _, r, q, rfl, hN, k10', hM, hF⟩)
  · omega
  have k10 := k7.trans k10'
  have hN : NetAt w10 r q (upN 4) [] 0 := hN
  have hlt := hN.lt
  have z7 := k7.size
  have z10 := k10'.size
  refine ⟨_, _, rfl, trivial, BIf_mk (fun h => by cases h) (fun _ => newS_mk (fun rm w13 hrm hbm k13 hs13 => ?_))⟩
  have B13 : SB w w13 r rm q [] [] ((0 : Nat) : Int) := ⟨hN.keep k13, MapAt.new hbm, k10.trans k13, fun x hx => by have := hM x hx; omega, by omega, fun hh => by have := hlt _ hh; omega, hF _⟩
  refine ⟨SentI w r rm xs.length, fun i _ => ((xs.length : Int) - i).toNat, ⟨0, q, [], [], 0, rfl, by omega, B13, trivial, by omega, by simp, List.Pairwise.nil, by simp⟩, ?_⟩
  rintro i w17 ⟨k, q, ms, al, nx, rfl, hk, B, hS, hnx, hml, hsrt, hlt⟩
  intros
  refine BIf_dec (fun h3 => ?_) (fun h3 => ⟨rfl, B.k⟩)
  have hkl : k < xs.length := by omega
  obtain ⟨a, ha, hrow, _, _⟩ := rdAct_get (rowsR_keep hx B.k) hkl
  obtain ⟨_, _, _, hb0, hi0⟩ := rdAct_get hx hkl
  have hxk := hxs _ (List.getElem_mem hkl)
  refine needSome_mk ha ⟨by omega, h3, _, _, _, _, _, by rw [show Int.toNat (k : Int) * 5 = k * 5 by omega]; exact hrow, ?_⟩
  generalize xs[k] = x at hrow hb0 hi0 hxk ⊢
  obtain ⟨kd, a1, a2, ⟨sb, bs⟩, so, l⟩ := x
  dsimp only at hb0 hi0 hxk ⊢
  refine var_mk (cs := [.int .i64 kd, .int .i64 a1, .int .i64 a2, sb.v, so.v]) rfl rfl (fun r161 w163 hr161 o163 k163 hs163 => ?_)
  have B163 := B.keep k163
  have hEq : ∀ {wx : World}, Keep w wx → ErrsB A wx.heap.size wx := fun hk => Errs.b (hE0.keep hk)
  have nlt := B.net.lt
  have nr : ∀ {q' : NetP} {wx : World}, NetTo r q q' w163 wx → ObjAt wx r161 [.int .i64 kd, .int .i64 a1, .int .i64 a2, sb.v, so.v] := fun hT => o163.ext hT.1.1 (fun hh => by have := nlt _ hh; omega)
  refine ⟨kd, o163.cell 0 (by simp), BIf_dec (fun h0 => ?_) (fun h0 => BIf_dec (fun h1 => ?_) (fun h1 => BIf_dec (fun h2 => ?_) (fun h2 => BIf_dec (fun h4 => ?_) (fun h4 => ?_))))⟩
  · -- Send
    refine ⟨a1, o163.cell 1 (by simp), a2, o163.cell 2 (by simp), sb, o163.cell 3 (by simp), ?_⟩
    refine (Send_spec A _ B163.net a1 a2 sb bs (bytesAt_keep hb0 B163.k) (by omega) (by omega) (hEq B163.k)).mono ?_
    intro e w169 hm
    cases hR : sendE (upN 4) a1 a2 bs with
    | some j =>
      rw [hR] at hm
      obtain ⟨rfl, k169⟩ := hm
      exact ⟨_, _, rfl, trivial, BIf_mk (fun h => by cases h) (fun _ => sentFin hxl (B163.keep k169) hS hkl (by omega) hml hsrt hlt)⟩
    | none =>
      rw [hR] at hm
      obtain ⟨rfl, q', hN', hT'⟩ := hm
      have B169 := B163.toNet hN' hT'
      have o169 := nr hT'
      have hl0 : lookL al (nx : Int) = none := sent_none hS (fun j hj => by have := hlt _ (List.getElem_mem hj); omega)
      obtain ⟨es, he1, he2⟩ := B169.map.get
      have hg := he2 (nx : Int)
      rw [hl0] at hg
      refine ⟨_, _, rfl, trivial, BIf_mk (fun _ => ⟨es, he1, .inl ⟨hg, var_mk (cs := msgC 0 0 0 ⟨none, 0, 0⟩) rfl rfl (fun r177 w179 hr177 o179 k179 hs179 => ?_)⟩⟩) (fun h => by cases h)⟩
      have B179 := B169.keep k179
      have o179' := o169.keep k179
      obtain ⟨es1, ck1, es2, ck2, p1, p2, p3⟩ := B179.map.put (nx : Int) ((nx : Int), a1, a2, sb)
      refine ⟨a1, o179'.cell 1 (by simp), a2, o179'.cell 2 (by simp), sb, o179'.cell 3 (by simp), rm, es1, ck1, es2, ck2, rfl, p1, p2, fun w188 hw188 => ?_⟩
      obtain ⟨g1, g2, g3⟩ := p3 w188 hw188
      have B188 := B179.toMap g1 g2
      rw [put_new hl0] at B188
      exact sentFin (nx := nx + 1) hxl (by exact_mod_cast B188) (sent_snoc (m := ((nx : Int), a1, a2, bs)) hb0 hS) hkl (by omega) (by simp; omega) (pair_snoc hsrt (fun m hm => hlt m hm)) (fun m hm => by
        rcases List.mem_append.1 hm with h5 | h5
        · have := hlt m h5; omega
        · rw [List.mem_singleton] at h5; subst h5; simp only; omega)
  · -- Deliver
    refine ⟨a1, o163.cell 1 (by simp), ?_⟩
    refine (Deliver_spec A _ B163.net a1 (by omega) (hEq B163.k) (Nat.le_refl _)).mono ?_
    rintro e w202 (⟨hn, rfl, k202⟩ | ⟨i, hi, hin, hrf, rfl, k202⟩ | ⟨i, hi, hin, hrf, s', q', rfl, hbs, hsf, hN', hT'⟩)
    · refine ⟨0, 0, 0, ⟨none, 0, 0⟩, _, rfl, var_mk (cs := msgC 0 0 0 ⟨none, 0, 0⟩) rfl rfl (fun r208 w210 hr208 o210 k210 hs210 => ?_)⟩
      have B210 := (B163.keep k202).keep k210
      have o1 := (o163.keep k202).keep k210
      obtain ⟨es, he1, he2⟩ := B210.map.get
      have hg := he2 a1
      rw [sent_none hS hn] at hg
      refine ⟨a1, o1.cell 1 (by simp), es, he1, .inl ⟨hg, var_mk (cs := msgC 0 0 0 ⟨none, 0, 0⟩) rfl rfl (fun r217 w219 hr217 o219 k219 hs219 => ⟨trivial, BIf_mk (fun h => by cases h) (fun _ => ⟨trivial, BIf_mk (fun h => by cases h) (fun _ => sentFin hxl (B210.keep k219) hS hkl (by omega) hml hsrt hlt)⟩)⟩)⟩⟩
    · refine ⟨0, 0, 0, ⟨none, 0, 0⟩, _, rfl, var_mk (cs := msgC 0 0 0 ⟨none, 0, 0⟩) rfl rfl (fun r208 w210 hr208 o210 k210 hs210 => ?_)⟩
      have B210 := (B163.keep k202).keep k210
      have o1 := (o163.keep k202).keep k210
      obtain ⟨es, he1, he2⟩ := B210.map.get
      have hg := he2 a1
      obtain ⟨⟨sm, hlk, hbm⟩, hdel⟩ := sent_some hS hsrt hi hin
      rw [hlk] at hg
      refine ⟨a1, o1.cell 1 (by simp), es, he1, .inr ⟨_, _, _, sm, hg, var_mk (cs := msgC _ _ _ sm) rfl rfl (fun r217 w219 hr217 o219 k219 hs219 => ⟨trivial, BIf_mk (fun h => by cases h) (fun _ => ⟨trivial, BIf_mk (fun h => by cases h) (fun _ => sentFin hxl (B210.keep k219) hS hkl (by omega) hml hsrt hlt)⟩)⟩)⟩⟩
    · refine ⟨_, _, _, s', _, rfl, var_mk (cs := msgC ms[i].1 ms[i].2.1 ms[i].2.2.1 s') rfl rfl (fun r208 w210 hr208 o210 k210 hs210 => ?_)⟩
      have B210 := (B163.toNet hN' hT').keep k210
      have o1 := (nr hT').keep k210
      obtain ⟨es, he1, he2⟩ := B210.map.get
      have hg := he2 a1
      obtain ⟨⟨sm, hlk, hbm⟩, hdel⟩ := sent_some hS hsrt hi hin
      rw [hlk] at hg
      refine ⟨a1, o1.cell 1 (by simp), es, he1, .inr ⟨_, _, _, sm, hg, var_mk (cs := msgC ms[i].1 ms[i].2.1 ms[i].2.2.1 sm) rfl rfl (fun r217 w219 hr217 o219 k219 hs219 => ?_)⟩⟩
      have B219 := B210.keep k219
      have o2 := o210.keep k219
      refine ⟨trivial, BIf_mk (fun _ => ?_) (fun h => by cases h)⟩
      refine ⟨_, o2.cell 1 (by simp [msgC]), _, o219.cell 1 (by simp [msgC]), BIf_ndec (fun hh => absurd rfl hh) (fun _ => ?_)⟩
      refine ⟨_, o2.cell 2 (by simp [msgC]), _, o219.cell 2 (by simp [msgC]), BIf_ndec (fun hh => absurd rfl hh) (fun _ => ?_)⟩
      refine ⟨s', o2.cell 3 (by simp [msgC]), _, bytesAt_keep (bytesAt_keep hbs k210) k219, sm, o219.cell 3 (by simp [msgC]), _, bytesAt_keep hbm B219.k, BIf_ndec (fun hh => absurd rfl hh) (fun _ => ?_)⟩
      refine ⟨trivial, BIf_mk (fun _ => ?_) (fun h => by cases h)⟩
      obtain ⟨es1, ck1, es2, p1, p2, p3⟩ := B219.map.del a1
      refine ⟨a1, (o1.keep k219).cell 1 (by simp), rm, es1, ck1, es2, rfl, p1, p2, fun w250 hw250 => ?_⟩
      obtain ⟨g1, g2, g3⟩ := p3 w250 hw250
      have hel : (ms.eraseIdx i).length = ms.length - 1 := List.length_eraseIdx_of_lt hi
      exact sentFin hxl (B219.toMap g1 g2) hdel hkl (by omega) (by omega) (hsrt.sublist (List.eraseIdx_sublist _ _)) (fun m hm => hlt m (List.mem_of_mem_eraseIdx hm))
  · -- Drop
    refine ⟨a1, o163.cell 1 (by simp), ?_⟩
    refine (Drop_spec A _ B163.net a1 (by omega) (hEq B163.k)).mono ?_
    rintro e w275 (⟨hn, rfl, k275⟩ | ⟨i, hi, hin, rfl, q', hN', hT'⟩)
    · exact ⟨_, rfl, trivial, BIf_mk (fun h => by cases h) (fun _ => sentFin hxl (B163.keep k275) hS hkl (by omega) hml hsrt hlt)⟩
    · have B275 := B163.toNet hN' hT'
      have o1 := nr hT'
      obtain ⟨_, hdel⟩ := sent_some hS hsrt hi hin
      obtain ⟨es1, ck1, es2, p1, p2, p3⟩ := B275.map.del a1
      refine ⟨_, rfl, trivial, BIf_mk (fun _ => ⟨a1, o1.cell 1 (by simp), rm, es1, ck1, es2, rfl, p1, p2, fun w282 hw282 => ?_⟩) (fun h => by cases h)⟩
      obtain ⟨g1, g2, g3⟩ := p3 w282 hw282
      have hel : (ms.eraseIdx i).length = ms.length - 1 := List.length_eraseIdx_of_lt hi
      exact sentFin hxl (B275.toMap g1 g2) hdel hkl (by omega) (by omega) (hsrt.sublist (List.eraseIdx_sublist _ _)) (fun m hm => hlt m (List.mem_of_mem_eraseIdx hm))
  · -- Double
    refine ⟨a1, o163.cell 1 (by simp), ?_⟩
    refine (Double_spec A _ B163.net a1 (by omega) (by omega) (hEq B163.k)).mono ?_
    rintro e w293 (⟨hn, rfl, k293⟩ | ⟨i, hi, hin, rfl, q', hN', hT'⟩)
    · exact ⟨_, _, rfl, trivial, BIf_mk (fun h => by cases h) (fun _ => sentFin hxl (B163.keep k293) hS hkl (by omega) hml hsrt hlt)⟩
    · have B293 := B163.toNet hN' hT'
      have o1 := nr hT'
      obtain ⟨es, he1, he2⟩ := B293.map.get
      have hg := he2 a1
      obtain ⟨⟨sm, hlk, hbm⟩, _⟩ := sent_some hS hsrt hi hin
      rw [hlk] at hg
      have hl0 : lookL al (nx : Int) = none := sent_none hS (fun j hj => by have := hlt _ (List.getElem_mem hj); omega)
      refine ⟨_, _, rfl, trivial, BIf_mk (fun _ => ⟨a1, o1.cell 1 (by simp), es, he1, .inr ⟨_, _, _, sm, hg, var_mk (cs := msgC ms[i].1 ms[i].2.1 ms[i].2.2.1 sm) rfl rfl (fun r320 w322 hr320 o322 k322 hs322 => ?_)⟩⟩) (fun h => by cases h)⟩
      obtain ⟨cw, g⟩ := o322.setOne 0 (by simp [msgC]) (.int .i64 (nx : Int))
      refine ⟨cw, fun w323 hw323 => ?_⟩
      obtain ⟨o323, e323, z323⟩ := g w323 hw323
      have z293 := hT'.1.1.size
      have k323 : Keep w293 w323 := k322.step (by omega) e323
      have B323 := B293.keep k323
      obtain ⟨es1, ck1, es2, ck2, p1, p2, p3⟩ := B323.map.put (nx : Int) ((nx : Int), ms[i].2.1, ms[i].2.2.1, sm)
      refine ⟨(nx : Int), _, _, sm, o323.row, rm, es1, ck1, es2, ck2, rfl, p1, p2, fun w333 hw333 => ?_⟩
      obtain ⟨g1, g2, g3⟩ := p3 w333 hw333
      have B333 := B323.toMap g1 g2
      rw [put_new hl0] at B333
      exact sentFin (nx := nx + 1) hxl (by exact_mod_cast B333) (sent_snoc (m := ((nx : Int), ms[i].2)) hbm hS) hkl (by omega) (by simp; omega) (pair_snoc hsrt (fun m hm => hlt m hm)) (fun m hm => by
        rcases List.mem_append.1 hm with h5 | h5
        · have := hlt m h5; omega
        · rw [List.mem_singleton] at h5; subst h5; simp only; omega)
  · exact sentFin hxl B163 hS hkl (by omega) hml hsrt hlt
end Go.D
