/-
  WHAT IS PROVED: contracts of functions, and the plain law, for this proof. No further conditions.
-/
import Derived.Test.YtmfdpgjnmdlajaaDoorOrder8
set_option linter.unusedVariables false
set_option linter.unusedSimpArgs false
set_option maxRecDepth 8000
namespace Go.D
open Go Go.Proofs

theorem own_evs {w : World} {s : Slc} {L : List Ev} (h : Own w s 7 (L.flatMap evC)) : s.l = L.length := by
  have := h.1
  rw [flat_len evC 7 evC_len] at this; omega
theorem snocE {T : TypeId} {w0 w1 : World} {seen : Slc} {L : List Ev} {e : Ev} {K : Slc → World → Prop} (ho : Own w1 seen 7 (L.flatMap evC)) (hf : Fresh w0 seen) (hz : w0.heap.size ≤ w1.heap.size) (hl : L.length ≤ 2 ^ 20)
    (h : ∀ s' w', Own w' s' 7 ((L ++ [e]).flatMap evC) → Fresh w0 s' → Ext (ownB seen) w1 w' → K s' w') :
    newS w1 (.cells ⟨evC e⟩ T) fun r w2 => appendS 7 T [(Value.int .i64 (0 : Int)), (Value.int .i64 (0 : Int)), (Value.int .i64 (0 : Int)), (strV ([] : List UInt8)), (strV ([] : List UInt8)), (strV ([] : List UInt8)), (Value.bool false)] w2 seen (.slc (⟨(some (⟨r, 0, none⟩ : Addr)), 1, 1⟩ : Slc)) K := by
  refine newS_mk (fun r58 w59 hr58 hb58 k58 hs58 => ?_)
  have hb58' : Own w59 ⟨some ⟨r58, 0, none⟩, 1, 1⟩ 7 (evC e) := Own.new (sz := 7) (n := 1) hb58 (.inl (by simp)) rfl
  have hol := own_evs ho
  refine appendS_own (ho.keep k58) (by omega) rfl (srcAt_slc hb58'.cells rfl) (fun v hv => by simp [evC] at hv; rcases hv with rfl | rfl | rfl | rfl | rfl | rfl | rfl <;> rfl) (by simp only [Src.n]; omega) (fun s' w' g1 g2 g3 g4 => ?_)
  have z58 := k58.size
  refine h s' w' ?_ (fun j hj => (g3 j hj).elim (fun h => hf j h) (fun h => by omega)) (Ext.trans k58 g2 (fun _ h => h.elim) (fun j hj => .inl hj))
  rw [List.flatMap_append]
  simpa using g1

theorem OrderLimits_walk (n0 : Int) (w : World) (A : Nat → Addr) (hE0 : Errs A w) :
    Calls Tryd.prog fn_tidewaterlaw35_OrderLimits ⟨[.int .i64 n0]⟩ w fun e w' => e = .returned (.bool true) ∧ Keep w w' := by
  have hE := hE0.b
  have hG := hE.g.sub (H := ordG) (by decide)
  refine tidewaterlaw35_OrderLimits_ok _ ?_
  unfold tidewaterlaw35_OrderLimits
  refine (alive35_spec A w hE0).mono ?_
  rintro e w3 ⟨rfl, k3⟩
  have hwr : 0 ≤ IntKind.wrap .u64 n0 := by
    simp [IntKind.wrap, IntKind.signed, IntKind.bits]; omega
  generalize IntKind.wrap .u64 n0 = u at hwr
  have hwi : IntKind.wrap .i64 (u % 20) = u % 20 := wrap_inR (inR64 (by omega))
  rw [hwi]
  obtain ⟨n, hn⟩ : ∃ n : Nat, u % 20 = n := ⟨(u % 20).toNat, by omega⟩
  have hn20 : n < 20 := by omega
  rw [hn]
  refine ⟨_, rfl, BIf_mk (fun h => by cases h) (fun _ => ⟨hwr, by omega, newS_mk (fun r5 w6 hr5 hb5 k5 hs5 => ?_)⟩)⟩
  refine ⟨fun list i w2 => ∃ (k : Nat) (M : List Ev), i = k ∧ k ≤ n ∧ M.length = k ∧ SeenOk M ∧ (∀ e ∈ M, e.kind = 1) ∧ Own w2 list 7 (M.flatMap evC) ∧ Fresh w list ∧ Keep w w2, fun _ i _ => ((n : Int) - i).toNat,
    ⟨0, [], rfl, by omega, rfl, SeenOk.nil, fun e h => by simp at h, Own.new (sz := 7) (n := 0) hb5 (.inl (by simp)) rfl, Fresh.at (by have := k3.size; omega), k3.trans k5⟩, ?_⟩
  rintro list i w11 ⟨k, M, rfl, hk, hM, hs, hk1, ho, hf, k11⟩
  intros
  refine BIf_dec (fun h1 => ?_) (fun h1 => ?_)
  · refine snocE (e := ⟨k, k, 1, [97], [], [], false⟩) ho hf k11.size (by omega) (fun s' w' g1 g2 g3 => ?_)
    refine ⟨inR64 (by omega), ⟨k + 1, _, rfl, by omega, by simp [hM], hs.snoc (by simp [hM]) (by simp [hM]) ⟨by simp, by simp⟩ rfl, ?_, g1, g2, k11.ext g3 (fun j hj => hf j hj)⟩, by first | (dsimp only; omega) | omega⟩
    intro e he
    rcases List.mem_append.1 he with h | h
    · exact hk1 e h
    · simp at h; subst h; rfl
  · have hkn : k = n := by omega
    subst hkn
    have hev := EvAt.own ho
    refine (Find_spec35 A list M w11 hev (by omega) (hG.keep k11)).mono ?_
    rintro x w27 ⟨k27, hres⟩
    have kk := k11.trans k27
    by_cases h12 : 12 < k
    · have hp : findP M = .error 2 := by unfold findP; rw [if_pos (by omega)]
      rw [hp] at hres
      simp only at hres
      subst hres
      refine ⟨_, _, rfl, BIf_dec (fun _ => BIf_dec (fun _ => ?_) (fun h => absurd rfl h)) (fun h => absurd (by omega) h)⟩
      refine (Num_spec A 2 (by omega) w27 (hE.keep kk).1).mono ?_
      rintro e w31 ⟨rfl, k31⟩
      refine ⟨_, rfl, BIf_dec (fun _ => ?_) (fun h => absurd rfl h)⟩
      have kk31 := kk.trans k31
      refine (Most_spec35 A list M w31 (hev.keep (k27.trans k31)) (by omega) (hG.keep kk31)).mono ?_
      rintro e w34 ⟨r, m, rfl, hst, hrm, _, hno, k34⟩
      refine ⟨_, rfl, ?_, kk31.trans k34⟩
      have := hs.most hst hrm hno
      rw [decide_eq_true (by omega)]
    · obtain ⟨o, hp⟩ := hs.find (by omega)
      rw [hp] at hres
      obtain ⟨t, rfl, ht, _⟩ := hres
      have hol := (findP_ok hp).1
      have htl : t.l = o.length := by have := ht.1; simpa using this
      refine ⟨_, _, rfl, BIf_dec (fun h => absurd h (by omega)) (fun _ => ⟨trivial, BIf_mk (fun _ => BIf_dec (fun _ => ?_) (fun h => absurd (by omega) h)) (fun h => by cases h)⟩)⟩
      refine (Most_spec35 A list M w27 (hev.keep k27) (by omega) (hG.keep kk)).mono ?_
      rintro e w37 ⟨r, m, rfl, hst, hrm, _, hno, k37⟩
      refine ⟨_, rfl, ?_, kk.trans k37⟩
      have := hs.most hst hrm hno
      rw [decide_eq_true (by omega)]

theorem OrderSeen_walk (s : Slc) (xs : List EvT) (w : World) (hx : rowsR rdEv w s xs) (A : Nat → Addr) (hE0 : Errs A w) :
    Calls Tryd.prog fn_tidewaterlaw35_OrderSeen ⟨[s.v]⟩ w fun e w' => e = .returned (.bool true) ∧ Keep w w' := by
  have hE := hE0.b
  have hG := hE.g.sub (H := ordG) (by decide)
  have h := EvAt.rows hx
  generalize xs.map evOf = L at h
  have hsl := h.1
  refine tidewaterlaw35_OrderSeen_ok _ ?_
  unfold tidewaterlaw35_OrderSeen
  refine (alive35_spec A w hE0).mono ?_
  rintro e w3 ⟨rfl, k3⟩
  refine ⟨_, rfl, BIf_mk (fun h => by cases h) (fun _ => ?_)⟩
  refine (of_spec s L 12 w3 (h.keep k3) (by omega)).mono ?_
  rintro e w6 ⟨t0, b, rfl, k6, hb⟩
  have k36 := k3.trans k6
  refine ⟨_, _, rfl, BIf_mk (fun _ => ⟨rfl, k36⟩) (fun hb1 => ?_)⟩
  obtain ⟨hl, _, _⟩ := hb (by simpa using hb1)
  refine newS_mk (fun r9 w10 hr9 hb9 k9 hs9 => newS_mk (fun r11 w12 hr11 hb11 k11 hs11 => ?_))
  have z36 := k36.size
  have z9 := k9.size
  have k12 := (k36.trans k9).trans k11
  refine ⟨fun seen i w2 => ∃ (k : Nat) (M : List Ev), i = k ∧ k ≤ L.length ∧ M.length = k ∧ SeenOk M ∧ Own w2 seen 7 (M.flatMap evC) ∧ Fresh w10 seen ∧ MapAt MO w2 r9 (tabN M k) ∧ Keep w w2 ∧ w12.heap.size ≤ w2.heap.size, fun _ i _ => ((L.length : Int) - i).toNat,
    ⟨0, [], rfl, by omega, rfl, SeenOk.nil, Own.new (sz := 7) (n := 0) hb11 (.inl (by simp)) rfl, Fresh.at (by omega), (MapAt.new hb9).keep k11, k12, Nat.le_refl _⟩, ?_⟩
  rintro seen i w17 ⟨k, M, rfl, hk, hM, hs, ho, hf, hm, k17, z17⟩
  intros
  refine BIf_dec (fun h1 => ?_) (fun h1 => ?_)
  · have hkl : k < L.length := by omega
    obtain ⟨a, _, ha, hrow⟩ := (h.keep k17).row (n := (k : Int)) (by omega) (by omega)
    refine needSome_mk ha ⟨by omega, h1, _, _, _, _, _, _, _, hrow, ?_⟩
    simp only [Int.toNat_natCast]
    generalize L[k] = e0
    refine var_mk (cs := evC e0) rfl rfl (fun r w104 hr o104 k104 hs104 => ?_)
    have hwr : 0 ≤ IntKind.wrap .u64 e0.b := by
      simp [IntKind.wrap, IntKind.signed, IntKind.bits]; omega
    have hwk : 0 ≤ IntKind.wrap .u64 e0.kind := by
      simp [IntKind.wrap, IntKind.signed, IntKind.bits]; omega
    refine ⟨_, o104.cell 0 (by simp [evC]), ?_⟩
    generalize hu : IntKind.wrap .u64 e0.b = u at hwr
    generalize hv : IntKind.wrap .u64 e0.kind = v at hwk
    have hwi : IntKind.wrap .i64 (u % 3) = u % 3 := wrap_inR (inR64 (by omega))
    have hwj : IntKind.wrap .i64 (v % 4) = v % 4 := wrap_inR (inR64 (by omega))
    rw [hwi]
    obtain ⟨b', hb'⟩ : ∃ b' : Int, b' = if (k : Int) - u % 3 > 0 then (k : Int) - u % 3 else 0 := ⟨_, rfl⟩
    rw [← hb']
    have hbk : b' ≤ k := by rw [hb']; split <;> omega
    obtain ⟨c1, c2⟩ := o104.setOne 0 (by simp [evC]) (.int .i64 b')
    refine ⟨hwr, by omega, inR64 (by omega), c1, fun w106 hw106 => ?_⟩
    obtain ⟨o106, x106, z106⟩ := c2 w106 hw106
    obtain ⟨c3, c4⟩ := o106.setOne 1 (by simp [evC]) (.int .i64 (k : Int))
    refine ⟨c3, fun w107 hw107 => ?_⟩
    obtain ⟨o107, x107, z107⟩ := c4 w107 hw107
    have x17 : Ext (fun j => j = r) w17 w107 := (Ext.trans k104 x106 (fun _ h => h.elim) (fun _ h => .inl h)).trans x107 (fun _ h => h) (fun _ h => .inl h)
    have z104 := k104.size
    obtain ⟨e1, he1⟩ : ∃ e1 : Ev, e1 = { e0 with b := b', en := (k : Int) } := ⟨_, rfl⟩
    have o1 : ObjAt w107 r (evC e1) := by rw [he1]; exact o107
    have hkind : e1.kind = e0.kind := by rw [he1]
    have hb1' : e1.b ≤ k := by rw [he1]; exact hbk
    have hen1 : e1.en = k := by rw [he1]
    have hrr : r9 ≠ r := by omega
    have hm107 : MapAt MO w107 r9 (tabN M k) := hm.ext x17 hrr
    clear o104 o106 o107 he1
    generalize ht : tabN M k = t at hm107
    have hol := own_evs ho
    -- the end of a step
    have fin : ∀ {T : TypeId} {w2 : World} {e : Ev}, ObjAt w2 r (evC e) → MapAt MO w2 r9 (doB e t).2 → Ext (fun j => j = r ∨ j = r9) w17 w2 → (doB e t).1 = true → e.en = k → e.b ≤ k → (1 ≤ e.kind ∧ e.kind ≤ 4) →
        newS w2 (.cells ⟨evC e⟩ T) fun r w2 => appendS 7 T [(Value.int .i64 (0 : Int)), (Value.int .i64 (0 : Int)), (Value.int .i64 (0 : Int)), (strV ([] : List UInt8)), (strV ([] : List UInt8)), (strV ([] : List UInt8)), (Value.bool false)] w2 seen (.slc (⟨(some (⟨r, 0, none⟩ : Addr)), 1, 1⟩ : Slc)) fun s3 w3 =>
          inR .i64 ((k : Int) + 1) ∧ (∃ (k2 : Nat) (M : List Ev), ((k : Int) + 1) = k2 ∧ k2 ≤ L.length ∧ M.length = k2 ∧ SeenOk M ∧ Own w3 s3 7 (M.flatMap evC) ∧ Fresh w10 s3 ∧ MapAt MO w3 r9 (tabN M k2) ∧ Keep w w3 ∧ w12.heap.size ≤ w3.heap.size) ∧ ((L.length : Int) - ((k : Int) + 1)).toNat < ((L.length : Int) - (k : Int)).toNat := by
      intro T w2 e q1 q2 q3 q4 q5 q6 q7
      have z2 := q3.size
      have hown : ∀ j, ownB seen j → ¬ (j = r ∨ j = r9) := by
        intro j hj
        have h1 := hf j hj
        have h2 := OwnLt ho j hj
        omega
      have kw2 : Keep w w2 := k17.ext q3 (fun j hj => by omega)
      refine snocE (e := e) (ho.ext q3 hown) hf (by omega) (by omega) (fun s' w' g1 g2 g3 => ?_)
      have hz3 := g3.size
      refine ⟨inR64 (by omega), ⟨k + 1, M ++ [e], rfl, hkl, by simp [hM], hs.snoc (by omega) (by omega) q7 (by rw [hM, ht]; exact q4), g1, g2, ?_, kw2.ext g3 (fun j hj => by have := hf j hj; omega), by omega⟩, by omega⟩
      rw [← hM, tabN_all, hM, ht]
      exact q2.ext g3 (fun hh => by have := hf _ hh; omega)
    have x17' : Ext (fun j => j = r ∨ j = r9) w17 w107 := x17.mono (fun _ h => .inl h)
    obtain ⟨es, hes, hget⟩ := hm107.get
    obtain ⟨q, hq⟩ : ∃ q : Option (List UInt8), lookL t e1.key = q := ⟨_, rfl⟩
    have hg : mapGet .string (strV e1.key) es = some (Option.map (Sh.v Sh.str) q) := by rw [← hq]; exact hget e1.key
    refine ⟨_, o1.cell 3 (by simp [evC]), es, hes, q, hg, _, o1.cell 2 (by simp [evC]), ?_⟩
    rw [hkind, hv, hwj]
    have put : ∀ {w2 : World} {e : Ev} (KK : World → Prop), ObjAt w2 r (evC e) → MapAt MO w2 r9 t → Ext (fun j => j = r ∨ j = r9) w17 w2 → (∀ w3, ObjAt w3 r (evC e) → MapAt MO w3 r9 (putL t e.key e.val) → Ext (fun j => j = r ∨ j = r9) w17 w3 → KK w3) →
        ∃ (mb17 : Nat) (es18 : Array MapEntry) (ck19 : Nat) (es20 : Array MapEntry) (ck21 : Nat), some r9 = some mb17 ∧ (World.heap (w2))[mb17]? = some (.map es18 ck19) ∧ mapPut .string (strV e.key) (strV e.val) es18 ck19 = some (es20, ck21) ∧ ∀ w22 : World, w22 = setObjW w2 mb17 (.map es20 ck21) → KK w22 := by
      intro w2 e KK q1 q2 q3 hK
      obtain ⟨es, ck, es', ck', g1, g2, g3⟩ := q2.put e.key e.val
      refine ⟨r9, es, ck, es', ck', rfl, g1, g2, fun w1 hw1 => ?_⟩
      obtain ⟨g4, g5, _⟩ := g3 w1 hw1
      exact hK w1 (q1.ext g5 (fun hh => hrr hh.symm)) g4 (q3.trans g5 (fun _ h => h) (fun _ h => .inl (.inr h)))
    have upd : ∀ {w2 : World} {cs : List Value} {e : Ev} (n : Nat) (v : Value) (KK : World → Prop), n < cs.length → ObjAt w2 r cs → MapAt MO w2 r9 t → Ext (fun j => j = r ∨ j = r9) w17 w2 → cs.set n v = evC e → (∀ w3, ObjAt w3 r (evC e) → MapAt MO w3 r9 t → Ext (fun j => j = r ∨ j = r9) w17 w3 → KK w3) →
        canW w2 (⟨r, n, none⟩ : Addr) 1 ∧ ∀ w3 : World, w3 = World.setCell w2 (⟨r, n, none⟩ : Addr) v → KK w3 := by
      intro w2 cs e n v KK hn q1 q2 q3 q4 hK
      obtain ⟨g1, g2⟩ := q1.setOne n hn v
      refine ⟨g1, fun w3 hw3 => ?_⟩
      obtain ⟨g3, g4, g5⟩ := g2 w3 hw3
      exact hK w3 (q4 ▸ g3) (q2.ext g4 hrr) (q3.trans g4 (fun _ h => h) (fun _ h => .inl (.inl h)))
    refine ⟨by omega, by omega, inR64 (by omega), BIf_dec (fun h2 => ?_) (fun h2 => BIf_dec (fun h3 => ?_) (fun h3 => BIf_dec (fun h4 => ?_) (fun h4 => ?_)))⟩
    · refine upd (e := { e1 with kind := 1 }) 2 _ _ (by simp [evC]) o1 hm107 x17' rfl (fun w112 o112 m112 x112 => ?_)
      refine ⟨_, o112.cell 3 (by simp [evC]), _, o112.cell 4 (by simp [evC]), put _ o112 m112 x112 (fun w120 o120 m120 x120 => ⟨_, _, _, _, _, _, _, o120.row, ?_⟩)⟩
      exact fin o120 m120 x120 rfl hen1 hb1' ⟨by simp, by simp⟩
    · refine upd (e := { e1 with kind := 2 }) 2 _ _ (by simp [evC]) o1 hm107 x17' rfl (fun w132 o132 m132 x132 => ?_)
      refine upd (e := { e1 with kind := 2, yes := q.isSome }) 6 _ _ (by simp [evC]) o132 m132 x132 rfl (fun w133 o133 m133 x133 => ?_)
      obtain ⟨es2, ck, es', g1, g2, g3⟩ := m133.del e1.key
      refine ⟨_, o133.cell 3 (by simp [evC]), r9, es2, ck, es', rfl, g1, g2, fun w139 hw139 => ?_⟩
      obtain ⟨g4, g5, _⟩ := g3 w139 hw139
      refine ⟨_, _, _, _, _, _, _, (o133.ext g5 (fun hh => hrr hh.symm)).row, ?_⟩
      refine fin (e := { e1 with kind := 2, yes := q.isSome }) (o133.ext g5 (fun hh => hrr hh.symm)) g4 (x133.trans g5 (fun _ h => h) (fun _ h => .inl (.inr h))) ?_ hen1 hb1' ⟨by simp, by simp⟩
      simp [doB, hq]
    · -- swaps
      have sw : ∀ {w3 : World} {y : Bool}, y = doneB e1 t → ObjAt w3 r (evC { e1 with kind := 3, yes := y }) → MapAt MO w3 r9 t → Ext (fun j => j = r ∨ j = r9) w17 w3 → (doB { e1 with kind := 3, yes := y } t).1 = true ∧ (doB { e1 with kind := 3, yes := y } t).2 = if y then putL t e1.key e1.val else t := by
        intro w3 y hy _ _ _
        subst hy
        constructor
        · simp [doB, doneB]
        · simp [doB, doneB]
      refine BIf_mk (fun h5 => ?_) (fun h5 => ?_)
      · refine ⟨_, o1.cell 5 (by simp [evC]), ?_⟩
        refine upd (e := { e1 with kind := 3 }) 2 _ _ (by simp [evC]) o1 hm107 x17' rfl (fun w152 o152 m152 x152 => ?_)
        refine upd (e := { e1 with kind := 3, yes := decide (q.getD [] = e1.old) }) 6 _ _ (by simp [evC]) o152 m152 x152 rfl (fun w153 o153 m153 x153 => ?_)
        have hy : decide (q.getD [] = e1.old) = doneB e1 t := by unfold doneB; rw [hq, h5]; rfl
        obtain ⟨d1, d2⟩ := sw hy o153 m153 x153
        refine ⟨_, o153.cell 6 (by simp [evC]), BIf_mk (fun h6 => ?_) (fun h6 => ?_)⟩
        · refine ⟨_, o153.cell 3 (by simp [evC]), _, o153.cell 4 (by simp [evC]), put _ o153 m153 x153 (fun w162 o162 m162 x162 => ⟨_, _, _, _, _, _, _, o162.row, ?_⟩)⟩
          exact fin o162 (by rw [d2, if_pos h6]; exact m162) x162 d1 hen1 hb1' ⟨by simp, by simp⟩
        · exact ⟨_, _, _, _, _, _, _, o153.row, fin o153 (by rw [d2]; have h7 : decide (q.getD [] = e1.old) = false := h6; rw [h7]; exact m153) x153 d1 hen1 hb1' ⟨by simp, by simp⟩⟩
      · refine upd (e := { e1 with kind := 3 }) 2 _ _ (by simp [evC]) o1 hm107 x17' rfl (fun w185 o185 m185 x185 => ?_)
        refine upd (e := { e1 with kind := 3, yes := false }) 6 _ _ (by simp [evC]) o185 m185 x185 rfl (fun w186 o186 m186 x186 => ?_)
        have hy : false = doneB e1 t := by unfold doneB; rw [hq, h5]; rfl
        obtain ⟨d1, d2⟩ := sw hy o186 m186 x186
        refine ⟨_, o186.cell 6 (by simp [evC]), BIf_mk (fun h6 => by cases h6) (fun h6 => ?_)⟩
        exact ⟨_, _, _, _, _, _, _, o186.row, fin o186 (by rw [d2]; exact m186) x186 d1 hen1 hb1' ⟨by simp, by simp⟩⟩
    · refine upd (e := { e1 with kind := 4 }) 2 _ _ (by simp [evC]) o1 hm107 x17' rfl (fun w218 o218 m218 x218 => ?_)
      refine upd (e := { e1 with kind := 4, yes := q.isSome }) 6 _ _ (by simp [evC]) o218 m218 x218 rfl (fun w219 o219 m219 x219 => ?_)
      refine upd (e := { e1 with kind := 4, yes := q.isSome, val := q.getD [] }) 4 _ _ (by simp [evC]) o219 m219 x219 rfl (fun w220 o220 m220 x220 => ?_)
      refine ⟨_, _, _, _, _, _, _, o220.row, fin o220 (by simpa [doB] using m220) x220 ?_ hen1 hb1' ⟨by simp, by simp⟩⟩
      simp [doB, hq]
  · have hkn : k = L.length := by omega
    have hev := EvAt.own ho
    have hol := own_evs ho
    refine (Find_spec35 A seen M w17 hev (by omega) (hG.keep k17)).mono ?_
    rintro x w27 ⟨k27, hres⟩
    have kk := k17.trans k27
    obtain ⟨o, hp⟩ := hs.find (by omega)
    rw [hp] at hres
    obtain ⟨t, rfl, ht, _⟩ := hres
    obtain ⟨hol2, hck⟩ := findP_ok hp
    refine ⟨_, _, rfl, trivial, BIf_mk (fun _ => ?_) (fun h => by cases h)⟩
    refine (Check_spec seen t M o w27 (hev.keep k27) ht.ints (ht.le (by omega)) (by omega)).mono ?_
    rintro x w37 ⟨rfl, k37⟩
    rw [hck]
    refine ⟨_, rfl, BIf_mk (fun _ => ?_) (fun h => by cases h)⟩
    refine (Most_spec35 A seen M w37 (hev.keep (k27.trans k37)) (by omega) (hG.keep (kk.trans k37))).mono ?_
    rintro e w40 ⟨r, m, rfl, hst, hrm, _, hno, k40⟩
    refine ⟨_, rfl, ?_, (kk.trans k37).trans k40⟩
    have := hs.most hst hrm hno
    rw [decide_eq_true (by omega)]
end Go.D
