/-
  WHAT IS PROVED: contracts of functions, and the plain law, for this proof. No further conditions.
-/
import Derived.Test.YtaagbjbgaockdaaDoorNetL
set_option linter.unusedVariables false
set_option linter.unusedSimpArgs false
namespace Go.D
open Go Go.Proofs

/-- A network and its model, apart from each other and from all that was. -/
structure Both (w0 w : World) (r rr : Nat) (q : NetP) (p : RefP) (ns nsR : List (Bool × Bool)) (ms : List Msg) (nx : Int) (all : List Rmsg) : Prop where
  k : Keep w0 w
  net : NetAt w r q ns ms nx
  ref : RefAt w rr p nsR all
  s1 : ∀ k, NetM r q k → ¬ RefM rr p k
  s2 : ∀ k, NetF q k → ¬ RefM rr p k
  s3 : ∀ k, RefF p k → ¬ NetM r q k
  b1 : ∀ k, NetM r q k → w0.heap.size ≤ k
  b2 : ∀ k, RefM rr p k → w0.heap.size ≤ k
variable {w0 w w' : World} {r rr : Nat} {q q' : NetP} {p p' : RefP} {ns ns' nsR nsR' : List (Bool × Bool)} {ms ms' : List Msg} {nx nx' : Int} {all all' : List Rmsg}
theorem Both.keep (h : Both w0 w r rr q p ns nsR ms nx all) (he : Keep w w') : Both w0 w' r rr q p ns nsR ms nx all := ⟨h.k.trans he, h.net.keep he, h.ref.keep he, h.s1, h.s2, h.s3, h.b1, h.b2⟩
theorem Both.toNet (h : Both w0 w r rr q p ns nsR ms nx all) (hN : NetAt w' r q' ns' ms' nx') (hT : NetTo r q q' w w') : Both w0 w' r rr q' p ns' nsR ms' nx' all := by
  have hlt := h.ref.lt
  have hfl := h.ref.flt
  have hz := h.k.size
  refine ⟨h.k.ext hT.1.1 h.b1, hN, h.ref.ext hT.1.1 (fun k hk hh => h.s1 k hh hk) (fun k hk hh => h.s3 k hk hh), fun k hk hh => ?_, fun k hk hh => ?_, fun k hk hh => ?_, fun k hk => ?_, h.b2⟩
  · rcases hT.1.2 k hk with h1 | h1
    · exact h.s1 k h1 hh
    · have := hlt k hh; omega
  · rcases hT.2 k hk with h1 | h1
    · exact h.s2 k h1 hh
    · have := hlt k hh; omega
  · rcases hT.1.2 k hh with h1 | h1
    · exact h.s3 k hk h1
    · have := hfl k hk; omega
  · rcases hT.1.2 k hk with h1 | h1
    · exact h.b1 k h1
    · omega
theorem Both.toRef (h : Both w0 w r rr q p ns nsR ms nx all) (hN : RefAt w' rr p' nsR' all') (hT : RefTo rr p p' w w') : Both w0 w' r rr q p' ns nsR' ms nx all' := by
  have hlt := h.net.lt
  have hfl := h.net.flt
  have hz := h.k.size
  refine ⟨h.k.ext hT.1.1 h.b2, h.net.ext hT.1.1 (fun k hk hh => h.s1 k hk hh) (fun k hk hh => h.s2 k hk hh), hN, fun k hk hh => ?_, fun k hk hh => ?_, fun k hk hh => ?_, h.b1, fun k hk => ?_⟩
  · rcases hT.1.2 k hh with h1 | h1
    · exact h.s1 k hk h1
    · have := hlt k hk; omega
  · rcases hT.1.2 k hh with h1 | h1
    · exact h.s2 k hk h1
    · have := hfl k hk; omega
  · rcases hT.2 k hk with h1 | h1
    · exact h.s3 k h1 hh
    · have := hlt k hh; omega
  · rcases hT.1.2 k hk with h1 | h1
    · exact h.b2 k h1
    · omega
def St (w0 w : World) (r rr : Nat) (ns : List (Bool × Bool)) (all : List Rmsg) : Prop := ∃ q p, Both w0 w r rr q p ns ns (waitL 0 all) (all.length : Int) all

/-! ### the reference's state of its nodes -/
theorem setSame {α : Type} (l : List α) (i : Nat) (h : i < l.length) (x : α) (hx : l[i] = x) : l.set i x = l := by
  subst hx; exact List.set_getElem_self h
theorem nd_get {ns : List (Bool × Bool)} {i : Int} (hi : hasN ns i = true) : ∃ h : i.toNat < ns.length, ndAt ns i = ns[i.toNat] := by
  have hi2 : 0 ≤ i ∧ i < ns.length := by simpa [hasN] using hi
  have hi4 : i.toNat < ns.length := by omega
  exact ⟨hi4, by simp [ndAt, List.getD, hi4]⟩
theorem RefAt.setUp (h : RefAt w rr p ns all) {i : Int} (hi : hasN ns i = true) (v : Bool) : ∃ a, p.su.p = some a ∧ 0 ≤ i ∧ i < ((p.su.l : Nat) : Int) ∧ canW w (Addr.add a ((Int.toNat i) * 1)) 1 ∧
    ∀ w', w' = World.setCell w (Addr.add a ((Int.toNat i) * 1)) (.bool v) → ∃ p', (∀ k, RefM rr p' k → RefM rr p k) ∧ RefAt w' rr p' (ns.set i.toNat (v, (ndAt ns i).2)) all ∧ RefTo rr p p' w w' := by
  obtain ⟨h4, hnd⟩ := nd_get hi
  obtain ⟨a, ha, a1, a2, cw, g⟩ := h.u.boolSet (i := i) (by simpa [hasN] using hi) v
  refine ⟨a, ha, a1, a2, cw, fun w' hw' => ?_⟩
  obtain ⟨nss', g1, g2⟩ := g w' hw'
  have e1 : (ns.set i.toNat (v, (ndAt ns i).2)).map (·.1) = (ns.map (·.1)).set i.toNat v := by rw [List.map_set]
  have e2 : (ns.set i.toNat (v, (ndAt ns i).2)).map (·.2) = ns.map (·.2) := by
    rw [List.map_set, hnd]; exact setSame _ _ (by simpa using h4) _ (by simp)
  exact ⟨⟨p.su, p.so, p.sa, nss', p.vs, p.ass⟩, fun _ h => h, ⟨h.o.ext g2 h.du, by rw [e1]; exact g1, by rw [e2]; exact h.v.boolExt g2 (fun k hk hh => h.uv k hh hk), h.a.ext g2 (fun k hk hh => h.ua k hh hk) (fun k hk hh => (h.df k hk).2.1 hh), h.du, h.dv, h.da, h.uv, h.ua, h.va, h.df⟩,
    ⟨⟨g2.mono (fun k hk => .inr (.inl hk)), fun k hk => .inl hk⟩, fun k hk => .inl hk⟩⟩
theorem RefAt.setOt (h : RefAt w rr p ns all) {i : Int} (hi : hasN ns i = true) (v : Bool) : ∃ a, p.so.p = some a ∧ 0 ≤ i ∧ i < ((p.so.l : Nat) : Int) ∧ canW w (Addr.add a ((Int.toNat i) * 1)) 1 ∧
    ∀ w', w' = World.setCell w (Addr.add a ((Int.toNat i) * 1)) (.bool v) → ∃ p', (∀ k, RefM rr p' k → RefM rr p k) ∧ RefAt w' rr p' (ns.set i.toNat ((ndAt ns i).1, v)) all ∧ RefTo rr p p' w w' := by
  obtain ⟨h4, hnd⟩ := nd_get hi
  obtain ⟨a, ha, a1, a2, cw, g⟩ := h.v.boolSet (i := i) (by simpa [hasN] using hi) v
  refine ⟨a, ha, a1, a2, cw, fun w' hw' => ?_⟩
  obtain ⟨nss', g1, g2⟩ := g w' hw'
  have e1 : (ns.set i.toNat ((ndAt ns i).1, v)).map (·.2) = (ns.map (·.2)).set i.toNat v := by rw [List.map_set]
  have e2 : (ns.set i.toNat ((ndAt ns i).1, v)).map (·.1) = ns.map (·.1) := by
    rw [List.map_set, hnd]; exact setSame _ _ (by simpa using h4) _ (by simp)
  exact ⟨⟨p.su, p.so, p.sa, p.us, nss', p.ass⟩, fun _ h => h, ⟨h.o.ext g2 h.dv, by rw [e2]; exact h.u.boolExt g2 (fun k hk hh => h.uv k hk hh), by rw [e1]; exact g1, h.a.ext g2 (fun k hk hh => h.va k hh hk) (fun k hk hh => (h.df k hk).2.2 hh), h.du, h.dv, h.da, h.uv, h.ua, h.va, h.df⟩,
    ⟨⟨g2.mono (fun k hk => .inr (.inr (.inl hk))), fun k hk => .inl hk⟩, fun k hk => .inl hk⟩⟩
theorem RefAt.sol (h : RefAt w rr p ns all) : p.so.l = ns.length := by rw [h.v.sl, List.length_map]
theorem RefAt.sul (h : RefAt w rr p ns all) : p.su.l = ns.length := by rw [h.u.sl, List.length_map]

theorem In_spec (s : Slc) (l : List Int) (n : Int) (w : World) (h : intsAt w s l) (hl : l.length ≤ 2 ^ 40) :
    Calls Tryd.prog fn_tidewaternum_In ⟨[s.v, .int .i64 n]⟩ w fun e w' => e = .returned (.bool (decide (n ∈ l))) ∧ w' = w := by
  have hsl := h.1
  refine tidewaternum_In_ok _ _ ?_
  unfold tidewaternum_In
  refine ⟨fun i w2 => w2 = w ∧ ∃ k : Nat, i = k ∧ k ≤ l.length ∧ n ∉ l.take k, fun i _ => ((l.length : Int) - i).toNat, ⟨rfl, 0, rfl, by omega, by simp⟩, ?_⟩
  rintro i w2 ⟨rfl, k, rfl, hk, hno⟩
  intros
  refine BIf_dec (fun h1 => ?_) (fun h1 => ?_)
  · have hkl : k < l.length := by omega
    obtain ⟨a, ha, hc⟩ := intsAt_cell h hkl
    refine needSome_mk ha ⟨by omega, h1, l[k], by rw [show Int.toNat (k : Int) * 1 = k by omega]; exact hc, BIf_dec (fun h2 => ⟨by rw [decide_eq_true (h2 ▸ List.getElem_mem hkl)], rfl⟩) (fun h2 => ?_)⟩
    have h4 : n ∉ l.take (k + 1) := by
      have e5 : l.take (k + 1) = l.take k ++ [l[k]] := by rw [List.take_add_one, List.getElem?_eq_getElem hkl]; rfl
      rw [e5, List.mem_append, List.mem_singleton]
      rintro (h6 | h6)
      · exact hno h6
      · exact h2 h6.symm
    exact ⟨inR64 (by omega), ⟨rfl, k + 1, rfl, hkl, h4⟩, by dsimp only; omega⟩
  · rw [List.take_of_length_le (by omega)] at hno
    exact ⟨by rw [decide_eq_false hno], rfl⟩

def rng (n : Nat) (x : Rmsg) : Prop := (0 ≤ x.1 ∧ x.1 < n) ∧ 0 ≤ x.2.1 ∧ x.2.1 < n
/-- What an act leaves. -/
def After (w0 : World) (r rr : Nat) (ns : List (Bool × Bool)) (all : List Rmsg) (w' : World) : Prop :=
  ∃ ns' all', St w0 w' r rr ns' all' ∧ ns'.length = ns.length ∧ all'.length ≤ all.length + 1 ∧ ((∀ x ∈ all, rng ns.length x) → ∀ x ∈ all', rng ns.length x)
theorem send_rng {ns : List (Bool × Bool)} {f t : Int} {b : List UInt8} (h : sendE ns f t b = none) : rng ns.length (f, t, b, false) := by
  rw [sendE] at h
  split at h
  · rename_i h1
    have h2 : 0 ≤ f ∧ f < ns.length := by simpa [hasN] using h1.1
    have h3 : 0 ≤ t ∧ t < ns.length := by simpa [hasN] using h1.2
    exact ⟨h2, h3⟩
  · cases h
theorem send_lt {ns : List (Bool × Bool)} {f t : Int} {b : List UInt8} {k : Nat} (h : sendE ns f t b = some k) : k < 19 := by
  rw [sendE] at h
  split at h
  · split at h
    · cases h; omega
    · split at h
      · cases h
      · cases h; omega
  · cases h; omega
theorem gone_mem {all : List Rmsg} {j : Nat} (hj : j < all.length) (n : Nat) (h : ∀ x ∈ all, rng n x) : ∀ x ∈ goneAt all j, rng n x := by
  intro x hx
  rw [goneAt_eq _ _ hj] at hx
  rcases List.mem_or_eq_of_mem_set hx with h1 | rfl
  · exact h x h1
  · exact (h all[j] (List.getElem_mem hj) : rng n all[j])
theorem gone_len (all : List Rmsg) (j : Nat) : (goneAt all j).length = all.length := by simp [goneAt]
theorem setUp_len (ns : List (Bool × Bool)) (i : Int) (u : Bool) : (setUp ns i u).length = ns.length := by rw [setUp]; split <;> simp
theorem partN_len (ns : List (Bool × Bool)) (l : List Int) : (partN ns l).length = ns.length := by simp [partN]

theorem do_spec (A : Nat → Addr) (hE0 : Errs A w0) (h : St w0 w r rr ns all) (kd a b : Int) (s so : Slc) (bs : List UInt8) (l : List Int) (hb : bytesAt w0 s bs) (hs : intsAt w0 so l) (hl : l.length ≤ 2 ^ 30) (hlen : all.length < 4096) (hnl : ns.length ≤ 16) :
    Calls Tryd.prog fn_tidewaterlaw32_do ⟨[ptrR r, ptrR rr, .agg ⟨[.int .i64 kd, .int .i64 a, .int .i64 b, s.v, so.v]⟩]⟩ w fun e w' => e = .returned (.bool true) ∧ After w0 r rr ns all w' := by
  obtain ⟨q, p, h⟩ := h
  have hwl := waitL_len all 0
  have hz0 := h.k.size
  refine tidewaterlaw32_do_ok _ _ _ _ _ _ _ ?_
  unfold tidewaterlaw32_do
  refine newS_mk (fun r8 w9 hr8 hb8 k9 hs9 => ?_)
  have B9 := h.keep k9
  have o9 := ObjAt.new' hb8
  have hlt := h.net.lt
  have hflt := h.net.flt
  have rlt := h.ref.lt
  have nr8 : ∀ {q' : NetP} {wx : World}, NetTo r q q' w9 wx → ObjAt wx r8 _ := fun hT => o9.ext hT.1.1 (fun hh => by have := hlt _ hh; omega)
  have hE9 := Errs.b (hE0.keep B9.k)
  refine ⟨kd, o9.cell 0 (by simp), BIf_dec (fun h0 => ?_) (fun h0 => ?_)⟩
  · -- Send
    refine ⟨a, o9.cell 1 (by simp), b, o9.cell 2 (by simp), s, o9.cell 3 (by simp), ?_⟩
    refine (Send_spec A _ B9.net a b s bs (bytesAt_keep hb B9.k) (by omega) (by omega) hE9).mono ?_
    intro e w15 hm
    cases hR : sendE ns a b bs with
    | some k =>
      rw [hR] at hm
      obtain ⟨rfl, k15⟩ := hm
      have B15 := B9.keep k15
      have o15 := o9.keep k15
      refine ⟨_, _, rfl, a, o15.cell 1 (by simp), b, o15.cell 2 (by simp), s, o15.cell 3 (by simp), ?_⟩
      refine (refSend_spec B15.ref a b s bs (bytesAt_keep hb B15.k) hlen).mono ?_
      intro e w22 hm2
      rw [hR] at hm2
      obtain ⟨rfl, k22⟩ := hm2
      refine ⟨_, _, rfl, BIf_dec (fun _ => ?_) (fun hh => absurd rfl hh)⟩
      refine (Num_spec A k (send_lt hR) w22 (hE0.keep (B15.keep k22).k)).mono ?_
      rintro e w26 ⟨rfl, k26⟩
      exact ⟨_, rfl, by simp, ns, all, ⟨q, p, (B15.keep k22).keep k26⟩, rfl, by omega, fun hh => hh⟩
    | none =>
      rw [hR] at hm
      obtain ⟨rfl, q', hN, hT⟩ := hm
      have B15 := B9.toNet hN hT
      have o15 := nr8 hT
      refine ⟨_, _, rfl, a, o15.cell 1 (by simp), b, o15.cell 2 (by simp), s, o15.cell 3 (by simp), ?_⟩
      refine (refSend_spec B15.ref a b s bs (bytesAt_keep hb B15.k) hlen).mono ?_
      intro e w22 hm2
      rw [hR] at hm2
      obtain ⟨rfl, p', hN2, hT2⟩ := hm2
      have B22 := B15.toRef hN2 hT2
      refine ⟨_, _, rfl, BIf_dec (fun _ => ?_) (fun hh => absurd rfl hh)⟩
      refine (Num_nil w22).mono ?_
      rintro e w26 ⟨rfl, rfl⟩
      refine ⟨_, rfl, rfl, ns, all ++ [(a, b, bs, false)], ⟨q', p', ?_⟩, rfl, by simp, fun hh x hx => ?_⟩
      · have e1 : waitL 0 (all ++ [(a, b, bs, false)]) = waitL 0 all ++ [((all.length : Int), a, b, bs)] := by
          rw [waitL_snoc _ _ _ rfl, Nat.zero_add]; rfl
        have e2 : (((all ++ [(a, b, bs, false)]).length : Nat) : Int) = (all.length : Int) + 1 := by simp
        rw [e1, e2]; exact B22
      · rcases List.mem_append.1 hx with h5 | h5
        · exact hh x h5
        · rw [List.mem_singleton] at h5; subst h5; exact send_rng hR
  refine BIf_dec (fun h1 => ?_) (fun h1 => BIf_dec (fun h2 => ?_) (fun h2 => BIf_dec (fun h3 => ?_) (fun h3 => ?_)))
  · -- Deliver
    refine ⟨a, o9.cell 1 (by simp), ?_⟩
    refine (Deliver_spec A _ B9.net a (by omega) hE9 (Nat.le_refl _)).mono ?_
    rintro e w30 (⟨hn, rfl, k30⟩ | ⟨i, hi, hin, hrf, rfl, k30⟩ | ⟨i, hi, hin, hrf, s', q', rfl, hbs, hsf, hN, hT⟩)
    · have B30 := B9.keep k30
      have o30 := o9.keep k30
      refine ⟨0, 0, 0, ⟨none, 0, 0⟩, _, rfl, var_mk (cs := msgC 0 0 0 ⟨none, 0, 0⟩) rfl rfl (fun r36 w38 hr36 o38 k38 hs38 => ?_)⟩
      have B38 := B30.keep k38
      refine ⟨a, (o30.keep k38).cell 1 (by simp), ?_⟩
      refine (refDeliver_spec B38.ref a).mono ?_
      rintro e w41 (⟨hw, rfl, k41⟩ | ⟨k, hk, rfl, hg, _⟩)
      · refine ⟨16, rfl, BIf_ndec (fun _ => ?_) (fun hh => by omega)⟩
        have B41 := B38.keep k41
        refine (Num_spec A 15 (by omega) w41 (hE0.keep B41.k)).mono ?_
        rintro e w44 ⟨rfl, k44⟩
        exact ⟨16, rfl, BIf_dec (fun _ => ⟨_, ((o38.keep k41).keep k44).cell 3 (by simp [msgC]), rfl, ns, all, ⟨q, p, B41.keep k44⟩, rfl, by omega, fun hh => hh⟩) (fun hh => absurd rfl hh)⟩
      · exfalso
        have := waits_none hn
        rw [waitsR_iff.2 ⟨k, rfl, hk, hg⟩] at this
        cases this
    · obtain ⟨j, hj, rfl, hg, he, _⟩ := waits_some hi hin
      have B30 := B9.keep k30
      have o30 := o9.keep k30
      rw [he] at hrf
      refine ⟨0, 0, 0, ⟨none, 0, 0⟩, _, rfl, var_mk (cs := msgC 0 0 0 ⟨none, 0, 0⟩) rfl rfl (fun r36 w38 hr36 o38 k38 hs38 => ?_)⟩
      have B38 := B30.keep k38
      refine ⟨_, (o30.keep k38).cell 1 (by simp), ?_⟩
      refine (refDeliver_spec B38.ref _).mono ?_
      rintro e w41 (⟨hw, _⟩ | ⟨k, hk, hjk, _, hm⟩)
      · exfalso
        rw [waitsR_iff.2 ⟨j, rfl, hj, hg⟩] at hw
        cases hw
      · obtain rfl : j = k := by omega
        rcases hm with ⟨_, rfl, k41⟩ | ⟨hr2, _⟩
        · refine ⟨12, rfl, BIf_ndec (fun _ => ?_) (fun hh => by omega)⟩
          have B41 := B38.keep k41
          refine (Num_spec A 11 (by omega) w41 (hE0.keep B41.k)).mono ?_
          rintro e w44 ⟨rfl, k44⟩
          exact ⟨12, rfl, BIf_dec (fun _ => ⟨_, ((o38.keep k41).keep k44).cell 3 (by simp [msgC]), rfl, ns, all, ⟨q, p, B41.keep k44⟩, rfl, by omega, fun hh => hh⟩) (fun hh => absurd rfl hh)⟩
        · exfalso
          have : reachN ns all[j].1 all[j].2.1 = false := hrf
          rw [this] at hr2; cases hr2
    · obtain ⟨j, hj, rfl, hg, he, her⟩ := waits_some hi hin
      have B30 := B9.toNet hN hT
      have o30 := nr8 hT
      rw [he] at hrf hbs
      refine ⟨_, _, _, s', _, rfl, var_mk (cs := msgC _ _ _ s') rfl rfl (fun r36 w38 hr36 o38 k38 hs38 => ?_)⟩
      have B38 := B30.keep k38
      have o38' := o30.keep k38
      have z30 := hT.1.1.size
      refine ⟨_, o38'.cell 1 (by simp), ?_⟩
      refine (refDeliver_spec B38.ref _).mono ?_
      rintro e w41 (⟨hw, _⟩ | ⟨k, hk, hjk, _, hm⟩)
      · exfalso
        rw [waitsR_iff.2 ⟨j, rfl, hj, hg⟩] at hw
        cases hw
      · obtain rfl : j = k := by omega
        rcases hm with ⟨hr2, _⟩ | ⟨_, rfl, p', hN2, hT2⟩
        · exfalso
          have : reachN ns all[j].1 all[j].2.1 = true := hrf
          rw [this] at hr2; cases hr2
        · have B41 := B38.toRef hN2 hT2
          refine ⟨0, rfl, BIf_ndec (fun hh => absurd rfl hh) (fun _ => ?_)⟩
          have Bd := B41.keep (Ext.drew _ w41)
          have rl8 : r8 < w38.heap.size := o38'.lt
          have nr : ∀ x, RefM rr p x → x < w.heap.size := rlt
          have o41 := (o38'.ext hT2.1.1 (fun hh => by have := nr _ hh; omega)).keep (Ext.drew none0 w41)
          have o41b := (o38.ext hT2.1.1 (fun hh => by have := nr _ hh; have := k38.size; omega)).keep (Ext.drew none0 w41)
          have hjg : j < (goneAt all j).length := by rw [gone_len]; exact hj
          have hgj : (goneAt all j)[j] = gone all[j] := by simp only [goneAt_eq _ _ hj]; simp
          have hsl := Bd.ref.a.sl
          rw [gone_len] at hsl
          obtain ⟨ap, ss, hap, hsp, hk', hea, hrow, hbb⟩ := Bd.ref.msg hjg
          rw [hgj] at hrow hbb
          have ek : Int.toNat (j : Int) * 4 = j * 4 := by omega
          -- the delivered bytes still stand
          have hbd : bytesAt w41.drew s' all[j].2.2.1 := bytesAt_keep (bytesAt_stay (bytesAt_keep hbs k38) hT2.1.1 (fun h0 x hx hh => h.s2 x (hsf x h0 hx) hh)) (Ext.drew none0 w41)
          refine needSome_mk rfl ⟨_, Bd.ref.c2, _, o41.cell 1 (by simp), needSome_mk hap ⟨by omega, by omega, _, _, ss, _, by rw [ek]; exact hrow, ?_⟩⟩
          refine newS_mk (fun r55 w56 hr55 hb55 k56 hs56 => ?_)
          have B56 := Bd.keep k56
          refine ⟨⟨_, _, ss, _, by rw [ek]; exact rowAt_keep hrow k56, rfl⟩, ⟨_, (o41.keep k56).cell 1 (by simp), rfl⟩, ⟨_, B56.ref.c2, rfl⟩, ?_⟩
          obtain ⟨cw, g⟩ := (ObjAt.new' hb55).setAll (cs := rmC all[j].1 all[j].2.1 ss true) rfl rfl
          refine ⟨cw, fun w63 hw63 => ?_⟩
          obtain ⟨o63, e63, z63⟩ := g w63 hw63
          have k63 : Keep w41.drew w63 := k56.step (by omega) e63
          have B63 := Bd.keep k63
          have o8 := o41.keep k63
          have o36 := o41b.keep k63
          have e5 : (waitL 0 all)[i].1 = (j : Int) := hin
          refine ⟨trivial, BIf_mk (fun _ => ?_) (fun hh => by cases hh)⟩
          refine ⟨_, o36.cell 0 (by simp [msgC]), _, o8.cell 1 (by simp), BIf_dec (fun _ => ?_) (fun hh => absurd hin hh)⟩
          refine ⟨_, o36.cell 1 (by simp [msgC]), _, o63.cell 0 (by simp [rmC]), BIf_dec (fun _ => ?_) (fun hh => absurd (by rw [he]; rfl) hh)⟩
          refine ⟨_, o36.cell 2 (by simp [msgC]), _, o63.cell 1 (by simp [rmC]), BIf_dec (fun _ => ?_) (fun hh => absurd (by rw [he]; rfl) hh)⟩
          refine ⟨s', o36.cell 3 (by simp [msgC]), all[j].2.2.1, bytesAt_keep hbd k63, ss, o63.cell 2 (by simp [rmC]), all[j].2.2.1, bytesAt_keep hbb k63, by rw [decide_eq_true rfl], ns, goneAt all j, ⟨q', p', ?_⟩, rfl, by rw [gone_len]; omega, gone_mem hj _⟩
          rw [her, gone_len]; exact B63
  · -- Drop
    have kdr := Ext.drew none0 w9
    have B9d := B9.keep kdr
    have o9d := o9.keep kdr
    refine ⟨a, o9d.cell 1 (by simp), a, o9d.cell 1 (by simp), ?_⟩
    refine (Drop_spec A _ B9d.net a (by omega) (Errs.b (hE0.keep B9d.k))).mono ?_
    rintro e w77 (⟨hn, rfl, k77⟩ | ⟨i, hi, hin, rfl, q', hN, hT⟩)
    · have B77 := B9d.keep k77
      have o77 := o9d.keep k77
      refine ⟨_, rfl, ⟨a, o77.cell 1 (by simp), rfl⟩, ?_⟩
      refine (Num_spec A 15 (by omega) w77 (hE0.keep B77.k)).mono ?_
      rintro e w81 ⟨rfl, k81⟩
      have B81 := B77.keep k81
      refine ⟨16, rfl, ⟨a, (o77.keep k81).cell 1 (by simp), rfl⟩, ?_⟩
      refine (refDrop_spec B81.ref a).mono ?_
      rintro e w85 (⟨_, rfl, rfl⟩ | ⟨hw, _⟩)
      · exact ⟨16, rfl, rfl, ns, all, ⟨q, p, B81⟩, rfl, by omega, fun hh => hh⟩
      · exfalso; rw [waits_none hn] at hw; cases hw
    · obtain ⟨j, hj, rfl, hg, he, her⟩ := waits_some hi hin
      have B77 := B9d.toNet hN hT
      have o77 := o9d.ext hT.1.1 (fun hh => by have := hlt _ hh; omega)
      refine ⟨_, rfl, ⟨_, o77.cell 1 (by simp), rfl⟩, ?_⟩
      refine (Num_nil w77).mono ?_
      rintro e w81 ⟨rfl, rfl⟩
      refine ⟨0, rfl, ⟨_, o77.cell 1 (by simp), rfl⟩, ?_⟩
      refine (refDrop_spec B77.ref _).mono ?_
      rintro e w85 (⟨hw, _⟩ | ⟨_, rfl, p', hN2, hT2⟩)
      · exfalso; rw [waitsR_iff.2 ⟨j, rfl, hj, hg⟩] at hw; cases hw
      · have B85 := B77.toRef hN2 hT2
        rw [show Int.toNat (j : Int) = j by omega] at B85
        refine ⟨0, rfl, rfl, ns, goneAt all j, ⟨q', p', ?_⟩, rfl, by rw [gone_len]; omega, gone_mem hj _⟩
        rw [her, gone_len]; exact B85
  · -- Double
    refine ⟨a, o9.cell 1 (by simp), ?_⟩
    refine (Double_spec A _ B9.net a (by omega) (by omega) hE9).mono ?_
    rintro e w89 (⟨hn, rfl, k89⟩ | ⟨i, hi, hin, rfl, q', hN, hT⟩)
    · have B89 := B9.keep k89
      refine ⟨_, _, rfl, a, (o9.keep k89).cell 1 (by simp), ?_⟩
      refine (refDouble_spec B89.ref a hlen).mono ?_
      rintro e w94 (⟨_, rfl, k94⟩ | ⟨k, hk, rfl, hg, _⟩)
      · refine ⟨_, _, rfl, BIf_dec (fun _ => ?_) (fun hh => absurd rfl hh)⟩
        have B94 := B89.keep k94
        refine (Num_spec A 15 (by omega) w94 (hE0.keep B94.k)).mono ?_
        rintro e w98 ⟨rfl, k98⟩
        exact ⟨16, rfl, rfl, ns, all, ⟨q, p, B94.keep k98⟩, rfl, by omega, fun hh => hh⟩
      · exfalso
        have := waits_none hn
        rw [waitsR_iff.2 ⟨k, rfl, hk, hg⟩] at this
        cases this
    · obtain ⟨j, hj, rfl, hg, he, her⟩ := waits_some hi hin
      have B89 := B9.toNet hN hT
      have o89 := nr8 hT
      refine ⟨_, _, rfl, _, o89.cell 1 (by simp), ?_⟩
      refine (refDouble_spec B89.ref _ hlen).mono ?_
      rintro e w94 (⟨hw, _⟩ | ⟨k, hk, hjk, _, rfl, p', hN2, hT2⟩)
      · exfalso; rw [waitsR_iff.2 ⟨j, rfl, hj, hg⟩] at hw; cases hw
      · obtain rfl : j = k := by omega
        have B94 := B89.toRef hN2 hT2
        refine ⟨_, _, rfl, BIf_dec (fun _ => ?_) (fun hh => absurd rfl hh)⟩
        refine (Num_nil w94).mono ?_
        rintro e w98 ⟨rfl, rfl⟩
        refine ⟨0, rfl, rfl, ns, all ++ [all[j]], ⟨q', p', ?_⟩, rfl, by simp, fun hh x hx => ?_⟩
        · have e1 : waitL 0 (all ++ [all[j]]) = waitL 0 all ++ [((all.length : Int), (waitL 0 all)[i].2)] := by
            rw [waitL_snoc _ _ _ hg, Nat.zero_add, he]; rfl
          have e2 : (((all ++ [all[j]]).length : Nat) : Int) = (all.length : Int) + 1 := by simp
          rw [e1, e2]; exact B94
        · rcases List.mem_append.1 hx with h5 | h5
          · exact hh x h5
          · rw [List.mem_singleton] at h5; subst h5; exact hh _ (List.getElem_mem hj)
  · -- Set, Part, Join
    refine ⟨fun x w2 => x = decide (kd = 4 ∨ kd = 5) ∧ w2 = w9, ?_, ?_⟩
    · refine BIf_dec (fun h4 => ⟨by rw [decide_eq_true h4, decide_eq_true (.inl h4)], rfl⟩) (fun h4 => ⟨?_, rfl⟩)
      by_cases h5 : kd = 5
      · rw [decide_eq_true h5, decide_eq_true (.inr h5)]
      · rw [decide_eq_false h5, decide_eq_false (by omega)]
    rintro x w102 ⟨rfl, rfl⟩
    intros
    refine BIf_dec (fun h4 => ?_) (fun h4 => BIf_dec (fun h5 => ?_) (fun h5 => ?_))
    · refine ⟨a, o9.cell 1 (by simp), kd, o9.cell 0 (by simp), ?_⟩
      refine (Set_spec B9.net a (decide (kd = 4))).mono ?_
      rintro e w108 ⟨rfl, q', hN, hT⟩
      have B108 := (B9.toNet hN hT).keep (Ext.drew _ w108)
      have o108 := (nr8 hT).keep (Ext.drew none0 w108)
      have hsul := B108.ref.sul
      have out : ∀ wx, Both w0 wx r rr q' p (setUp ns a (decide (kd = 4))) ns (waitL 0 all) (all.length : Int) all → ¬ hasN ns a = true → After w0 r rr ns all wx := by
        intro wx B hn
        have e : setUp ns a (decide (kd = 4)) = ns := by rw [setUp, if_neg hn]
        rw [e] at B
        exact ⟨ns, all, ⟨q', p, B⟩, rfl, by omega, fun hh => hh⟩
      refine ⟨rfl, a, o108.cell 1 (by simp), BIf_dec (fun h6 => ?_) (fun h6 => ⟨rfl, out _ B108 (by simp [hasN]; omega)⟩)⟩
      refine ⟨a, o108.cell 1 (by simp), needSome_mk rfl ⟨_, B108.ref.c0, BIf_dec (fun h7 => ?_) (fun h7 => ⟨rfl, out _ B108 (by simp [hasN]; omega)⟩)⟩⟩
      have hh : hasN ns a = true := by simp [hasN]; omega
      have Bd := B108.keep (Ext.drew _ _)
      have od := o108.keep (Ext.drew none0 w108.drew)
      obtain ⟨ap, hap, a1, a2, cw, g⟩ := Bd.ref.setUp hh (decide (kd = 4))
      refine needSome_mk rfl ⟨_, Bd.ref.c0, a, od.cell 1 (by simp), kd, od.cell 0 (by simp), needSome_mk hap ⟨a1, a2, cw, fun w118 hw118 => ?_⟩⟩
      obtain ⟨p', _, hN2, hT2⟩ := g w118 hw118
      have B118 := Bd.toRef hN2 hT2
      have e : setUp ns a (decide (kd = 4)) = ns.set a.toNat (decide (kd = 4), (ndAt ns a).2) := by rw [setUp, if_pos hh]
      rw [e] at B118
      exact ⟨rfl, _, all, ⟨q', p', B118⟩, by simp, by omega, fun hh => hh⟩
    · refine ⟨so, o9.cell 4 (by simp), ?_⟩
      refine (Part_spec B9.net so l (intsAt_keep hs B9.k) (fun hl0 k hk hh => by have := intsAt_lt hs hl0 k hk; have := B9.b1 k hh; omega) (by omega) (by omega)).mono ?_
      rintro e w121 ⟨rfl, q', hN, hT⟩
      have B121 := B9.toNet hN hT
      have o121 := nr8 hT
      have hsl := B121.ref.sol
      refine ⟨rfl, needSome_mk rfl ⟨_, B121.ref.c1, fun i w2 => ∃ (k : Nat) (p2 : RefP), i = k ∧ k ≤ ns.length ∧ (∀ x, RefM rr p2 x → RefM rr p x) ∧ Both w0 w2 r rr q' p2 (partN ns l) (partK k ns l) (waitL 0 all) (all.length : Int) all ∧ ObjAt w2 r8 [.int .i64 kd, .int .i64 a, .int .i64 b, s.v, so.v], fun i _ => ((ns.length : Int) - i).toNat,
        ⟨0, p, rfl, by omega, fun _ h => h, by rw [partK_zero]; exact B121, o121⟩, ?_⟩⟩
      rintro i w127 ⟨k, p2, rfl, hk, hp2, B2, o2⟩
      intros
      have Bd := B2.keep (Ext.drew _ w127)
      have od := o2.keep (Ext.drew none0 w127)
      have hsl2 := Bd.ref.sol
      rw [partK_len] at hsl2
      refine BIf_dec (fun h6 => ?_) (fun h6 => ?_)
      · have hkl : k < ns.length := by omega
        refine needSome_mk rfl ⟨_, Bd.ref.c1, so, od.cell 4 (by simp), ?_⟩
        refine (In_spec so l k _ (intsAt_keep hs Bd.k) (by omega)).mono ?_
        rintro e w146 ⟨rfl, rfl⟩
        have hh : hasN (partK k ns l) (k : Int) = true := by simp [hasN, partK_len, hkl]
        obtain ⟨ap, hap, a1, a2, cw, g⟩ := Bd.ref.setOt hh (decide ((k : Int) ∈ l))
        refine ⟨_, rfl, ⟨_, Bd.ref.c1, rfl⟩, needSome_mk hap ⟨a1, a2, cw, fun w150 hw150 => ?_⟩⟩
        obtain ⟨p3, hp3, hN3, hT3⟩ := g w150 hw150
        have B150 := Bd.toRef hN3 hT3
        have nr : ¬ RefM rr p2 r8 := fun hh => by have := rlt _ (hp2 _ hh); omega
        refine ⟨inR64 (by omega), ⟨k + 1, p3, rfl, hkl, fun x hx => hp2 x (hp3 x hx), by rw [partK_succ k ns l hkl]; exact B150, od.ext hT3.1.1 nr⟩, by dsimp only; omega⟩
      · rw [partK_all k ns l (by omega)] at B2
        exact ⟨rfl, partN ns l, all, ⟨q', p2, B2⟩, partN_len _ _, by omega, fun hh => hh⟩
    · refine (Join_spec B9.net (by omega)).mono ?_
      rintro e w152 ⟨rfl, q', hN, hT⟩
      have B152 := B9.toNet hN hT
      have hsl := B152.ref.sol
      refine ⟨rfl, needSome_mk rfl ⟨_, B152.ref.c1, fun i w2 => ∃ (k : Nat) (p2 : RefP), i = k ∧ k ≤ ns.length ∧ (∀ x, RefM rr p2 x → RefM rr p x) ∧ Both w0 w2 r rr q' p2 (partN ns []) (partK k ns []) (waitL 0 all) (all.length : Int) all, fun i _ => ((ns.length : Int) - i).toNat,
        ⟨0, p, rfl, by omega, fun _ h => h, by rw [partK_zero]; exact B152⟩, ?_⟩⟩
      rintro i w127 ⟨k, p2, rfl, hk, hp2, Bd⟩
      intros
      have hsl2 := Bd.ref.sol
      rw [partK_len] at hsl2
      refine BIf_dec (fun h6 => ?_) (fun h6 => ?_)
      · have hkl : k < ns.length := by omega
        have hh : hasN (partK k ns []) (k : Int) = true := by simp [hasN, partK_len, hkl]
        obtain ⟨ap, hap, a1, a2, cw, g⟩ := Bd.ref.setOt hh false
        refine needSome_mk rfl ⟨_, Bd.ref.c1, needSome_mk hap ⟨a1, a2, cw, fun w150 hw150 => ?_⟩⟩
        obtain ⟨p3, hp3, hN3, hT3⟩ := g w150 hw150
        have B150 := Bd.toRef hN3 hT3
        refine ⟨inR64 (by omega), ⟨k + 1, p3, rfl, hkl, fun x hx => hp2 x (hp3 x hx), ?_⟩, by dsimp only; omega⟩
        rw [partK_succ k ns [] hkl]
        rw [show decide ((k : Int) ∈ ([] : List Int)) = false by simp]
        exact B150
      · rw [partK_all k ns [] (by omega)] at Bd
        exact ⟨rfl, partN ns [], all, ⟨q', p2, Bd⟩, partN_len _ _, by omega, fun hh => hh⟩
end Go.D
