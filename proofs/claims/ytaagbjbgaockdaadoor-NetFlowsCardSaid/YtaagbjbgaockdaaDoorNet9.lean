/-
  WHAT IS PROVED: contracts of functions, and the plain law, for this proof. No further conditions.
-/
import Derived.Test.YtaagbjbgaockdaaDoorNet8
set_option linter.unusedVariables false
set_option linter.unusedSimpArgs false
namespace Go.D
open Go Go.Proofs

/-- All is up and joined. -/
def Flow (w0 w : World) (r : Nat) (ms : List Msg) : Prop := ∃ q ns nx, NetAt w r q ns ms nx ∧ Keep w0 w ∧ (∀ k, NetM r q k → w0.heap.size ≤ k) ∧ ns.length = 4 ∧ ∀ (j : Nat) (h : j < ns.length), ns[j] = (true, false)
def Good (ms : List Msg) : Prop := ms.Pairwise (fun a b => a.1 < b.1) ∧ ms.length < 4096 ∧ ∀ m ∈ ms, 0 ≤ m.1 ∧ (0 ≤ m.2.1 ∧ m.2.1 < 4) ∧ 0 ≤ m.2.2.1 ∧ m.2.2.1 < 4
theorem Good.erase {ms : List Msg} (h : Good ms) (k : Nat) : Good (ms.eraseIdx k) :=
  ⟨h.1.sublist (List.eraseIdx_sublist _ _), Nat.lt_of_le_of_lt (List.eraseIdx_sublist _ _).length_le h.2.1, fun m hm => h.2.2 m (List.mem_of_mem_eraseIdx hm)⟩
theorem flow_reach {ns : List (Bool × Bool)} (hl : ns.length = 4) (h : ∀ (j : Nat) (h : j < ns.length), ns[j] = (true, false)) {a b : Int} (ha : 0 ≤ a ∧ a < 4) (hb : 0 ≤ b ∧ b < 4) : reachN ns a b = true := by
  have h1 : hasN ns a = true := by simp [hasN]; omega
  have h2 : hasN ns b = true := by simp [hasN]; omega
  obtain ⟨q1, e1⟩ := nd_get h1
  obtain ⟨q2, e2⟩ := nd_get h2
  rw [reachN, h1, h2, e1, e2, h _ q1, h _ q2]; rfl
theorem good_inj {ms : List Msg} (h : Good ms) {i j : Nat} (hi : i < ms.length) (hj : j < ms.length) (he : ms[i].1 = ms[j].1) : i = j := by
  rcases Nat.lt_trichotomy i j with h1 | h1 | h1
  · have := List.pairwise_iff_getElem.1 h.1 i j hi hj h1; omega
  · exact h1
  · have := List.pairwise_iff_getElem.1 h.1 j i hj hi h1; omega
/-- What First tells then. -/
def FirstTo (ms : List Msg) (to n : Int) : Prop := (∃ k : Nat, ∃ hk : k < ms.length, n = ms[k].1 ∧ ms[k].2.2.1 = to ∧ ∀ j (hj : j < k), (ms[j]'(by omega)).2.2.1 ≠ to) ∨ (n = -1 ∧ ∀ m ∈ ms, m.2.2.1 ≠ to)
theorem FirstF_spec {w0 w : World} {r : Nat} {ms : List Msg} (h : Flow w0 w r ms) (hg : Good ms) (to : Int) (hto : 0 ≤ to ∧ to < 4) :
    Calls Tryd.prog fn_net_Net_First ⟨[ptrR r, .int .i64 to]⟩ w fun e w' => ∃ n, e = .returned (.int .i64 n) ∧ Flow w0 w' r ms ∧ FirstTo ms to n := by
  obtain ⟨q, ns, nx, hN, k, hM, hl, hns⟩ := h
  refine (First_spec hN to (by have := hg.2.1; omega)).mono ?_
  rintro e w' ⟨n, rfl, k', hf⟩
  have hr : ∀ j (hj : j < ms.length), reachN ns ms[j].2.1 ms[j].2.2.1 = true := fun j hj => flow_reach hl hns (hg.2.2 _ (List.getElem_mem hj)).2.1 (hg.2.2 _ (List.getElem_mem hj)).2.2
  refine ⟨n, rfl, ⟨q, ns, nx, hN.keep k', k.trans k', hM, hl, hns⟩, ?_⟩
  rcases hf with ⟨i, hi, rfl, hp, hno⟩ | ⟨rfl, hno⟩
  · exact .inl ⟨i, hi, rfl, hp.1, fun j hj he => hno j hj ⟨he, hr j _⟩⟩
  · refine .inr ⟨rfl, fun m hm he => ?_⟩
    obtain ⟨j, hj, rfl⟩ := List.getElem_of_mem hm
    exact hno j hj ⟨he, hr j hj⟩

theorem NetFlows_walk (s : Slc) (xs : List ActT) (w : World) (hx : rowsR rdAct w s xs) (A : Nat → Addr) (hE0 : Errs A w) :
    Calls Tryd.prog fn_tidewaterlaw32_NetFlows ⟨[s.v]⟩ w fun e w' => e = .returned (.bool true) ∧ Keep w w' := by
  have hsl := hx.1
  refine tidewaterlaw32_NetFlows_ok _ ?_
  unfold tidewaterlaw32_NetFlows
  refine (alive32_spec A w hE0).mono ?_
  rintro e w4 ⟨rfl, k4⟩
  refine ⟨_, rfl, BIf_mk (fun h => by cases h) (fun _ => ?_)⟩
  refine (long32_spec s xs w4 (rowsR_keep hx k4)).mono ?_
  rintro e w7 ⟨b, rfl, k7', hlong⟩
  have k7 := k4.trans k7'
  refine ⟨b, rfl, BIf_mk (fun _ => ⟨rfl, k7⟩) (fun hb => ?_)⟩
  obtain ⟨hxl, hxs⟩ := hlong hb
  refine (New_spec A _ 4 w7 (Errs.b (hE0.keep k7))).mono ?_
  rintro e w10 (⟨hh, _⟩ | ⟨_, _, r, q, rfl, hN, k10', hM, hF⟩)
  · omega
  have k10 := k7.trans k10'
  refine ⟨_, _, rfl, trivial, BIf_mk (fun h => by cases h) (fun _ => ?_)⟩
  refine (refNew_spec 4 (by omega) w10).mono ?_
  rintro e w45 ⟨rr, p, rfl, hP, k45', hPM, hPF⟩
  have k45 := k10.trans k45'
  have hlt := hN.lt
  have z7 := k7.size
  have z10 := k10'.size
  have hN : NetAt w10 r q (upN 4) [] 0 := hN
  have B45 : Both w w45 r rr q p (upN 4) (upN 4) (waitL 0 []) ((([] : List Rmsg).length : Nat) : Int) [] := ⟨k45, hN.keep k45', hP, fun k hk hh => by have := hlt k hk; have := hPM k hh; omega, fun k hk => (hF k hk).elim, fun k hk => (hPF k hk).elim, fun k hk => by have := hM k hk; omega, fun k hk => by have := hPM k hk; omega⟩
  refine ⟨_, rfl, fun i w2 => ∃ (k : Nat) (ns : List (Bool × Bool)) (all : List Rmsg), i = k ∧ k ≤ xs.length ∧ St w w2 r rr ns all ∧ ns.length = 4 ∧ all.length ≤ k ∧ ∀ x ∈ all, rng 4 x, fun i _ => ((xs.length : Int) - i).toNat,
    ⟨0, upN 4, [], rfl, by omega, ⟨q, p, B45⟩, by simp [upN], by simp, by simp⟩, ?_⟩
  rintro i w50 ⟨k, ns, all, rfl, hk, hS, hnl, hal, hrg⟩
  intros
  have hS0 := hS
  obtain ⟨q5, p5, B⟩ := hS0
  refine BIf_dec (fun h3 => ?_) (fun h3 => ?_)
  · have hkl : k < xs.length := by omega
    obtain ⟨a, ha, hrow, _, _⟩ := rdAct_get (rowsR_keep hx B.k) hkl
    obtain ⟨_, _, _, hb0, hi0⟩ := rdAct_get hx hkl
    refine needSome_mk ha ⟨by omega, h3, _, _, _, _, _, by rw [show Int.toNat (k : Int) * 5 = k * 5 by omega]; exact hrow, ?_⟩
    refine var_mk (cs := actC xs[k]) rfl rfl (fun r75 w77 hr75 o77 k77 hs77 => ?_)
    refine ⟨_, _, _, _, _, o77.row, ?_⟩
    have hxk := hxs _ (List.getElem_mem hkl)
    refine (do_spec A hE0 (⟨q5, p5, B.keep k77⟩ : St w w77 r rr ns all) _ _ _ _ _ _ _ hb0 hi0 (by omega) (by omega) (by omega)).mono ?_
    rintro e w84 ⟨rfl, ns', all', hS', hnl', hal', hrg'⟩
    rw [hnl] at hrg'
    exact ⟨_, rfl, BIf_mk (fun h => by cases h) (fun _ => ⟨inR64 (by omega), ⟨k + 1, ns', all', rfl, hkl, hS', by omega, by omega, hrg' hrg⟩, by dsimp only; omega⟩)⟩
  have hwl := waitL_len all 0
  refine (Join_spec B.net (by omega)).mono ?_
  rintro e w48 ⟨rfl, q48, hN48, hT48⟩
  have B48 := B.toNet hN48 hT48
  have hpl : (partN ns []).length = 4 := by rw [partN_len, hnl]
  have hp0 : ∀ (j : Nat) (h : j < (partN ns []).length), (partN ns [])[j].2 = false := by intro j h; simp [partN]
  have hg0 : Good (waitL 0 all) := ⟨waitL_sorted _ _, by omega, fun m hm => by
    obtain ⟨j, hj, _, rfl⟩ := (waitL_mem all 0 m).1 hm
    have := hrg _ (List.getElem_mem hj)
    have h1 := this.1
    have h2 := this.2
    simp only [msgOf]
    omega⟩
  refine ⟨rfl, fun i w2 => ∃ (k : Nat) (q2 : NetP) (ns2 : List (Bool × Bool)), i = k ∧ k ≤ 4 ∧ NetAt w2 r q2 ns2 (waitL 0 all) (all.length : Int) ∧ Keep w w2 ∧ (∀ x, NetM r q2 x → w.heap.size ≤ x) ∧ ns2.length = 4 ∧ ∀ (j : Nat) (h : j < ns2.length), ns2[j].2 = false ∧ (j < k → ns2[j].1 = true), fun i _ => (4 - i).toNat,
    ⟨0, q48, _, rfl, by omega, B48.net, B48.k, B48.b1, hpl, fun j h => ⟨hp0 j h, fun h => by omega⟩⟩, ?_⟩
  rintro i w52 ⟨k, q2, ns2, rfl, hk4, hN2, k52, hM2, hl2, hn2⟩
  intros
  have z52 := k52.size
  refine BIf_dec (fun h5 => ?_) (fun h5 => ?_)
  · have hkl : k < ns2.length := by omega
    refine (Set_spec hN2 k true).mono ?_
    rintro e w61 ⟨rfl, q3, hN3, hT3⟩
    have hh : hasN ns2 (k : Int) = true := by simp [hasN]; omega
    obtain ⟨hq, he⟩ := nd_get hh
    refine ⟨rfl, inR64 (by omega), ⟨k + 1, q3, _, rfl, by omega, hN3, k52.ext hT3.1.1 hM2, fun x hx => (hT3.1.2 x hx).elim (hM2 x) (fun h => by omega), by rw [setUp_len]; exact hl2, fun j hj => ?_⟩, by dsimp only; omega⟩
    rw [setUp_len] at hj
    simp only [setUp, if_pos hh, he]
    rw [List.getElem_set]
    by_cases hjk : Int.toNat (k : Int) = j
    · rw [if_pos hjk]
      exact ⟨(hn2 _ hq).1, fun _ => rfl⟩
    · rw [if_neg hjk]
      exact ⟨(hn2 j hj).1, fun h => (hn2 j hj).2 (by omega)⟩
  obtain rfl : k = 4 := by omega
  have F52 : Flow w w52 r (waitL 0 all) := ⟨q2, ns2, _, hN2, k52, hM2, hl2, fun j h => by
    have := hn2 j h
    exact Prod.ext (this.2 (by omega)) this.1⟩
  refine (Waiting_spec hN2 (by omega)).mono ?_
  rintro e w63 ⟨t, css, rfl, hR, k63⟩
  have htl := hR.sl
  have F63 : ∀ {wa wb : World} {ms : List Msg}, Flow w wa r ms → Keep wa wb → Flow w wb r ms := fun ⟨q, ns, nx, g1, g2, g3, g4, g5⟩ hk => ⟨q, ns, nx, g1.keep hk, g2.trans hk, g3, g4, g5⟩
  refine ⟨t, rfl, fun many i w2 => ∃ (k : Nat) (ms : List Msg), i = k ∧ k ≤ 4 ∧ many = (ms.length : Int) ∧ Good ms ∧ Flow w w2 r ms ∧ ∀ m ∈ ms, i ≤ m.2.2.1, fun _ i _ => (4 - i).toNat,
    ⟨0, _, rfl, by omega, by rw [htl], hg0, F63 F52 k63, fun m hm => (hg0.2.2 m hm).2.2.1⟩, ?_⟩
  rintro many i w69 ⟨k, ms, rfl, hk4, rfl, hg, hFl, hto⟩
  intros
  refine BIf_dec (fun h6 => ?_) (fun h6 => ?_)
  · refine (FirstF_spec hFl hg k (by omega)).mono ?_
    rintro e w110 ⟨n, rfl, hFl2, hft⟩
    refine ⟨n, rfl, fun many last n w2 => ∃ ms : List Msg, many = (ms.length : Int) ∧ Good ms ∧ Flow w w2 r ms ∧ (∀ m ∈ ms, (k : Int) ≤ m.2.2.1) ∧ FirstTo ms k n ∧ ∀ m ∈ ms, m.2.2.1 = k → last < m.1, fun many _ _ _ => many.toNat,
      ⟨ms, rfl, hg, hFl2, hto, hft, fun m hm _ => by have := (hg.2.2 m hm).1; omega⟩, ?_⟩
    rintro many last n w117 ⟨ms, rfl, hg, ⟨q6, ns6, nx6, g1, g2, g3, g4, g5⟩, hto, hft, hlast⟩
    intros
    refine BIf_dec (fun h7 => ?_) (fun h7 => ?_)
    · rcases hft with ⟨i, hi, rfl, hti, hno⟩ | ⟨rfl, _⟩
      · refine (Deliver_spec A _ g1 ms[i].1 hg.2.1 (Errs.b (hE0.keep g2)) (Nat.le_refl _)).mono ?_
        rintro e w149 (⟨hn, _⟩ | ⟨i', hi', hin, hrf, _⟩ | ⟨i', hi', hin, hrf, s', q', rfl, hbs, hsf, hN', hT'⟩)
        · exact absurd rfl (hn i hi)
        · exfalso
          rw [flow_reach g4 g5 (hg.2.2 _ (List.getElem_mem hi')).2.1 (hg.2.2 _ (List.getElem_mem hi')).2.2] at hrf
          cases hrf
        · obtain rfl := good_inj hg hi' hi hin
          have z117 := g2.size
          have Fl : Flow w w149 r (ms.eraseIdx i') := ⟨q', ns6, nx6, hN', g2.ext hT'.1.1 g3, fun x hx => (hT'.1.2 x hx).elim (g3 x) (fun h => by omega), g4, g5⟩
          refine ⟨_, _, _, s', _, rfl, var_mk (cs := msgC _ _ _ s') rfl rfl (fun r155 w157 hr155 o157 k157 hs157 => ?_)⟩
          have hlen : (ms.eraseIdx i').length = ms.length - 1 := List.length_eraseIdx_of_lt hi'
          refine ⟨trivial, BIf_mk (fun h => by cases h) (fun _ => BIf_dec (fun h8 => ?_) (fun h8 => ?_))⟩
          · have := hlast _ (List.getElem_mem hi') hti; omega
          refine ⟨_, o157.cell 2 (by simp [msgC]), BIf_ndec (fun hh => absurd hti hh) (fun _ => ⟨inR64 (by have := hg.2.1; omega), ?_⟩)⟩
          refine (FirstF_spec (F63 Fl k157) (hg.erase i') k (by omega)).mono ?_
          rintro e w160 ⟨n', rfl, hFl3, hft'⟩
          refine ⟨n', rfl, ⟨ms.eraseIdx i', by rw [hlen]; omega, hg.erase i', hFl3, fun m hm => hto m (List.mem_of_mem_eraseIdx hm), hft', fun m hm hmt => ?_⟩, by dsimp only; omega⟩
          obtain ⟨j, hj, rfl⟩ := List.getElem_of_mem hm
          rw [List.getElem_eraseIdx] at hmt ⊢
          by_cases hji : j < i'
          · simp only [dif_pos hji] at hmt
            exact absurd hmt (hno j hji)
          · simp only [dif_neg hji]
            exact List.pairwise_iff_getElem.1 hg.1 i' (j + 1) hi' (by omega) (by omega)
      · omega
    · refine ⟨inR64 (by omega), ⟨k + 1, ms, rfl, by omega, rfl, hg, ⟨q6, ns6, nx6, g1, g2, g3, g4, g5⟩, fun m hm => ?_⟩, by dsimp only; omega⟩
      have h9 := hto m hm
      have h10 : m.2.2.1 ≠ k := by
        rcases hft with ⟨i, hi, rfl, _⟩ | ⟨rfl, hno⟩
        · exact absurd (hg.2.2 _ (List.getElem_mem hi)).1 h7
        · exact hno m hm
      omega
  · obtain rfl : k = 4 := by omega
    have hms : ms = [] := by
      cases ms with
      | nil => rfl
      | cons m ms =>
        have h1 := hto m (by simp)
        have h2 := (hg.2.2 m (by simp)).2.2.2
        omega
    subst hms
    obtain ⟨q6, ns6, nx6, g1, g2, g3, g4, g5⟩ := hFl
    refine BIf_dec (fun _ => ?_) (fun hh => absurd rfl hh)
    refine (Waiting_spec g1 (by simp)).mono ?_
    rintro e w163 ⟨t2, css2, rfl, hR2, k163⟩
    have ht2 := hR2.sl
    exact ⟨t2, rfl, by rw [ht2]; rfl, g2.trans k163⟩
end Go.D
