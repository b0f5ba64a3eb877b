/-
  WHAT IS PROVED: contracts of functions, and the plain law, for this proof. No further conditions.
-/
import Derived.Test.YtaagbjbgaockdaaDoorNet3
set_option linter.unusedVariables false
set_option linter.unusedSimpArgs false
namespace Go.D
open Go Go.Proofs
variable {w : World} {r : Nat} {q : NetP} {ns : List (Bool × Bool)} {ms : List Msg} {nx : Int}

/-- A cell of a node is written. -/
theorem NetAt.setNode (h : NetAt w r q ns ms nx) {i : Int} (hi : hasN ns i = true) (j : Nat) (hj : j < 2) (v : Bool) (x : Bool × Bool) (hx : [Value.bool x.1, Value.bool x.2] = [Value.bool (ndAt ns i).1, Value.bool (ndAt ns i).2].set j (.bool v)) :
    ∃ a, q.sn.p = some a ∧ a.spot = none ∧ 0 ≤ i ∧ i < ((q.sn.l : Nat) : Int) ∧ canW w ((Addr.add a ((Int.toNat i) * 2)).add j) 1 ∧ ∀ w', w' = World.setCell w ((Addr.add a ((Int.toNat i) * 2)).add j) (.bool v) →
      ∃ q', q'.sn = q.sn ∧ q'.sw = q.sw ∧ NetAt w' r q' (ns.set i.toNat x) ms nx ∧ NetTo r q q' w w' := by
  have hi2 : 0 ≤ i ∧ i < ns.length := by simpa [hasN] using hi
  have hl := h.n.sl
  have hlen := h.n.len
  have hi3 : i.toNat < q.nss.length := by omega
  have hi4 : i.toNat < ns.length := by omega
  obtain ⟨a, ha, hsp, hrow⟩ := h.n.get hi3
  have hR : q.nss[i.toNat] = [.bool ns[i.toNat].1, .bool ns[i.toNat].2] := h.n.row i.toNat hi3 hi4
  have hnd : ndAt ns i = ns[i.toNat] := by simp [ndAt, List.getD, hi4]
  have hcs : q.nss[i.toNat].take j ++ [Value.bool v] ++ q.nss[i.toNat].drop (j + [Value.bool v].length) = [Value.bool x.1, Value.bool x.2] := by
    rw [hR, hx, hnd]
    have : j = 0 ∨ j = 1 := by omega
    rcases this with rfl | rfl <;> rfl
  obtain ⟨cw, g⟩ := h.n.set hi3 j [.bool v] (show j + 1 ≤ 2 by omega) x ha (fun w' _ => by rw [hcs]; rfl) (fun k hk => by rw [hcs] at hk; exact (foot_node hk).elim)
  refine ⟨a, ha, hsp, hi2.1, by omega, cw, fun w' hw' => ?_⟩
  obtain ⟨g1, g2, g3⟩ := g w' (by rw [hw']; simp only [setCells, addr0]; rfl)
  rw [hcs] at g1
  refine ⟨⟨q.sn, q.sw, q.nss.set i.toNat [Value.bool x.1, Value.bool x.2], q.mss⟩, rfl, rfl, ⟨h.o.ext g2 h.dn, g1, h.m.ext g2 (fun k hk hh => h.dd k hh hk) (fun k hk hh => (h.df k hk).2 hh), h.dn, h.dw, h.dd, h.df⟩, ⟨⟨g2.mono (fun k hk => .inr (.inl hk)), fun k hk => .inl hk⟩, fun k hk => .inl hk⟩⟩

def setUp (ns : List (Bool × Bool)) (i : Int) (up : Bool) : List (Bool × Bool) := if hasN ns i = true then ns.set i.toNat (up, (ndAt ns i).2) else ns
theorem Set_spec (h : NetAt w r q ns ms nx) (i : Int) (up : Bool) :
    Calls Tryd.prog fn_net_Net_Set ⟨[ptrR r, .int .i64 i, .bool up]⟩ w fun e w' => e = .returned (.tuple #[]) ∧ ∃ q', NetAt w' r q' (setUp ns i up) ms nx ∧ NetTo r q q' w w' := by
  refine net_Net_Set_ok _ _ _ ?_
  unfold net_Net_Set
  refine (has_spec h i).mono ?_
  rintro e w5 ⟨rfl, rfl⟩
  refine ⟨_, rfl, BIf_mk (fun h1 => ?_) (fun h1 => ?_)⟩
  · obtain ⟨a, ha, hsp, h2, h3, h4, h5⟩ := h.setNode h1 0 (by omega) up (up, (ndAt ns i).2) rfl
    rw [addr0] at h4 h5
    refine needSome_mk rfl ⟨_, h.c0, needSome_mk ha ⟨h2, h3, h4, fun w10 hw10 => ?_⟩⟩
    obtain ⟨q', _, _, hN, hT⟩ := h5 w10 hw10
    exact ⟨rfl, q', by rw [setUp, if_pos h1]; exact hN, hT⟩
  · exact ⟨rfl, q, by rw [setUp, if_neg (by rw [h1]; decide)]; exact h, NetTo.keep (Ext.refl _ _)⟩

theorem Index_spec (s : Slc) (l : List Int) (v : Int) (w : World) (h : intsAt w s l) (hl : l.length ≤ 2 ^ 40) :
    Calls Tryd.prog fn_slices_Index_int ⟨[s.v, .int .i64 v]⟩ w fun e w' => ∃ i, e = .returned (.int .i64 i) ∧ w' = w ∧ ((0 ≤ i ∧ v ∈ l) ∨ (i = -1 ∧ v ∉ l)) := by
  have hsl := h.1
  refine slices_Index_int_ok _ _ ?_
  unfold slices_Index_int
  refine ⟨fun i w2 => w2 = w ∧ ∃ k : Nat, i = k ∧ k ≤ l.length ∧ v ∉ l.take k, fun i _ => ((l.length : Int) - i).toNat, ⟨rfl, 0, rfl, by omega, by simp⟩, ?_⟩
  rintro i w2 ⟨rfl, k, rfl, hk, hno⟩
  intros
  refine BIf_dec (fun h1 => ?_) (fun h1 => ?_)
  · have hkl : k < l.length := by omega
    obtain ⟨a, ha, hc⟩ := intsAt_cell h hkl
    refine needSome_mk ha ⟨by omega, h1, l[k], by rw [show Int.toNat (k : Int) * 1 = k by omega]; exact hc, BIf_dec (fun h2 => ⟨_, rfl, rfl, .inl ⟨by omega, h2 ▸ List.getElem_mem hkl⟩⟩) (fun h2 => ?_)⟩
    have h4 : v ∉ l.take (k + 1) := by
      have e5 : l.take (k + 1) = l.take k ++ [l[k]] := by rw [List.take_add_one, List.getElem?_eq_getElem hkl]; rfl
      rw [e5, List.mem_append, List.mem_singleton]
      rintro (h6 | h6)
      · exact hno h6
      · exact h2 h6
    exact ⟨inR64 (by omega), ⟨rfl, k + 1, rfl, hkl, h4⟩, by dsimp only; omega⟩
  · rw [List.take_of_length_le (by omega)] at hno
    exact ⟨_, rfl, rfl, .inr ⟨rfl, hno⟩⟩
theorem Contains_spec (s : Slc) (l : List Int) (v : Int) (w : World) (h : intsAt w s l) (hl : l.length ≤ 2 ^ 40) :
    Calls Tryd.prog fn_slices_Contains_int ⟨[s.v, .int .i64 v]⟩ w fun e w' => e = .returned (.bool (decide (v ∈ l))) ∧ w' = w := by
  refine slices_Contains_int_ok _ _ ?_
  unfold slices_Contains_int
  refine (Index_spec s l v w h hl).mono ?_
  rintro e w4 ⟨i, rfl, rfl, hi⟩
  refine ⟨i, rfl, ?_, rfl⟩
  rcases hi with ⟨h0, hm⟩ | ⟨rfl, hm⟩
  · rw [decide_eq_true h0, decide_eq_true hm]
  · rw [decide_eq_false hm]; rfl

def partN (ns : List (Bool × Bool)) (l : List Int) : List (Bool × Bool) := ns.mapIdx fun i x => (x.1, decide ((i : Int) ∈ l))
def partK (k : Nat) (ns : List (Bool × Bool)) (l : List Int) : List (Bool × Bool) := ns.mapIdx fun i x => if i < k then (x.1, decide ((i : Int) ∈ l)) else x
theorem partK_zero (ns : List (Bool × Bool)) (l : List Int) : partK 0 ns l = ns := by
  apply List.ext_getElem
  · simp [partK]
  · intro i h1 h2; simp [partK]
theorem partK_len (k : Nat) (ns : List (Bool × Bool)) (l : List Int) : (partK k ns l).length = ns.length := by simp [partK]
theorem partK_all (k : Nat) (ns : List (Bool × Bool)) (l : List Int) (h : ns.length ≤ k) : partK k ns l = partN ns l := by
  apply List.ext_getElem
  · simp [partK, partN]
  · intro i h1 h2
    have : i < k := by simp [partK] at h1; omega
    simp [partK, partN, this]
theorem partK_succ (k : Nat) (ns : List (Bool × Bool)) (l : List Int) (h : k < ns.length) : partK (k + 1) ns l = (partK k ns l).set k ((ndAt (partK k ns l) (k : Int)).1, decide ((k : Int) ∈ l)) := by
  have e0 : ndAt (partK k ns l) (k : Int) = ns[k] := by
    have hk : k < (partK k ns l).length := by rw [partK_len]; exact h
    rw [ndAt, show Int.toNat (k : Int) = k by omega, List.getD, List.getElem?_eq_getElem hk]
    simp [partK]
  rw [e0]
  apply List.ext_getElem
  · simp [partK]
  · intro i h1 h2
    rw [List.getElem_set]
    by_cases hik : k = i
    · subst hik; simp [partK]
    · rw [if_neg hik]
      simp only [partK, List.getElem_mapIdx]
      by_cases h3 : i < k
      · rw [if_pos h3, if_pos (by omega)]
      · rw [if_neg h3, if_neg (by omega)]

theorem Part_spec (h : NetAt w r q ns ms nx) (s : Slc) (l : List Int) (hs : intsAt w s l) (hs2 : l ≠ [] → ∀ k, ownB s k → ¬ NetM r q k) (hl : l.length ≤ 2 ^ 40) (hnl : ns.length ≤ 2 ^ 40) :
    Calls Tryd.prog fn_net_Net_Part ⟨[ptrR r, s.v]⟩ w fun e w' => e = .returned (.tuple #[]) ∧ ∃ q', NetAt w' r q' (partN ns l) ms nx ∧ NetTo r q q' w w' := by
  refine net_Net_Part_ok _ _ ?_
  unfold net_Net_Part
  have hsl := h.n.sl
  refine needSome_mk rfl ⟨_, h.c0, fun i w2 => ∃ (k : Nat) (q2 : NetP), i = k ∧ k ≤ ns.length ∧ q2.sn = q.sn ∧ q2.sw = q.sw ∧ NetAt w2 r q2 (partK k ns l) ms nx ∧ NetTo r q q2 w w2, fun i _ => ((ns.length : Int) - i).toNat,
    ⟨0, q, rfl, by omega, rfl, rfl, by rw [partK_zero]; exact h, NetTo.keep (Ext.refl _ _)⟩, ?_⟩
  rintro i w2 ⟨k, q2, rfl, hk, hq1, hq2, hN, hT⟩
  intros
  refine BIf_dec (fun h1 => ?_) (fun h1 => ?_)
  · have hkl : k < ns.length := by omega
    have hNd := hN.keep (Ext.drew _ w2)
    have hs3 : intsAt w2.drew s l := by
      by_cases h0 : l = []
      · subst h0; exact ⟨hs.1, .inl rfl⟩
      · exact intsAt_ext (intsAt_ext hs hT.1.1 (fun k hk => hs2 h0 k hk)) (Ext.drew none0 w2) (fun _ _ h => h)
    refine needSome_mk rfl ⟨_, hNd.c0, ?_⟩
    refine (Contains_spec s l k _ hs3 hl).mono ?_
    rintro e w26 ⟨rfl, rfl⟩
    have hh : hasN (partK k ns l) (k : Int) = true := by simp [hasN, partK_len, hkl]
    obtain ⟨a, ha, hsp, g2, g3, g4, g5⟩ := hNd.setNode hh 1 (by omega) (decide ((k : Int) ∈ l)) ((ndAt (partK k ns l) (k : Int)).1, decide ((k : Int) ∈ l)) rfl
    refine ⟨_, rfl, ⟨_, hNd.c0, rfl⟩, needSome_mk ha ⟨g2, g3, g4, fun w30 hw30 => ?_⟩⟩
    obtain ⟨q3, e1, e2, hN3, hT3⟩ := g5 w30 hw30
    refine ⟨inR64 (by omega), ⟨k + 1, q3, rfl, hkl, e1.trans hq1, e2.trans hq2, by rw [partK_succ k ns l hkl]; exact hN3, (hT.keepR (Ext.drew _ w2)).trans hT3⟩, by dsimp only; omega⟩
  · exact ⟨rfl, q2, by rw [← partK_all k ns l (by omega)]; exact hN, hT⟩
theorem Join_spec (h : NetAt w r q ns ms nx) (hnl : ns.length ≤ 2 ^ 40) :
    Calls Tryd.prog fn_net_Net_Join ⟨[ptrR r]⟩ w fun e w' => e = .returned (.tuple #[]) ∧ ∃ q', NetAt w' r q' (partN ns []) ms nx ∧ NetTo r q q' w w' := by
  refine net_Net_Join_ok _ ?_
  unfold net_Net_Join
  refine (Part_spec h ⟨none, 0, 0⟩ [] ⟨rfl, .inl rfl⟩ (fun hh => absurd rfl hh) (by simp) hnl).mono ?_
  rintro e w3 ⟨rfl, hq⟩
  exact ⟨rfl, rfl, hq⟩

/-! ### what is on its way -/
theorem CloneM_spec {s : Slc} {css : List (List Value)} (h : Rows MsgR w s ms css) (hl : ms.length ≤ 2 ^ 30) :
    Calls Tryd.prog fn_slices_Clone_Message ⟨[s.v]⟩ w fun e w' => ∃ t : Slc, e = .returned t.v ∧ Rows MsgR w' t ms css ∧ Keep w w' ∧ ∀ k, ownB t k → w.heap.size ≤ k := by
  refine slices_Clone_Message_ok _ ?_
  unfold slices_Clone_Message
  refine BIf_mk (fun h1 => ?_) (fun h1 => ?_)
  · obtain ⟨rfl, rfl⟩ := h.pnil (by simpa using h1)
    exact ⟨_, rfl, Rows.nil _ _, Ext.refl _ _, by rintro k ⟨a, ha, _⟩; cases ha⟩
  · refine newS_mk (fun r2 w3 hr2 hb2 k3 hs3 => ?_)
    have h3 := h.keep k3
    refine h3.clone (e := MsgR) rfl hb2 (fun hh => by have := h.flt _ hh; omega) hl (fun s' w' g1 g2 g3 => ⟨s', rfl, g1, k3.ext g2 (fun k hk => by omega), fun k hk => ?_⟩)
    have := g3 k hk
    have := k3.size
    omega

theorem Waiting_spec (h : NetAt w r q ns ms nx) (hl : ms.length ≤ 2 ^ 30) :
    Calls Tryd.prog fn_net_Net_Waiting ⟨[ptrR r]⟩ w fun e w' => ∃ (t : Slc) (css : List (List Value)), e = .returned t.v ∧ Rows MsgR w' t ms css ∧ Keep w w' := by
  refine net_Net_Waiting_ok _ ?_
  unfold net_Net_Waiting
  refine needSome_mk rfl ⟨_, h.c1, ?_⟩
  refine (CloneM_spec h.m hl).mono ?_
  rintro e w5 ⟨t, rfl, hR5, k5, ht⟩
  have htl := hR5.sl
  refine ⟨t, rfl, fun i w2 => ∃ (k : Nat) (css : List (List Value)), i = k ∧ k ≤ ms.length ∧ Rows MsgR w2 t ms css ∧ Keep w w2, fun i _ => ((ms.length : Int) - i).toNat, ⟨0, _, rfl, by omega, hR5, k5⟩, ?_⟩
  rintro i w2 ⟨k, css, rfl, hk, hR, k2⟩
  intros
  refine BIf_dec (fun h1 => ?_) (fun h1 => ⟨t, css, rfl, hR, k2⟩)
  have hkl : k < ms.length := by omega
  have hkc : k < css.length := by rw [hR.len]; exact hkl
  obtain ⟨a, ha, hsp, hrow⟩ := hR.get hkc
  obtain ⟨s, hcs, hb, hb2⟩ := hR.row k hkc hkl
  rw [hcs] at hrow
  have ek : Int.toNat (k : Int) * 4 = k * 4 := by omega
  have hbl := hb.1
  refine needSome_mk ha ⟨by omega, h1, s, by rw [ek]; exact hrow.2.2.2.1, ?_⟩
  refine (CloneB_own s _ w2 hb (by omega)).mono ?_
  rintro e w28 ⟨s29, rfl, own29, fr29, k28⟩
  have hR28 := hR.keep k28
  have hlt := hR.lt
  have hcs2 : css[k].take 3 ++ [s29.v] ++ css[k].drop (3 + [s29.v].length) = msgC ms[k].1 ms[k].2.1 ms[k].2.2.1 s29 := by rw [hcs]; rfl
  obtain ⟨cw, g⟩ := hR28.set hkc 3 [s29.v] (by show 3 + 1 ≤ 4; omega) ms[k] ha (fun w' he => by
      rw [hcs2]
      exact ⟨s29, rfl, bytesAt_ext own29.bytes he (fun x hx hh => by have := fr29 x hx; have := hlt x hh; omega), hb2⟩)
    (fun x hx hh => by rw [hcs2] at hx; have := fr29 x (foot_msg hx).2; have := hlt x hh; omega)
  refine ⟨s29, rfl, needSome_mk ha ⟨by omega, h1, by rw [ek]; exact cw, fun w31 hw31 => ?_⟩⟩
  obtain ⟨g1, g2, g3⟩ := g w31 (by rw [hw31, ek]; simp only [setCells, addr0]; rfl)
  rw [List.set_getElem_self] at g1
  exact ⟨inR64 (by omega), ⟨k + 1, _, rfl, hkl, g1, (k2.trans k28).ext g2 (fun x hx => ht x hx)⟩, by dsimp only; omega⟩

/-! ### a new one -/
theorem Mul64_one (n : Int) (hn : 1 ≤ n ∧ n ≤ 16) (w : World) :
    Calls Tryd.prog fn_math_bits_Mul64 ⟨[.int .u64 1, .int .u64 n]⟩ w fun e w' => e = .returned (.tuple ⟨[.int .u64 0, .int .u64 n]⟩) ∧ w' = w := by
  refine math_bits_Mul64_ok _ _ ?_
  have : n = 1 ∨ n = 2 ∨ n = 3 ∨ n = 4 ∨ n = 5 ∨ n = 6 ∨ n = 7 ∨ n = 8 ∨ n = 9 ∨ n = 10 ∨ n = 11 ∨ n = 12 ∨ n = 13 ∨ n = 14 ∨ n = 15 ∨ n = 16 := by omega
  unfold math_bits_Mul64
  rcases this with rfl | rfl | rfl | rfl | rfl | rfl | rfl | rfl | rfl | rfl | rfl | rfl | rfl | rfl | rfl | rfl <;>
  exact ⟨by decide, by decide, inRu64 (by decide), inRu64 (by decide), by decide, by decide, by decide, by decide, inRu64 (by decide), inRu64 (by decide), by decide, by decide, by decide, by decide, by decide, by decide, inRu64 (by decide), inRu64 (by decide), by decide, by decide, by decide, by decide, rfl, rfl⟩
theorem repl_add (a b : Nat) (z : List Value) : repl (a + b) z = repl a z ++ repl b z := by
  simp only [repl, ← List.replicate_append_replicate, List.flatten_append]
def upC : List Value := [.bool true, .bool false]
def dnC : List Value := [.bool false, .bool false]

theorem Repeat_spec (r : Nat) (n : Nat) (hn : 1 ≤ n ∧ n ≤ 16) (w : World) (h : ObjAt w r upC) :
    Calls Tryd.prog fn_slices_Repeat_node ⟨[Slc.v ⟨some ⟨r, 0, none⟩, 1, 1⟩, .int .i64 (n : Int)]⟩ w fun e w' => ∃ b, e = .returned (Slc.v ⟨some ⟨b, 0, none⟩, n, n⟩) ∧ ObjAt w' b (repl n upC) ∧ Keep w w' ∧ w.heap.size ≤ b := by
  refine slices_Repeat_node_ok _ _ ?_
  unfold slices_Repeat_node
  refine ⟨fun w2 => w2 = w, BIf_dec (fun h1 => by omega) (fun _ => rfl), ?_⟩
  rintro w4 rfl
  intros
  have ew : IntKind.wrap .u64 (((1 : Nat) : Nat) : Int) = 1 := by decide
  have en : IntKind.wrap .u64 (n : Int) = n := wrap_inR (inRu64 (by omega))
  have en2 : IntKind.wrap .i64 (n : Int) = n := wrap_inR (inR64 (by omega))
  rw [show ((⟨some ⟨r, 0, none⟩, 1, 1⟩ : Slc).l) = 1 from rfl, ew, en]
  have hmul : Calls Tryd.prog fn_math_bits_Mul ⟨[.int .u64 1, .int .u64 (n : Int)]⟩ w4 fun e w' => e = .returned (.tuple ⟨[.int .u64 0, .int .u64 (n : Int)]⟩) ∧ w' = w4 := by
    refine math_bits_Mul_ok _ _ ?_
    unfold math_bits_Mul
    refine (Mul64_one n (by omega) w4).mono ?_
    rintro e w' ⟨rfl, rfl⟩
    exact ⟨_, _, rfl, rfl, rfl⟩
  refine hmul.mono ?_
  rintro e w9 ⟨rfl, rfl⟩
  refine ⟨_, _, rfl, fun w2 => w2 = w9, BIf_dec (fun h1 => by omega) (fun _ => BIf_dec (fun h1 => by omega) (fun _ => rfl)), ?_⟩
  rintro w13 rfl
  intros
  rw [en2, show Int.toNat (n : Int) = n by omega]
  refine ⟨by omega, by omega, by omega, newS_mk (fun b w22 hb22 hbb k22 hs22 => ?_)⟩
  obtain ⟨T0, hbb'⟩ : ∃ T, w22.heap[b]? = some (.cells ⟨repl n dnC⟩ T) := ⟨_, hbb⟩
  have ul : ∀ m, (repl m upC).length = m * 2 := fun m => repl_length m upC
  have dl : ∀ m, (repl m dnC).length = m * 2 := fun m => repl_length m dnC
  have uone : ∀ m, ∀ v ∈ repl m upC, v.oneCell' = true := by
    intro m v hv
    obtain ⟨y, hy, hv⟩ := List.mem_flatten.1 hv
    rw [(List.mem_replicate.1 hy).2] at hv
    simp [upC] at hv
    rcases hv with rfl | rfl <;> rfl
  have step : ∀ (k m : Nat) (T : TypeId) (w2 : World), k + m ≤ n → w2.heap[b]? = some (.cells ⟨repl k upC ++ repl (n - k) dnC⟩ T) →
      canW w2 ⟨b, k * 2, none⟩ (m * 2) ∧ ∀ w1, w1 = setCells w2 ⟨b, k * 2, none⟩ 0 (repl m upC) → w1.heap[b]? = some (.cells ⟨repl (k + m) upC ++ repl (n - (k + m)) dnC⟩ T) ∧ Ext (fun x => x = b) w2 w1 := by
    intro k m T w2 hkm hb2
    refine ⟨canW_of hb2 (.inl (by simp)) _ _ (by rw [List.length_append, ul, dl]; omega), ?_⟩
    rintro w1 rfl
    refine ⟨?_, Ext.setCells (M := fun x => x = b) (a := (⟨b, k * 2, none⟩ : Addr)) rfl _ 0 w2⟩
    have hh := setCells_heap (repl m upC) w2 _ (k * 2) 0 hb2
    have e1 : k * 2 + 0 = (repl k upC).length := by rw [ul]; omega
    rw [e1, setFrom_mid _ _ _ (by rw [ul, dl]; omega), ← repl_add] at hh
    have e2 : (repl (n - k) dnC).drop (repl m upC).length = repl (n - (k + m)) dnC := by
      rw [ul, show n - k = m + (n - (k + m)) by omega, repl_add, List.drop_append_of_le_length (by rw [dl]; omega), List.drop_of_length_le (by rw [dl]; omega), List.nil_append]
    rw [e2] at hh
    exact hh
  have hrb : r ≠ b := by have := h.lt; omega
  obtain ⟨cw, g⟩ := step 0 1 T0 w22 (by omega) (by simpa [repl] using hbb')
  have h22 := h.keep k22
  refine ⟨upC, ?_, ?_, ?_, ?_, ?_⟩
  · show 2 = min 1 n * 2; omega
  · refine .inr ⟨_, rfl, fun i hi => ?_⟩
    rw [add_lit, Nat.zero_add]; exact h22.cell i hi
  · exact fun v hv => uone 1 v (by simpa [repl] using hv)
  · rintro a ha
    cases ha
    have : upC.length = 1 * 2 := rfl
    rw [this]
    simpa using cw
  intro w24 hw24
  obtain ⟨g1, g2⟩ := g w24 (by rw [hw24]; simp [repl])
  have e1 : (min ((Src.slc ⟨some ⟨r, 0, none⟩, 1, 1⟩).n) n : Nat) = 1 := by show min 1 n = 1; omega
  dsimp only
  rw [e1]
  refine ⟨fun i w2 => ∃ k : Nat, i = k ∧ 1 ≤ k ∧ k ≤ n ∧ w2.heap[b]? = some (.cells ⟨repl k upC ++ repl (n - k) dnC⟩ T0) ∧ Keep w13 w2, fun i _ => ((n : Int) - i).toNat, ⟨1, rfl, by omega, by omega, g1, k22.step (by omega) g2⟩, ?_⟩
  rintro i w28 ⟨k, rfl, hk1, hk, hb28, k28⟩
  intros
  refine BIf_dec (fun h1 => ?_) (fun h1 => ?_)
  · have hkn : k < n := by omega
    refine ⟨by omega, by omega, by omega, by omega, by omega, by omega, by omega, by omega, ?_⟩
    rw [show Int.toNat (k : Int) = k by omega]
    have hd : w28.drew.heap[b]? = some (.cells ⟨repl k upC ++ repl (n - k) dnC⟩ T0) := hb28
    obtain ⟨cw, g⟩ := step k (min k (n - k)) T0 w28.drew (by omega) hd
    have hs1 : Slc.sub (⟨some ⟨b, 0, none⟩, n, n⟩ : Slc) 2 k n n = ⟨some ⟨b, k * 2, none⟩, n - k, n - k⟩ := by
      unfold Slc.sub
      rw [if_neg (by omega)]
      simp only [Option.map_some, add_lit, Nat.zero_add]
    have hs2 : Slc.sub (⟨some ⟨b, 0, none⟩, n, n⟩ : Slc) 2 0 k n = ⟨some ⟨b, 0, none⟩, k, n⟩ := by
      unfold Slc.sub
      split
      · simp
      · simp only [Option.map_some, add_lit, Nat.zero_mul, Nat.zero_add, Nat.sub_zero]
    rw [hs1, hs2]
    refine ⟨repl (min k (n - k)) upC, ?_, ?_, uone _, ?_, ?_⟩
    · rw [ul]; rfl
    · refine .inr ⟨_, rfl, fun i hi => ?_⟩
      rw [ul] at hi
      rw [add_lit, Nat.zero_add, cell_of hd, List.getElem?_append_left (by rw [ul]; omega)]
      rw [List.getElem?_eq_getElem (by rw [ul]; omega)]
      congr 1
      have e3 : repl k upC = repl (min k (n - k)) upC ++ repl (k - min k (n - k)) upC := by rw [← repl_add]; congr 1; omega
      simp only [e3]
      rw [List.getElem_append_left]
    · rintro a ha
      cases ha
      rw [ul]; exact cw
    · intro w45 hw45
      obtain ⟨g3, g4⟩ := g w45 hw45
      have e4 : (min (Src.slc ⟨some ⟨b, 0, none⟩, k, n⟩).n (n - k) : Nat) = min k (n - k) := rfl
      dsimp only
      rw [e4]
      refine ⟨inR64 (by omega), ⟨k + min k (n - k), by omega, by omega, by omega, g3, k28.drew.step (by omega) g4⟩, by omega⟩
  · obtain rfl : k = n := by omega
    rw [Nat.sub_self] at hb28
    refine ⟨b, rfl, ⟨T0, (0, 0), by simpa [repl] using hb28, clear0 _⟩, k28, by omega⟩

def upN (n : Nat) : List (Bool × Bool) := List.replicate n (true, false)
theorem New_spec (A : Nat → Addr) (n0 : Nat) (n : Int) (w : World) (hE : ErrsB A n0 w) :
    Calls Tryd.prog fn_net_New ⟨[.int .i64 n]⟩ w fun e w' => (¬ (1 ≤ n ∧ n ≤ 16) ∧ e = .returned (.tuple ⟨[.pointer none, errV A (errG.getD 0 0)]⟩) ∧ Keep w w') ∨
      (1 ≤ n ∧ n ≤ 16 ∧ ∃ r q, e = .returned (.tuple ⟨[ptrR r, .nilIface]⟩) ∧ NetAt w' r q (upN n.toNat) [] 0 ∧ Keep w w' ∧ (∀ k, NetM r q k → w.heap.size ≤ k) ∧ ∀ k, ¬ NetF q k) := by
  refine net_New_ok _ ?_
  unfold net_New
  refine BIf_dec (fun h1 => ?_) (fun h1 => BIf_dec (fun h2 => ?_) (fun h2 => ?_))
  · exact ⟨_, Errs.at (hE.keep (Ext.drew _ w)).1 0 (by omega), .inl ⟨by omega, rfl, Ext.drew _ _⟩⟩
  · exact ⟨_, Errs.at (hE.keep (Ext.drew _ w)).1 0 (by omega), .inl ⟨by omega, rfl, Ext.drew _ _⟩⟩
  · obtain ⟨m, rfl⟩ : ∃ m : Nat, n = m := ⟨n.toNat, by omega⟩
    refine newS_mk (fun r4 w5 hr4 hb4 k5 hs5 => ?_)
    refine (Repeat_spec r4 m (by omega) w5 (ObjAt.new' hb4)).mono ?_
    rintro e w7 ⟨b, rfl, hb, k7', hbn⟩
    have k7 := k5.trans k7'
    refine ⟨_, rfl, newS_mk (fun r9 w10 hr9 hb9 k10' hs10 => ?_)⟩
    have k10 := k7.trans k10'
    have hb10 := hb.keep k10'
    have z7 := k7.size
    have z5 := k5.size
    have hbl := hb.lt
    have hown : ∀ k, ownB ⟨some ⟨b, 0, none⟩, m, m⟩ k → k = b := by rintro k ⟨a, ha, rfl⟩; cases ha; rfl
    have hnone : ∀ k, ¬ ownB ⟨none, 0, 0⟩ k := by rintro k ⟨a, ha, _⟩; cases ha
    rw [show Int.toNat (m : Int) = m by omega]
    refine .inr ⟨by omega, by omega, r9, ⟨⟨some ⟨b, 0, none⟩, m, m⟩, ⟨none, 0, 0⟩, List.replicate m upC, []⟩, rfl, ⟨ObjAt.new' hb9, ?_, Rows.nil _ _, fun hh => by have := hown _ hh; omega, hnone _, fun k _ hh => hnone k hh, fun k hk => by obtain ⟨_, hc, _⟩ := hk; cases hc⟩, k10, ?_, fun k hk => by obtain ⟨_, hc, _⟩ := hk; cases hc⟩
    · obtain ⟨T, f, g1, g2⟩ := hb10
      refine ⟨Own.new (sz := 2) (n := m) g1 g2 (repl_length m upC), by simp [upN], fun i hi hi' => ?_, fun k hk => ?_⟩
      · simp only [List.getElem_replicate, upN]; rfl
      · obtain ⟨c, hc, hk⟩ := hk
        rw [(List.mem_replicate.1 hc).2] at hk
        exact (foot_node hk).elim
    · rintro k (rfl | hk | hk)
      · omega
      · have := hown k hk; omega
      · exact (hnone k hk).elim
end Go.D
