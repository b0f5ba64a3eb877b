/-
  WHAT IS PROVED: contracts of functions, and the plain law, for this proof. No further conditions.
-/
import Derived.Test.YtaagbjbgaockdaaDoorVCnet
import Derived.Test.YtaagbjbgaockdaaDoorErrB
import Derived.Test.YtaagbjbgaockdaaDoorRowsM
import Derived.Test.YtaagbjbgaockdaaDoorMapM
set_option linter.unusedVariables false
set_option linter.unusedSimpArgs false
namespace Go.D
open Go Go.Proofs

theorem addr0 (a : Addr) : a.add 0 = a := by simp [Addr.add]
theorem bytesAt_lt {w : World} {s : Slc} {b : List UInt8} (h : bytesAt w s b) (hl : 0 < s.l) : ∀ k, ownB s k → k < w.heap.size := by
  rintro k ⟨a, ha, rfl⟩
  have hb : 0 < (b.map byteV).length := by rw [List.length_map, ← h.1]; exact hl
  obtain ⟨a', ha', hc⟩ := cellsAt_get h.2 hb
  rw [ha] at ha'
  cases ha'
  have := World.block_lt_of_cell? w _ hc
  rwa [add_block] at this
theorem bytesAt_stay {M : Nat → Prop} {w w' : World} {s : Slc} {b : List UInt8} (h : bytesAt w s b) (he : Ext M w w') (hm : 0 < s.l → ∀ k, ownB s k → ¬ M k) : bytesAt w' s b := by
  rcases Nat.eq_zero_or_pos s.l with h0 | h0
  · have : b = [] := by have := h.1; rw [h0] at this; exact List.length_eq_zero_iff.1 this.symm
    subst this
    exact ⟨h.1, .inl rfl⟩
  · exact bytesAt_ext h he (hm h0)

abbrev Msg := Int × Int × Int × List UInt8
def NodeR : RowD (Bool × Bool) where
  n := 2
  pos := by omega
  R _ x cs := cs = [.bool x.1, .bool x.2]
  len h := by rw [h]; rfl
  one h := by rw [h]; intro v hv; simp at hv; rcases hv with rfl | rfl <;> rfl
  ext h _ _ := h
  lt h := by rw [h]; rintro k ⟨s, hs, _⟩; simp [Slc.v] at hs
theorem foot_node {a b : Bool} {k : Nat} : ¬ footV [.bool a, .bool b] k := by rintro ⟨s, hs, _⟩; simp [Slc.v] at hs
theorem footC_node {w : World} {s : Slc} {ns : List (Bool × Bool)} {nss : List (List Value)} (h : Rows NodeR w s ns nss) (k : Nat) : ¬ footC nss k := by
  rintro ⟨cs, hc, hk⟩
  obtain ⟨i, hi, rfl⟩ := List.getElem_of_mem hc
  have : nss[i] = _ := h.row i hi (by rw [← h.len]; exact hi)
  rw [this] at hk
  exact foot_node hk
def msgC (n f t : Int) (s : Slc) : List Value := [.int .i64 n, .int .i64 f, .int .i64 t, s.v]
theorem foot_msg {n f t : Int} {s : Slc} {k : Nat} (h : footV (msgC n f t s) k) : 0 < s.l ∧ ownB s k := by
  obtain ⟨s', hs, h1, h2⟩ := h
  have : s' = s := by
    obtain ⟨p, l, c⟩ := s
    obtain ⟨p', l', c'⟩ := s'
    simp [msgC, Slc.v] at hs
    obtain ⟨rfl, rfl, rfl⟩ := hs
    rfl
  subst this
  exact ⟨h1, h2⟩
theorem msg_one (n f t : Int) (s : Slc) : ∀ v ∈ msgC n f t s, v.oneCell' = true := by
  intro v hv
  simp [msgC] at hv
  rcases hv with rfl | rfl | rfl | rfl <;> rfl
def MsgR : RowD Msg where
  n := 4
  pos := by omega
  R w x cs := ∃ s : Slc, cs = msgC x.1 x.2.1 x.2.2.1 s ∧ bytesAt w s x.2.2.2 ∧ x.2.2.2.length ≤ 4096
  len := by rintro w x cs ⟨s, rfl, _⟩; rfl
  one := by rintro w x cs ⟨s, rfl, _⟩; exact msg_one _ _ _ _
  ext := by
    rintro M w w' x cs ⟨s, rfl, h, h2⟩ he hm
    exact ⟨s, rfl, bytesAt_stay h he (fun h0 k hk => hm k ⟨s, by simp [msgC], h0, hk⟩), h2⟩
  lt := by
    rintro w x cs ⟨s, rfl, h, _⟩ k hk
    obtain ⟨h0, hk⟩ := foot_msg hk
    exact bytesAt_lt h h0 k hk

structure NetP where
  sn : Slc
  sw : Slc
  nss : List (List Value)
  mss : List (List Value)
structure NetAt (w : World) (r : Nat) (q : NetP) (ns : List (Bool × Bool)) (ms : List Msg) (nx : Int) : Prop where
  o : ObjAt w r [q.sn.v, q.sw.v, .int .i64 nx]
  n : Rows NodeR w q.sn ns q.nss
  m : Rows MsgR w q.sw ms q.mss
  dn : ¬ ownB q.sn r
  dw : ¬ ownB q.sw r
  dd : ∀ k, ownB q.sn k → ¬ ownB q.sw k
  df : ∀ k, footC q.mss k → k ≠ r ∧ ¬ ownB q.sn k
def NetM (r : Nat) (q : NetP) (k : Nat) : Prop := k = r ∨ ownB q.sn k ∨ ownB q.sw k
def NetF (q : NetP) (k : Nat) : Prop := footC q.mss k
theorem NetAt.ext {M : Nat → Prop} {w w' : World} {r : Nat} {q : NetP} {ns : List (Bool × Bool)} {ms : List Msg} {nx : Int} (h : NetAt w r q ns ms nx) (he : Ext M w w') (h1 : ∀ k, NetM r q k → ¬ M k) (h2 : ∀ k, NetF q k → ¬ M k) : NetAt w' r q ns ms nx :=
  ⟨h.o.ext he (h1 r (.inl rfl)), h.n.ext he (fun k hk => h1 k (.inr (.inl hk))) (fun k hk => (footC_node h.n k hk).elim), h.m.ext he (fun k hk => h1 k (.inr (.inr hk))) h2, h.dn, h.dw, h.dd, h.df⟩
theorem NetAt.keep {w w' : World} {r : Nat} {q : NetP} {ns : List (Bool × Bool)} {ms : List Msg} {nx : Int} (h : NetAt w r q ns ms nx) (he : Keep w w') : NetAt w' r q ns ms nx := h.ext he (fun _ _ h => h) (fun _ _ h => h)
theorem NetAt.c0 {w : World} {r : Nat} {q : NetP} {ns : List (Bool × Bool)} {ms : List Msg} {nx : Int} (h : NetAt w r q ns ms nx) : w.cell? ⟨r, 0, none⟩ = some q.sn.v := h.o.cell 0 (by simp)
theorem NetAt.c1 {w : World} {r : Nat} {q : NetP} {ns : List (Bool × Bool)} {ms : List Msg} {nx : Int} (h : NetAt w r q ns ms nx) : w.cell? ((⟨r, 0, none⟩ : Addr).add 1) = some q.sw.v := by rw [add_lit]; exact h.o.cell 1 (by simp)
theorem NetAt.c2 {w : World} {r : Nat} {q : NetP} {ns : List (Bool × Bool)} {ms : List Msg} {nx : Int} (h : NetAt w r q ns ms nx) : w.cell? ((⟨r, 0, none⟩ : Addr).add 2) = some (.int .i64 nx) := by rw [add_lit]; exact h.o.cell 2 (by simp)
theorem NetAt.lt {w : World} {r : Nat} {q : NetP} {ns : List (Bool × Bool)} {ms : List Msg} {nx : Int} (h : NetAt w r q ns ms nx) : ∀ k, NetM r q k → k < w.heap.size := by
  rintro k (rfl | hk | hk)
  · exact h.o.lt
  · exact h.n.lt k hk
  · exact h.m.lt k hk
theorem NetAt.flt {w : World} {r : Nat} {q : NetP} {ns : List (Bool × Bool)} {ms : List Msg} {nx : Int} (h : NetAt w r q ns ms nx) : ∀ k, NetF q k → k < w.heap.size := h.m.flt
theorem NetAt.fm {w : World} {r : Nat} {q : NetP} {ns : List (Bool × Bool)} {ms : List Msg} {nx : Int} (h : NetAt w r q ns ms nx) : ∀ k, NetF q k → ¬ NetM r q k := by
  rintro k hk (rfl | h1 | h1)
  · exact (h.df k hk).1 rfl
  · exact (h.df k hk).2 h1
  · exact h.m.sep k hk h1

variable {w : World} {r : Nat} {q : NetP} {ns : List (Bool × Bool)} {ms : List Msg} {nx : Int}
abbrev ptrR (r : Nat) : Value := .pointer (some ⟨r, 0, none⟩)

/-! ### reading -/
def hasN (ns : List (Bool × Bool)) (i : Int) : Bool := decide (0 ≤ i ∧ i < ns.length)
theorem has_spec (h : NetAt w r q ns ms nx) (i : Int) :
    Calls Tryd.prog fn_net_Net_has ⟨[ptrR r, .int .i64 i]⟩ w fun e w' => e = .returned (.bool (hasN ns i)) ∧ w' = w := by
  refine net_Net_has_ok _ _ ?_
  unfold net_Net_has hasN
  have hl := h.n.sl
  refine BIf_dec (fun h0 => needSome_mk rfl ⟨_, h.c0, ?_, rfl⟩) (fun h0 => ⟨?_, rfl⟩)
  · congr 2; rw [hl]; simp [h0]
  · congr 2; simp; omega
def ndAt (ns : List (Bool × Bool)) (i : Int) : Bool × Bool := ns.getD i.toNat (false, false)
def reachN (ns : List (Bool × Bool)) (a b : Int) : Bool := hasN ns a && hasN ns b && (ndAt ns a).1 && (ndAt ns b).1 && ((ndAt ns a).2 == (ndAt ns b).2)
theorem NetAt.node (h : NetAt w r q ns ms nx) {i : Int} (hi : hasN ns i = true) : ∃ a, q.sn.p = some a ∧ a.spot = none ∧ 0 ≤ i ∧ i < ((q.sn.l : Nat) : Int) ∧
    World.cell? w (Addr.add a ((Int.toNat i) * 2)) = some (.bool (ndAt ns i).1) ∧ World.cell? w ((Addr.add a ((Int.toNat i) * 2)).add 1) = some (.bool (ndAt ns i).2) := by
  have hi2 : 0 ≤ i ∧ i < ns.length := by simpa [hasN] using hi
  have hl := h.n.sl
  have hlen := h.n.len
  have hi3 : i.toNat < q.nss.length := by omega
  have hi4 : i.toNat < ns.length := by omega
  obtain ⟨a, ha, hsp, hrow⟩ := h.n.get hi3
  have hR : q.nss[i.toNat] = [.bool ns[i.toNat].1, .bool ns[i.toNat].2] := h.n.row i.toNat hi3 hi4
  rw [hR] at hrow
  have hnd : ndAt ns i = ns[i.toNat] := by simp [ndAt, List.getD, hi4]
  rw [hnd]
  exact ⟨a, ha, hsp, hi2.1, by omega, by have := hrow.1; rwa [addr0] at this, hrow.2.1⟩
theorem Reach_spec (h : NetAt w r q ns ms nx) (a b : Int) :
    Calls Tryd.prog fn_net_Net_Reach ⟨[ptrR r, .int .i64 a, .int .i64 b]⟩ w fun e w' => e = .returned (.bool (reachN ns a b)) ∧ Keep w w' := by
  refine net_Net_Reach_ok _ _ _ ?_
  unfold net_Net_Reach reachN
  have hd := h.keep (Ext.drew _ w)
  refine (has_spec hd a).mono ?_
  rintro e w5 ⟨rfl, rfl⟩
  refine ⟨_, rfl, BIf_mk (fun h1 => ?_) (fun h1 => ⟨by rw [h1]; rfl, Ext.drew _ _⟩)⟩
  refine (has_spec hd b).mono ?_
  rintro e w8 ⟨rfl, rfl⟩
  refine ⟨_, rfl, BIf_mk (fun h2 => ?_) (fun h2 => ⟨by rw [h2]; simp, Ext.drew _ _⟩)⟩
  obtain ⟨p, hp, _, a1, a2, a3, a4⟩ := hd.node h1
  obtain ⟨p', hp', _, b1, b2, b3, b4⟩ := hd.node h2
  rw [hp] at hp'
  cases hp'
  refine needSome_mk rfl ⟨_, hd.c0, needSome_mk hp ⟨a1, a2, _, a3, BIf_mk (fun h3 => ?_) (fun h3 => ⟨by rw [h3]; simp, Ext.drew _ _⟩)⟩⟩
  refine needSome_mk rfl ⟨_, hd.c0, needSome_mk hp ⟨b1, b2, _, b3, BIf_mk (fun h4 => ?_) (fun h4 => ⟨by rw [h4]; simp, Ext.drew _ _⟩)⟩⟩
  refine needSome_mk rfl ⟨_, hd.c0, needSome_mk hp ⟨a1, a2, _, a4, ?_⟩⟩
  refine needSome_mk rfl ⟨_, hd.c0, needSome_mk hp ⟨b1, b2, _, b4, ?_⟩⟩
  exact ⟨by rw [h1, h2, h3, h4]; rfl, Ext.drew _ _⟩

/-- What IndexFunc finds. -/
def FoundAt {α : Type} (p : α → Prop) (ms : List α) (i : Int) : Prop :=
  (∃ k : Nat, i = k ∧ ∃ h : k < ms.length, p ms[k] ∧ ∀ j (hj : j < k), ¬ p (ms[j]'(by omega))) ∨ (i = -1 ∧ ∀ j (hj : j < ms.length), ¬ p ms[j])

theorem NetAt.msg (h : NetAt w r q ns ms nx) {k : Nat} (hk : k < ms.length) : ∃ (a : Addr) (s : Slc), q.sw.p = some a ∧ a.spot = none ∧ ∃ hk' : k < q.mss.length, q.mss[k] = msgC ms[k].1 ms[k].2.1 ms[k].2.2.1 s ∧ rowAt w (Addr.add a (k * 4)) 0 (msgC ms[k].1 ms[k].2.1 ms[k].2.2.1 s) ∧ bytesAt w s ms[k].2.2.2 ∧ ms[k].2.2.2.length ≤ 4096 := by
  have hk2 : k < q.mss.length := by rw [h.m.len]; exact hk
  obtain ⟨a, ha, hsp, hrow⟩ := h.m.get hk2
  obtain ⟨s, hs, hb, hb2⟩ := h.m.row k hk2 hk
  rw [hs] at hrow
  exact ⟨a, s, ha, hsp, hk2, hs, hrow, hb, hb2⟩

theorem find_1_spec (m : Msg) (s : Slc) (n : Int) (b : Nat) (w : World) (hc : w.cell? ⟨b, 0, none⟩ = some (.int .i64 n)) :
    Calls Tryd.prog fn_net_Net_find_1 ⟨[.agg ⟨msgC m.1 m.2.1 m.2.2.1 s⟩, ptrR b]⟩ w fun e w' => e = .returned (.bool (decide (m.1 = n))) ∧ Keep w w' := by
  refine net_Net_find_1_ok _ _ _ _ _ ?_
  unfold net_Net_find_1
  refine newS_mk (fun r6 w7 hr6 hb6 k6 hs6 => ?_)
  exact ⟨m.1, (ObjAt.new' hb6).cell 0 (by simp), needSome_mk rfl ⟨n, k6.cell hc, rfl, k6⟩⟩

theorem IndexFunc_find_spec (h : NetAt w r q ns ms nx) (n : Int) (b : Nat) (hc : w.cell? ⟨b, 0, none⟩ = some (.int .i64 n)) (hl : ms.length ≤ 2 ^ 40) :
    Calls Tryd.prog fn_slices_IndexFunc_Message ⟨[q.sw.v, .func (.func fn_net_Net_find_1) ⟨[]⟩ ⟨[ptrR b]⟩]⟩ w fun e w' => ∃ i, e = .returned (.int .i64 i) ∧ FoundAt (fun m : Msg => m.1 = n) ms i ∧ Keep w w' := by
  refine slices_IndexFunc_Message_net_Net_find_1_ok _ _ ?_
  unfold slices_IndexFunc_Message_net_Net_find_1
  have hsl := h.m.sl
  refine ⟨fun i w2 => ∃ k : Nat, i = k ∧ k ≤ ms.length ∧ Keep w w2 ∧ ∀ j (hj : j < ms.length), j < k → ¬ ms[j].1 = n, fun i _ => ((ms.length : Int) - i).toNat, ⟨0, rfl, by omega, Ext.refl _ _, fun j _ hj => by omega⟩, ?_⟩
  rintro i w2 ⟨k, rfl, hk, k2, hno⟩
  intros
  refine BIf_dec (fun h1 => ?_) (fun h1 => ⟨_, rfl, .inr ⟨rfl, fun j hj => hno j hj (by omega)⟩, k2⟩)
  have hkl : k < ms.length := by omega
  obtain ⟨a, s, ha, hsp, hk', he, hrow, hb, _⟩ := (h.keep k2).msg hkl
  refine needSome_mk ha ⟨by omega, h1, _, _, _, _, by rw [show Int.toNat (k : Int) * 4 = k * 4 by omega]; exact hrow, ?_⟩
  refine (find_1_spec ms[k] s n b w2 (k2.cell hc)).mono ?_
  rintro e w25 ⟨rfl, k25⟩
  refine ⟨_, rfl, BIf_dec (fun h2 => ⟨_, rfl, .inl ⟨k, rfl, hkl, h2, fun j hj => hno j (by omega) hj⟩, k2.trans k25⟩) (fun h2 => ?_)⟩
  refine ⟨inR64 (by omega), ⟨k + 1, rfl, hkl, k2.trans k25, fun j hj hjk => ?_⟩, by dsimp only; omega⟩
  by_cases hj2 : j = k
  · subst hj2; exact h2
  · exact hno j hj (by omega)

theorem find_spec (h : NetAt w r q ns ms nx) (n : Int) (hl : ms.length ≤ 2 ^ 40) :
    Calls Tryd.prog fn_net_Net_find ⟨[ptrR r, .int .i64 n]⟩ w fun e w' => ∃ i, e = .returned (.int .i64 i) ∧ FoundAt (fun m : Msg => m.1 = n) ms i ∧ Keep w w' := by
  refine net_Net_find_ok _ _ ?_
  unfold net_Net_find
  refine newS_mk (fun r3 w4 hr3 hb3 k3 hs3 => ?_)
  have h4 := h.keep k3
  refine needSome_mk rfl ⟨_, h4.c1, ?_⟩
  refine (IndexFunc_find_spec h4 n r3 ((ObjAt.new' hb3).cell 0 (by simp)) hl).mono ?_
  rintro e w8 ⟨i, rfl, hf, k8⟩
  exact ⟨i, rfl, i, rfl, hf, k3.trans k8⟩

theorem First_1_spec (h : NetAt w r q ns ms nx) (m : Msg) (s : Slc) (to : Int) (b b2 : Nat) (hc : w.cell? ⟨b, 0, none⟩ = some (.int .i64 to)) (hc2 : w.cell? ⟨b2, 0, none⟩ = some (ptrR r)) :
    Calls Tryd.prog fn_net_Net_First_1 ⟨[.agg ⟨msgC m.1 m.2.1 m.2.2.1 s⟩, ptrR b, ptrR b2]⟩ w fun e w' => e = .returned (.bool (decide (m.2.2.1 = to) && reachN ns m.2.1 m.2.2.1)) ∧ Keep w w' := by
  refine net_Net_First_1_ok _ _ _ _ _ _ ?_
  unfold net_Net_First_1
  refine newS_mk (fun r6 w7 hr6 hb6 k6 hs6 => ?_)
  have o6 := ObjAt.new' hb6
  refine ⟨m.2.2.1, o6.cell 2 (by simp), needSome_mk rfl ⟨to, k6.cell hc, BIf_dec (fun h1 => ?_) (fun h1 => ⟨by rw [decide_eq_false h1]; rfl, k6⟩)⟩⟩
  refine needSome_mk rfl ⟨_, k6.cell hc2, m.2.1, o6.cell 1 (by simp), m.2.2.1, o6.cell 2 (by simp), ?_⟩
  refine (Reach_spec (h.keep k6) m.2.1 m.2.2.1).mono ?_
  rintro e w8 ⟨rfl, k8⟩
  exact ⟨_, rfl, by rw [decide_eq_true h1]; rfl, k6.trans k8⟩

theorem IndexFunc_First_spec (h : NetAt w r q ns ms nx) (to : Int) (b b2 : Nat) (hc : w.cell? ⟨b, 0, none⟩ = some (.int .i64 to)) (hc2 : w.cell? ⟨b2, 0, none⟩ = some (ptrR r)) (hl : ms.length ≤ 2 ^ 40) :
    Calls Tryd.prog fn_slices_IndexFunc_Message ⟨[q.sw.v, .func (.func fn_net_Net_First_1) ⟨[]⟩ ⟨[ptrR b, ptrR b2]⟩]⟩ w fun e w' => ∃ i, e = .returned (.int .i64 i) ∧ FoundAt (fun m : Msg => m.2.2.1 = to ∧ reachN ns m.2.1 m.2.2.1 = true) ms i ∧ Keep w w' := by
  refine slices_IndexFunc_Message_net_Net_First_1_ok _ _ _ ?_
  unfold slices_IndexFunc_Message_net_Net_First_1
  have hsl := h.m.sl
  refine ⟨fun i w2 => ∃ k : Nat, i = k ∧ k ≤ ms.length ∧ Keep w w2 ∧ ∀ j (hj : j < ms.length), j < k → ¬ (ms[j].2.2.1 = to ∧ reachN ns ms[j].2.1 ms[j].2.2.1 = true), fun i _ => ((ms.length : Int) - i).toNat, ⟨0, rfl, by omega, Ext.refl _ _, fun j _ hj => by omega⟩, ?_⟩
  rintro i w2 ⟨k, rfl, hk, k2, hno⟩
  intros
  refine BIf_dec (fun h1 => ?_) (fun h1 => ⟨_, rfl, .inr ⟨rfl, fun j hj => hno j hj (by omega)⟩, k2⟩)
  have hkl : k < ms.length := by omega
  obtain ⟨a, s, ha, hsp, hk', he, hrow, hb, _⟩ := (h.keep k2).msg hkl
  refine needSome_mk ha ⟨by omega, h1, _, _, _, _, by rw [show Int.toNat (k : Int) * 4 = k * 4 by omega]; exact hrow, ?_⟩
  refine (First_1_spec (h.keep k2) ms[k] s to b b2 (k2.cell hc) (k2.cell hc2)).mono ?_
  rintro e w25 ⟨rfl, k25⟩
  refine ⟨_, rfl, BIf_mk (fun h2 => ⟨_, rfl, .inl ⟨k, rfl, hkl, by simpa using h2, fun j hj => hno j (by omega) hj⟩, k2.trans k25⟩) (fun h2 => ?_)⟩
  refine ⟨inR64 (by omega), ⟨k + 1, rfl, hkl, k2.trans k25, fun j hj hjk => ?_⟩, by dsimp only; omega⟩
  by_cases hj2 : j = k
  · subst hj2; intro hh; rw [decide_eq_true hh.1, hh.2] at h2; cases h2
  · exact hno j hj (by omega)

theorem First_spec (h : NetAt w r q ns ms nx) (to : Int) (hl : ms.length ≤ 2 ^ 40) :
    Calls Tryd.prog fn_net_Net_First ⟨[ptrR r, .int .i64 to]⟩ w fun e w' => ∃ n, e = .returned (.int .i64 n) ∧ Keep w w' ∧
      ((∃ k : Nat, ∃ hk : k < ms.length, n = ms[k].1 ∧ (ms[k].2.2.1 = to ∧ reachN ns ms[k].2.1 ms[k].2.2.1 = true) ∧ ∀ j (hj : j < k), ¬ ((ms[j]'(by omega)).2.2.1 = to ∧ reachN ns (ms[j]'(by omega)).2.1 (ms[j]'(by omega)).2.2.1 = true)) ∨
       (n = -1 ∧ ∀ j (hj : j < ms.length), ¬ (ms[j].2.2.1 = to ∧ reachN ns ms[j].2.1 ms[j].2.2.1 = true))) := by
  refine net_Net_First_ok _ _ ?_
  unfold net_Net_First
  refine newS_mk (fun r3 w4 hr3 hb3 k3 hs3 => newS_mk (fun r5 w6 hr5 hb5 k5 hs5 => ?_))
  have k6 := k3.trans k5
  have h6 := h.keep k6
  have o3 := (ObjAt.new' hb3).keep k5
  have o5 := ObjAt.new' hb5
  refine ⟨_, o3.cell 0 (by simp), needSome_mk rfl ⟨_, h6.c1, ?_⟩⟩
  refine (IndexFunc_First_spec h6 to r5 r3 (o5.cell 0 (by simp)) (o3.cell 0 (by simp)) hl).mono ?_
  rintro e w11 ⟨i, rfl, hf, k11⟩
  refine ⟨i, rfl, BIf_dec (fun h1 => ?_) (fun h1 => ?_)⟩
  · rcases hf with ⟨k, rfl, _⟩ | ⟨rfl, hn⟩
    · omega
    · exact ⟨_, rfl, k6.trans k11, .inr ⟨rfl, hn⟩⟩
  · rcases hf with ⟨k, rfl, hk, hp, hno⟩ | ⟨rfl, hn⟩
    · have h11 := h6.keep k11
      have hsl := h11.m.sl
      obtain ⟨a, s, ha, hsp, hk', he, hrow, hb, _⟩ := h11.msg hk
      refine ⟨_, (o3.keep k11).cell 0 (by simp), needSome_mk rfl ⟨_, h11.c1, needSome_mk ha ⟨by omega, by omega, ms[k].1, ?_, ?_⟩⟩⟩
      · have := hrow.1
        rw [addr0] at this
        rw [show Int.toNat (k : Int) * 4 = k * 4 by omega]; exact this
      · exact ⟨_, rfl, k6.trans k11, .inl ⟨k, hk, rfl, hp, hno⟩⟩
    · omega
end Go.D
