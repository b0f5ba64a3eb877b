/-
  WHAT IS PROVED: contracts of functions, and the plain law, for this proof. No further conditions.
-/
import Derived.Test.YtaagbjbgaockdaaDoorNet2
set_option linter.unusedVariables false
set_option linter.unusedSimpArgs false
namespace Go.D
open Go Go.Proofs
variable {w : World} {r : Nat} {q : NetP} {ns : List (Bool × Bool)} {ms : List Msg} {nx : Int}

def sendE (ns : List (Bool × Bool)) (f t : Int) (b : List UInt8) : Option Nat :=
  if hasN ns f = true ∧ hasN ns t = true then if 4096 < b.length then some 2 else if (ndAt ns f).1 then none else some 11 else some 0
theorem Send_spec (A : Nat → Addr) (n0 : Nat) (h : NetAt w r q ns ms nx) (f t : Int) (s : Slc) (b : List UInt8) (hb : bytesAt w s b) (hlen : ms.length < 4096) (hnx : 0 ≤ nx ∧ nx ≤ 2 ^ 40) (hE : ErrsB A n0 w) :
    Calls Tryd.prog fn_net_Net_Send ⟨[ptrR r, .int .i64 f, .int .i64 t, s.v]⟩ w fun e w' => match sendE ns f t b with
      | some k => e = .returned (.tuple ⟨[.int .i64 0, errV A (errG.getD k 0)]⟩) ∧ Keep w w'
      | none => e = .returned (.tuple ⟨[.int .i64 nx, .nilIface]⟩) ∧ ∃ q', NetAt w' r q' ns (ms ++ [(nx, f, t, b)]) (nx + 1) ∧ NetTo r q q' w w' := by
  refine net_Net_Send_ok _ _ _ _ ?_
  unfold net_Net_Send
  refine ⟨fun x w2 => x = !(hasN ns f && hasN ns t) ∧ w2 = w, ?_, ?_⟩
  · refine (has_spec h f).mono ?_
    rintro e w7 ⟨rfl, rfl⟩
    refine ⟨_, rfl, BIf_mk (fun h1 => ⟨?_, rfl⟩) (fun h1 => ?_)⟩
    · have h2 : hasN ns f = false := by simpa using h1
      rw [h2]; rfl
    have h1 : hasN ns f = true := by simpa using h1
    refine (has_spec h t).mono ?_
    rintro e w10 ⟨rfl, rfl⟩
    exact ⟨_, rfl, by rw [h1]; rfl, rfl⟩
  · rintro x w13 ⟨rfl, rfl⟩
    intros
    have hEd := hE.keep (Ext.drew _ w13)
    have hbl := hb.1
    refine BIf_mk (fun h1 => ?_) (fun h1 => ?_)
    · have : ¬ (hasN ns f = true ∧ hasN ns t = true) := by
        rintro ⟨h2, h3⟩; rw [h2, h3] at h1; cases h1
      rw [sendE, if_neg this]
      exact ⟨_, Errs.at hEd.1 0 (by omega), rfl, Ext.drew _ _⟩
    · have h2 : hasN ns f = true ∧ hasN ns t = true := by
        cases h3 : hasN ns f <;> cases h4 : hasN ns t <;> rw [h3, h4] at h1 <;> simp_all
      rw [sendE, if_pos h2]
      refine BIf_dec (fun h3 => ?_) (fun h3 => ?_)
      · rw [if_pos (by omega)]
        exact ⟨_, Errs.at hEd.1 2 (by omega), rfl, Ext.drew _ _⟩
      · rw [if_neg (by omega)]
        obtain ⟨p, hp, _, a1, a2, a3, _⟩ := h.node h2.1
        refine needSome_mk rfl ⟨_, h.c0, needSome_mk hp ⟨a1, a2, _, a3, BIf_mk (fun h4 => ?_) (fun h4 => ?_)⟩⟩
        · have h5 : (ndAt ns f).1 = false := by simpa using h4
          rw [h5, if_neg (by decide)]
          exact ⟨_, Errs.at hEd.1 11 (by omega), rfl, Ext.drew _ _⟩
        · have h5 : (ndAt ns f).1 = true := by simpa using h4
          rw [h5, if_pos rfl]
          refine (put_spec h 0 f t s b hb (by omega) hlen hnx).mono ?_
          rintro e w32 ⟨rfl, hq⟩
          exact ⟨_, _, rfl, rfl, hq⟩

theorem Double_spec (A : Nat → Addr) (n0 : Nat) (h : NetAt w r q ns ms nx) (n : Int) (hlen : ms.length < 4096) (hnx : 0 ≤ nx ∧ nx ≤ 2 ^ 40) (hE : ErrsB A n0 w) :
    Calls Tryd.prog fn_net_Net_Double ⟨[ptrR r, .int .i64 n]⟩ w fun e w' =>
      ((∀ j (hj : j < ms.length), ms[j].1 ≠ n) ∧ e = .returned (.tuple ⟨[.int .i64 0, errV A (errG.getD 15 0)]⟩) ∧ Keep w w') ∨
      (∃ (k : Nat) (hk : k < ms.length), ms[k].1 = n ∧ e = .returned (.tuple ⟨[.int .i64 nx, .nilIface]⟩) ∧ ∃ q', NetAt w' r q' ns (ms ++ [(nx, ms[k].2)]) (nx + 1) ∧ NetTo r q q' w w') := by
  refine net_Net_Double_ok _ _ ?_
  unfold net_Net_Double
  refine (find_spec h n (by omega)).mono ?_
  rintro e w4 ⟨i, rfl, hf, k4⟩
  have h4 := h.keep k4
  have hsl := h4.m.sl
  refine ⟨i, rfl, BIf_dec (fun h1 => ?_) (fun h1 => ?_)⟩
  · rcases hf with ⟨k, rfl, _⟩ | ⟨rfl, hn⟩
    · omega
    · exact ⟨_, Errs.at (hE.keep k4.drew).1 15 (by omega), .inl ⟨hn, rfl, k4.drew⟩⟩
  · rcases hf with ⟨k, rfl, hk, hp, _⟩ | ⟨rfl, hn⟩
    · obtain ⟨a, s, ha, hsp, hk', he, hrow, hb, hb2⟩ := h4.msg hk
      refine needSome_mk rfl ⟨_, h4.c1, needSome_mk ha ⟨by omega, by omega, _, _, _, s, by rw [show Int.toNat (k : Int) * 4 = k * 4 by omega]; exact hrow, ?_⟩⟩
      refine (put_spec h4 _ _ _ s _ hb hb2 hlen hnx).mono ?_
      rintro e w15 ⟨rfl, q', hN, hT⟩
      exact ⟨_, _, rfl, .inr ⟨k, hk, hp, rfl, q', hN, k4.netTo hT⟩⟩
    · omega

theorem Drop_spec (A : Nat → Addr) (n0 : Nat) (h : NetAt w r q ns ms nx) (n : Int) (hlen : ms.length < 4096) (hE : ErrsB A n0 w) :
    Calls Tryd.prog fn_net_Net_Drop ⟨[ptrR r, .int .i64 n]⟩ w fun e w' =>
      ((∀ j (hj : j < ms.length), ms[j].1 ≠ n) ∧ e = .returned (errV A (errG.getD 15 0)) ∧ Keep w w') ∨
      (∃ (k : Nat) (hk : k < ms.length), ms[k].1 = n ∧ e = .returned .nilIface ∧ ∃ q', NetAt w' r q' ns (ms.eraseIdx k) nx ∧ NetTo r q q' w w') := by
  refine net_Net_Drop_ok _ _ ?_
  unfold net_Net_Drop
  refine (find_spec h n (by omega)).mono ?_
  rintro e w4 ⟨i, rfl, hf, k4⟩
  have h4 := h.keep k4
  refine ⟨i, rfl, BIf_dec (fun h1 => ?_) (fun h1 => ?_)⟩
  · rcases hf with ⟨k, rfl, _⟩ | ⟨rfl, hn⟩
    · omega
    · exact ⟨_, Errs.at (hE.keep k4).1 15 (by omega), .inl ⟨hn, rfl, k4⟩⟩
  · rcases hf with ⟨k, rfl, hk, hp, _⟩ | ⟨rfl, hn⟩
    · refine (take_spec h4 hk (by omega)).mono ?_
      rintro e w8 ⟨s, q', rfl, _, _, hN, hT⟩
      exact ⟨_, _, _, s, rfl, .inr ⟨k, hk, hp, rfl, q', hN, k4.netTo hT⟩⟩
    · omega

def zMsg : Value := .agg ⟨msgC 0 0 0 ⟨none, 0, 0⟩⟩
theorem Deliver_spec (A : Nat → Addr) (n0 : Nat) (h : NetAt w r q ns ms nx) (n : Int) (hlen : ms.length < 4096) (hE : ErrsB A n0 w) (hn0 : n0 ≤ w.heap.size) :
    Calls Tryd.prog fn_net_Net_Deliver ⟨[ptrR r, .int .i64 n]⟩ w fun e w' =>
      ((∀ j (hj : j < ms.length), ms[j].1 ≠ n) ∧ e = .returned (.tuple ⟨[zMsg, errV A (errG.getD 15 0)]⟩) ∧ Keep w w') ∨
      (∃ (k : Nat) (hk : k < ms.length), ms[k].1 = n ∧ reachN ns ms[k].2.1 ms[k].2.2.1 = false ∧ e = .returned (.tuple ⟨[zMsg, errV A (errG.getD 11 0)]⟩) ∧ Keep w w') ∨
      (∃ (k : Nat) (hk : k < ms.length), ms[k].1 = n ∧ reachN ns ms[k].2.1 ms[k].2.2.1 = true ∧ ∃ (s : Slc) (q' : NetP), e = .returned (.tuple ⟨[.agg ⟨msgC ms[k].1 ms[k].2.1 ms[k].2.2.1 s⟩, .nilIface]⟩) ∧ bytesAt w' s ms[k].2.2.2 ∧ (∀ x, 0 < s.l → ownB s x → NetF q x) ∧ NetAt w' r q' ns (ms.eraseIdx k) nx ∧ NetTo r q q' w w') := by
  refine net_Net_Deliver_ok _ _ ?_
  unfold net_Net_Deliver
  refine newS_mk (fun r3 w4 hr3 hb3 k4 hs4 => ?_)
  have h4 := h.keep k4
  refine (find_spec h4 n (by omega)).mono ?_
  rintro e w6 ⟨i, rfl, hf, k6'⟩
  have k6 := k4.trans k6'
  have k6d := k6.drew
  have h6 := h.keep k6d
  have o6 := ((ObjAt.new' hb3).keep k6').keep (Ext.drew _ w6)
  have hsl := h6.m.sl
  have z6 := k6'.size
  have hEr : ∀ {w9 : World} {wx : World}, Ext (fun x => x = r3) wx w9 → ErrsB A n0 wx → ErrsB A n0 w9 := fun e9 hx => hx.ext e9 (fun k hk => by omega)
  refine ⟨i, rfl, BIf_dec (fun h1 => ?_) (fun h1 => ?_)⟩
  · rcases hf with ⟨k, rfl, _⟩ | ⟨rfl, hn⟩
    · omega
    · obtain ⟨cw, g⟩ := o6.setAll (cs := msgC 0 0 0 ⟨none, 0, 0⟩) rfl rfl
      refine ⟨_, Errs.at (hE.keep k6d).1 15 (by omega), cw, fun w9 hw9 => ?_⟩
      obtain ⟨o9, e9, z9⟩ := g w9 hw9
      exact ⟨⟨_, Errs.at (hEr e9 (hE.keep k6d)).1 15 (by omega), rfl⟩, 0, 0, 0, ⟨none, 0, 0⟩, o9.row, .inl ⟨hn, rfl, k6d.step (by omega) e9⟩⟩
  · rcases hf with ⟨k, rfl, hk, hp, _⟩ | ⟨rfl, hn⟩
    · obtain ⟨a, s, ha, hsp, hk', he, hrow, hb, hb2⟩ := h6.msg hk
      have ek : Int.toNat (k : Int) * 4 = k * 4 := by omega
      refine needSome_mk rfl ⟨_, h6.c1, needSome_mk ha ⟨by omega, by omega, ms[k].2.1, by rw [ek]; exact hrow.2.1, needSome_mk rfl ⟨_, h6.c1, needSome_mk ha ⟨by omega, by omega, ms[k].2.2.1, by rw [ek]; exact hrow.2.2.1, ?_⟩⟩⟩⟩
      refine (Reach_spec h6 _ _).mono ?_
      rintro e w24 ⟨rfl, k24'⟩
      have k24 := k6d.trans k24'
      have o24 := o6.keep k24'
      refine ⟨_, rfl, BIf_mk (fun h2 => ?_) (fun h2 => ?_)⟩
      · have h3 : reachN ns ms[k].2.1 ms[k].2.2.1 = false := by simpa using h2
        obtain ⟨cw, g⟩ := (o24.keep (Ext.drew _ w24)).setAll (cs := msgC 0 0 0 ⟨none, 0, 0⟩) rfl rfl
        refine ⟨_, Errs.at (hE.keep k24.drew).1 11 (by omega), cw, fun w9 hw9 => ?_⟩
        obtain ⟨o9, e9, z9⟩ := g w9 hw9
        exact ⟨⟨_, Errs.at (hEr e9 (hE.keep k24.drew)).1 11 (by omega), rfl⟩, 0, 0, 0, ⟨none, 0, 0⟩, o9.row, .inr (.inl ⟨k, hk, hp, h3, rfl, k24.drew.step (by omega) e9⟩)⟩
      · have h3 : reachN ns ms[k].2.1 ms[k].2.2.1 = true := by simpa using h2
        refine (take_spec (h.keep k24) hk (by omega)).mono ?_
        rintro e w34 ⟨s', q', rfl, hbs, hsf, hN, hT⟩
        have z24 := k24'.size
        have zd6 : w6.drew.heap.size = w6.heap.size := rfl
        have o34 := o24.ext hT.1.1 (fun hh => by have := h.lt _ hh; omega)
        obtain ⟨cw, g⟩ := o34.setAll (cs := msgC ms[k].1 ms[k].2.1 ms[k].2.2.1 s') rfl rfl
        refine ⟨_, _, _, s', rfl, cw, fun w39 hw39 => ?_⟩
        obtain ⟨o39, e39, z39⟩ := g w39 hw39
        have hT2 : NetTo r q q' w w34 := k24.netTo hT
        refine ⟨_, _, _, s', o39.row, .inr (.inr ⟨k, hk, hp, h3, s', q', rfl, ?_, hsf, ?_, ?_⟩)⟩
        · exact bytesAt_stay hbs e39 (fun h0 x hx hh => by have := h.flt x (hsf x h0 hx); omega)
        · have nr3 : ∀ x, NetM r q' x → x ≠ r3 := fun x hx hh => by
            subst hh
            rcases hT.1.2 x hx with h5 | h5
            · have := h.lt x h5; omega
            · omega
          have nf3 : ∀ x, NetF q' x → x ≠ r3 := fun x hx hh => by
            subst hh
            rcases hT.2 x hx with h5 | h5
            · have := h.flt x h5; omega
            · omega
          exact hN.ext e39 nr3 nf3
        · exact ⟨⟨hT2.1.1.trans e39 (fun _ h => h) (fun x hx => .inr (by omega)), hT2.1.2⟩, hT2.2⟩
    · omega
end Go.D
