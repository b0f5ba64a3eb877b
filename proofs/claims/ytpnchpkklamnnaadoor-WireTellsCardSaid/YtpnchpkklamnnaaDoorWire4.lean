/-
  WHAT IS PROVED: contracts of functions, and the plain law, for this proof. No further conditions.
-/
import Derived.Test.YtpnchpkklamnnaaDoorWire3
set_option linter.unusedVariables false
set_option linter.unusedSimpArgs false
namespace Go.D
open Go Go.Proofs

/-- What is known where the two ways of reading meet. -/
def Meet (A : Nat → Addr) (w0 w : World) (r : Nat) (F : Nat → Prop) (r2 r4 r39 r41 : Nat) (st : Int × InS) : Prop :=
  (st.1 = 2 ∧ ∃ s, RS A w0 w r F r2 r4 r39 r41 (pTell st.2).st Z5 (repV (pTell st.2).t (pTell st.2).e (pTell st.2).n s) ∧ bytesAt w s (pTell st.2).d ∧ s.l ≤ s.c ∧ ∀ k, ownB s k → r4 < k) ∨
  (st.1 ≠ 2 ∧ ∃ s, RS A w0 w r F r2 r4 r39 r41 (pAsk st.2).st (reqV (pAsk st.2).t (pAsk st.2).k (pAsk st.2).e (pAsk st.2).a s) Z4 ∧ bytesAt w s (pAsk st.2).d ∧ s.l ≤ s.c ∧ ∀ k, ownB s k → r4 < k)

theorem errO_some (A : Nat → Addr) (j : Nat) : errO A (some j) = errV A (errG.getD j 0) := rfl

theorem Read33_spec (A : Nat → Addr) (s : Slc) (b : List UInt8) (w : World) (hb : bytesAt w s b) (hl : s.l ≤ 2 ^ 20) (hc : s.l ≤ s.c) (hE : ErrsB A w.heap.size w) :
    Calls Tryd.prog fn_wire_Read ⟨[s.v]⟩ w fun x w' => ∃ (q p : List Value) (is : Bool) (ev : Value), x = .returned (.tuple ⟨[.agg ⟨q⟩, .agg ⟨p⟩, .bool is, ev]⟩) ∧ ReadRes A w w' q p is ev (readR b) ∧ Keep w w' := by
  refine wire_Read_ok _ ?_
  unfold wire_Read
  refine newS_mk (fun r2 w3 hr2 hb2 k2 hs2 => newS_mk (fun r4 w5 hr4 hb4 k4 hs4 => ?_))
  have k5 := k2.trans k4
  have o2 : ObjAt w5 r2 Z5 := ObjAt.keep (ObjAt.new' hb2) k4
  have o4 : ObjAt w5 r4 Z4 := ObjAt.new' hb4
  have hg : ∀ {w' : World}, ErrsB A w.heap.size w' → w'.cell? ⟨gl_ErrForm, 0, none⟩ = some (errV A (errG.getD 3 0)) := fun h => Errs.at h.1 3 (by omega)
  have hglt : gl_ErrForm < w.heap.size := (hE.2 gl_ErrForm (errG_mem (k := 3) (by omega))).1
  refine (Open_spec A s b w5 (bytesAt_keep hb k5) (by omega) hc (errs3 (hE.keep k5).1)).mono ?_
  rintro x w7 ⟨s8, s9, ev, rfl, hres, k7'⟩
  have k7 := k5.trans k7'
  have o27 := o2.keep k7'
  have o47 := o4.keep k7'
  have hne : r2 ≠ r4 := by omega
  -- an error
  have bad : ∀ (j : Nat) (w12 : World), ObjAt w12 r2 Z5 → ObjAt w12 r4 Z4 → Keep w w12 → readR b = .error j → ∃ (q p : List Value) (is : Bool) (ev : Value), Ending.returned (Value.tuple ⟨[.agg ⟨Z5⟩, .agg ⟨Z4⟩, .bool false, errV A (errG.getD j 0)]⟩) = .returned (.tuple ⟨[.agg ⟨q⟩, .agg ⟨p⟩, .bool is, ev]⟩) ∧ ReadRes A w w12 q p is ev (readR b) ∧ Keep w w12 := by
    intro j w12 _ _ kk hj
    rw [hj]
    exact ⟨_, _, _, _, rfl, ⟨rfl, rfl, rfl, rfl⟩, kk⟩
  have kext : ∀ {wa wb : World}, Keep w wa → Ext (fun k => k = r2 ∨ k = r4) wa wb → Keep w wb := fun h he => h.ext he (fun k hk => by omega)
  cases hop : openR b with
  | error j =>
    rw [hop] at hres
    obtain ⟨rfl, rfl, rfl⟩ := hres
    refine ⟨_, _, _, rfl, trivial, BIf_mk (fun _ => ?_) (fun h => by cases h)⟩
    refine ret_mk o27 o47 hne rfl rfl rfl rfl (fun w12 a2 a4 he => ⟨_, _, _, _, _, a2.row, _, _, _, _, a4.row, ?_⟩)
    exact bad j w12 a2 a4 (kext k7 he) (by rw [readR, hop])
  | ok xy =>
    obtain ⟨x, y⟩ := xy
    rw [hop] at hres
    obtain ⟨hx, hy, hfx, hfy, rfl⟩ := hres
    have hyl := hy.1
    refine ⟨_, _, _, rfl, trivial, BIf_mk (fun h => by cases h) (fun _ => BIf_dec (fun h0 => ?_) (fun h0 => ?_))⟩
    · have kd := k7.drew
      refine ⟨_, hg (hE.keep kd), retg_mk (o27.keep (Ext.drew _ _)) (o47.keep (Ext.drew _ _)) hne rfl rfl rfl rfl (hg (hE.keep kd)) (by show gl_ErrForm ≠ r2; omega) (by show gl_ErrForm ≠ r4; omega) (fun w12 a2 a4 he => ⟨_, _, _, _, _, a2.row, _, _, _, _, a4.row, ?_⟩)⟩
      refine bad 3 w12 a2 a4 (kext kd he) ?_
      rw [readR, hop]; dsimp only; rw [if_pos (by omega)]
    · have hxl := hx.1
      have hxb : x.length ≤ b.length := by
        have : openR b = .ok (x, y) := hop
        rw [openR] at this
        split at this; · cases this
        split at this; · cases this
        split at this; · cases this
        split at this
        · cases this; simp [textOf]; omega
        · cases this
      have hbl := hb.1
      refine (Read_spec A s8 x w7 hx (by omega)).mono ?_
      rintro e w37 ⟨r, F, rfl, hR, k37, hr, hF⟩
      refine ⟨_, rfl, newS_mk (fun r39 w40 hr39 hb39 k39 hs39 => newS_mk (fun r41 w42 hr41 hb41 k41 hs41 => ?_))⟩
      have hrlt : r < w37.heap.size := by obtain ⟨_, h1, _⟩ := hR; exact h1.1.lt
      have h57 := k7'.size
      have d : RD w r F r2 r4 r39 r41 := ⟨by omega, fun k hk => by have := hF k hk; omega⟩
      have k37' := k37.trans (k39.trans k41)
      have hS : RS A w w42 r F r2 r4 r39 r41 (x, none) Z5 Z4 := ⟨hR.keep (k39.trans k41), o27.keep k37', o47.keep k37', ObjAt.keep (ObjAt.new' hb39) k41, ObjAt.new' hb41, k7.trans k37', by dsimp only; omega⟩
      refine (hS.Num d hE 2).mono ?_
      rintro e w44 ⟨rfl, hS44⟩
      have hrr : readR b = (if (rNum 2 (x, none)).1 = 2 then match rEnd (pTell (rNum 2 (x, none)).2).st with
          | some j => .error j
          | none => .ok (.tell (pTell (rNum 2 (x, none)).2).t (pTell (rNum 2 (x, none)).2).e (pTell (rNum 2 (x, none)).2).n (pTell (rNum 2 (x, none)).2).d)
        else match rEnd (pAsk (rNum 2 (x, none)).2).st with
          | some j => .error j
          | none => if (rNum 2 (x, none)).1 = 1 ∧ rightQ (pAsk (rNum 2 (x, none)).2).t (pAsk (rNum 2 (x, none)).2).k (pAsk (rNum 2 (x, none)).2).e (pAsk (rNum 2 (x, none)).2).a (pAsk (rNum 2 (x, none)).2).d.length then .ok (.ask (pAsk (rNum 2 (x, none)).2).t (pAsk (rNum 2 (x, none)).2).k (pAsk (rNum 2 (x, none)).2).e (pAsk (rNum 2 (x, none)).2).a (pAsk (rNum 2 (x, none)).2).d) else .error 3) := by
        rw [readR, hop]; dsimp only; rw [if_neg (by omega)]; rfl
      generalize rNum 2 (x, none) = st at hS44 hrr ⊢
      refine ⟨_, rfl, fun w85 => Meet A w w85 r F r2 r4 r39 r41 st, BIf_dec (fun h2 => ?_) (fun h2 => ?_), ?_⟩
      · refine (hS44.Num d hE 1073741824).mono ?_
        rintro e w48 ⟨rfl, hS48⟩
        refine ⟨_, rfl, (table_spec A w48 (hE.keep hS48.kp).1).mono ?_⟩
        rintro e w51 ⟨tb, rfl, htl, _, k51⟩
        refine ⟨tb, rfl, ?_⟩
        rw [htl]
        refine ((hS48.keep k51).Num d hE 19).mono ?_
        rintro e w54 ⟨rfl, hS54⟩
        refine ⟨_, rfl, (hS54.Num d hE 4096).mono ?_⟩
        rintro e w57 ⟨rfl, hS57⟩
        obtain ⟨a1, a2⟩ := hS57.o41.setAll (n := 4) (cs := repV (rNum 1073741824 st.2).1 (rNum 19 (rNum 1073741824 st.2).2).1 (rNum 4096 (rNum 19 (rNum 1073741824 st.2).2).2).1 ⟨none, 0, 0⟩) rfl rfl
        refine ⟨_, rfl, a1, fun w59 hw59 => ?_⟩
        obtain ⟨b1, b2, _⟩ := a2 w59 hw59
        have hS59 := hS57.set41 d b1 b2
        refine (hS59.Text d hE 2000).mono ?_
        rintro e w61 ⟨rfl, hS61⟩
        refine ⟨_, rfl, bytesK_mk (fun s63 w64 hsb hsc hfr k64 => ?_)⟩
        have hS64 := hS61.keep k64
        obtain ⟨c1, c2⟩ := hS64.o41.setOne 3 (by simp) s63.v
        refine ⟨c1, fun w65 hw65 => ?_⟩
        obtain ⟨d1, d2, _⟩ := c2 w65 hw65
        have h41 : r41 < w61.heap.size := hS61.o41.lt
        refine .inl ⟨h2, s63, hS64.set41 d d1 d2, bytesAt_ext hsb d2 (fun k hk hh => by have := hfr k hk; omega), hsc, fun k hk => by have := hfr k hk; have := d.b; omega⟩
      · refine (hS44.Num d hE 1073741824).mono ?_
        rintro e w48 ⟨rfl, hS48⟩
        refine ⟨_, rfl, (hS48.Num d hE 5).mono ?_⟩
        rintro e w54 ⟨rfl, hS54⟩
        refine ⟨_, rfl, (hS54.Num d hE 1073741824).mono ?_⟩
        rintro e w55 ⟨rfl, hS55⟩
        refine ⟨_, rfl, (hS55.Num d hE 4096).mono ?_⟩
        rintro e w57 ⟨rfl, hS57⟩
        obtain ⟨a1, a2⟩ := hS57.o39.setAll (n := 5) (cs := reqV (rNum 1073741824 st.2).1 (rNum 5 (rNum 1073741824 st.2).2).1 (rNum 1073741824 (rNum 5 (rNum 1073741824 st.2).2).2).1 (rNum 4096 (rNum 1073741824 (rNum 5 (rNum 1073741824 st.2).2).2).2).1 ⟨none, 0, 0⟩) rfl rfl
        refine ⟨_, rfl, a1, fun w59 hw59 => ?_⟩
        obtain ⟨b1, b2, _⟩ := a2 w59 hw59
        have hS59 := hS57.set39 d b1 b2
        refine (hS59.Text d hE 2000).mono ?_
        rintro e w61 ⟨rfl, hS61⟩
        refine ⟨_, rfl, bytesK_mk (fun s63 w64 hsb hsc hfr k64 => ?_)⟩
        have hS64 := hS61.keep k64
        obtain ⟨c1, c2⟩ := hS64.o39.setOne 4 (by simp) s63.v
        refine ⟨c1, fun w65 hw65 => ?_⟩
        obtain ⟨d1, d2, _⟩ := c2 w65 hw65
        have h39 : r39 < w61.heap.size := hS61.o39.lt
        refine .inr ⟨h2, s63, hS64.set39 d d1 d2, bytesAt_ext hsb d2 (fun k hk hh => by have := hfr k hk; omega), hsc, fun k hk => by have := hfr k hk; have := d.b; omega⟩
      · rintro w85 hmeet
        intros
        rcases hmeet with ⟨h2, sd, hS85, hsd, hsdc, hsdb⟩ | ⟨h2, sd, hS85, hsd, hsdc, hsdb⟩
        · rw [if_pos h2] at hrr
          refine (In_End_spec A _ r F _ w85 hS85.inr (hE.keep hS85.kp)).mono ?_
          rintro e w115 ⟨rfl, rfl⟩
          refine ⟨_, rfl, errO_isI _ _, ?_⟩
          cases hen : rEnd (pTell st.2).st with
          | some j =>
            rw [hen] at hrr
            refine BIf_mk (fun _ => ?_) (fun h => by cases h)
            refine ret_mk hS85.o2 hS85.o4 hne rfl rfl rfl rfl (fun w12 a2 a4 he => ⟨_, _, _, _, _, a2.row, _, _, _, _, a4.row, ?_⟩)
            exact bad j w12 a2 a4 (kext hS85.kp he) hrr
          | none =>
            rw [hen] at hrr
            have hSd := hS85.keep (Ext.drew _ w115)
            refine BIf_mk (fun h => by cases h) (fun _ => BIf_dec (fun _ => ?_) (fun h => absurd h2 h))
            refine ⟨_, _, _, _, hSd.o41.row, ?_⟩
            obtain ⟨a1, a2⟩ := hSd.o2.setAll (n := 5) (cs := Z5) rfl rfl
            refine ⟨a1, fun w132 hw => ?_⟩
            obtain ⟨b1, b2, _⟩ := a2 w132 hw
            have dd := d.b
            refine ⟨⟨_, _, _, _, (hSd.o41.ext b2 (by omega)).row, rfl⟩, ?_⟩
            obtain ⟨c1, c2⟩ := (hSd.o4.ext b2 (by omega)).setAll (n := 4) (cs := repV (pTell st.2).t (pTell st.2).e (pTell st.2).n sd) rfl rfl
            refine ⟨c1, fun w137 hw => ?_⟩
            obtain ⟨d1, d2, _⟩ := c2 w137 hw
            refine ⟨_, _, _, _, _, (b1.ext d2 (by omega)).row, _, _, _, _, d1.row, _, _, _, _, rfl, ?_, ?_⟩
            · rw [hrr]
              refine ⟨sd, rfl, bytesAt_ext (bytesAt_ext (bytesAt_drew hsd) b2 (fun k hk hh => by have := hsdb k hk; omega)) d2 (fun k hk hh => by have := hsdb k hk; omega), hsdc, fun k hk => by have := hsdb k hk; omega, rfl, rfl, rfl⟩
            · exact (hSd.kp.ext b2 (fun k hk => by omega)).ext d2 (fun k hk => by omega)
        · rw [if_neg h2] at hrr
          refine (In_End_spec A _ r F _ w85 hS85.inr (hE.keep hS85.kp)).mono ?_
          rintro e w115 ⟨rfl, rfl⟩
          refine ⟨_, rfl, errO_isI _ _, ?_⟩
          have dd := d.b
          cases hen : rEnd (pAsk st.2).st with
          | some j =>
            rw [hen] at hrr
            refine BIf_mk (fun _ => ?_) (fun h => by cases h)
            refine ret_mk hS85.o2 hS85.o4 hne rfl rfl rfl rfl (fun w12 a2 a4 he => ⟨_, _, _, _, _, a2.row, _, _, _, _, a4.row, ?_⟩)
            exact bad j w12 a2 a4 (kext hS85.kp he) hrr
          | none =>
            rw [hen] at hrr
            dsimp only at hrr
            refine BIf_mk (fun h => by cases h) (fun _ => BIf_dec (fun h => absurd h h2) (fun _ => BIf_ndec (fun h1 => ?_) (fun h1 => ?_)))
            · have kd := hS85.kp.drew
              rw [if_neg (fun h => h1 h.1)] at hrr
              refine ⟨_, hg (hE.keep kd), retg_mk (hS85.o2.keep (Ext.drew _ _)) (hS85.o4.keep (Ext.drew _ _)) hne rfl rfl rfl rfl (hg (hE.keep kd)) (by show gl_ErrForm ≠ r2; omega) (by show gl_ErrForm ≠ r4; omega) (fun w12 a2 a4 he => ⟨_, _, _, _, _, a2.row, _, _, _, _, a4.row, ?_⟩)⟩
              exact bad 3 w12 a2 a4 (kext kd he) hrr
            · refine ⟨_, _, _, _, _, hS85.o39.row, (Request_right_spec _ _ _ _ _ w115).mono ?_⟩
              rintro e w167 ⟨rfl, k167⟩
              have hS167 := hS85.keep k167
              rw [hsd.1]
              refine ⟨_, rfl, BIf_ndec (fun hq => ?_) (fun hq => ?_)⟩
              · have kd := hS167.kp.drew
                rw [if_neg (fun h => hq h.2)] at hrr
                refine ⟨_, hg (hE.keep kd), retg_mk (hS167.o2.keep (Ext.drew _ _)) (hS167.o4.keep (Ext.drew _ _)) hne rfl rfl rfl rfl (hg (hE.keep kd)) (by show gl_ErrForm ≠ r2; omega) (by show gl_ErrForm ≠ r4; omega) (fun w12 a2 a4 he => ⟨_, _, _, _, _, a2.row, _, _, _, _, a4.row, ?_⟩)⟩
                exact bad 3 w12 a2 a4 (kext kd he) hrr
              · rw [if_pos ⟨h1, hq⟩] at hrr
                refine ⟨_, _, _, _, _, hS167.o39.row, ret_mk hS167.o2 hS167.o4 hne rfl rfl rfl rfl (fun w12 a2 a4 he => ⟨_, _, _, _, _, a2.row, _, _, _, _, a4.row, _, _, _, _, rfl, ?_, kext hS167.kp he⟩)⟩
                rw [hrr]
                exact ⟨sd, rfl, bytesAt_ext (bytesAt_keep hsd k167) he (fun k hk hh => by have := hsdb k hk; omega), hsdc, fun k hk => by have := hsdb k hk; omega, rfl, rfl, rfl⟩
end Go.D
