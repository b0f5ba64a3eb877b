/-
  WHAT IS PROVED: contracts of functions, and the plain law, for this proof. No further conditions.
-/
import Derived.Test.YtkcobfichmjbdaaDoorToken9
set_option linter.unusedVariables false
set_option linter.unusedSimpArgs false
namespace Go.D
open Go Go.Proofs

def errQ (A : Nat → Addr) : Option Nat → Value
  | none => .nilIface
  | some k => errV A (errG.getD k 0)
def codeQ : Option Nat → Int
  | none => 0
  | some k => ((k + 1 : Nat) : Int)
theorem takeR_lt {e n ep : Int} {l : List Int} {k : Nat} (h : takeR e n ep l = some k) : k < 19 := by
  rw [takeR] at h
  split at h
  · cases h; omega
  · split at h
    · cases h; omega
    · split at h
      · cases h; omega
      · cases h
theorem takeR_none {e n ep : Int} {l : List Int} (h : takeR e n ep l = none) : risesL l (-1) = true ∧ n ≠ 4096 := by
  rw [takeR] at h
  split at h
  · cases h
  · split at h
    · cases h
    · split at h
      · cases h
      · rename_i h1 h2 h3
        refine ⟨?_, h3⟩
        cases hr : risesL l (-1) with
        | true => rfl
        | false => exact absurd (.inr (.inr hr)) h2
def resA (R : Option Nat) (n : Int) : Int := match R with | none => n | some _ => 0
def resN (R : Option Nat) (n : Int) : Int := match R with | none => n + 1 | some _ => n
def pickR {α : Type} (R : Option Nat) (a b : α) : α := match R with | none => a | some _ => b

theorem Num_q (A : Nat → Addr) (R : Option Nat) (hR : ∀ k, R = some k → k < 19) (w : World) (h : Errs A w) : Calls Tryd.prog fn_tidewaternum_Num ⟨[errQ A R]⟩ w fun x w' => x = .returned (.int .i64 (codeQ R)) ∧ Keep w w' := by
  cases R with
  | none => exact (Num_nil w).mono (by rintro x w' ⟨rfl, rfl⟩; exact ⟨rfl, Ext.refl _ _⟩)
  | some k => exact Num_spec A k (hR k rfl) w h

theorem Take_u (A : Nat → Addr) (r : Nat) (F : Nat → Prop) (e n : Int) (sl : Nat → Slc) (L : Nat → List Int) (ep : Int) (st : Slc) (l : List Int) (w : World) (h : SeqAt 4 w r F e n sl L) (hF : ∀ k, F k → k < w.heap.size) (hst : intsAt w st l) (hstr : l ≠ [] → ∀ k, ownB st k → k ≠ r) (hl : l.length ≤ 2 ^ 30)
    (hn : 0 ≤ n ∧ n ≤ 4096) (n0 : Nat) (hE : LE5 A n0 w) (hr : n0 ≤ r) :
    Calls Tryd.prog fn_token_Sequencer_Take ⟨[.pointer (some ⟨r, 0, none⟩), .int .i64 ep, st.v]⟩ w fun x w' => ∃ out : Slc, x = .returned (.tuple ⟨[.int .i64 (resA (takeR e n ep l) n), out.v, errQ A (takeR e n ep l)]⟩) ∧ Ext (fun k => k = r) w w' ∧
      ∃ F2 sl2 G, SeqAt 4 w' r F2 e (resN (takeR e n ep l) n) sl2 (pickR (takeR e n ep l) (takeL n l L) L) ∧ (∀ b, F2 b → F b ∨ (w.heap.size ≤ b ∧ b < w'.heap.size)) ∧ BK w' out (pickR (takeR e n ep l) (l.map fun x => (x, L x.toNat)) []) G ∧ (∀ b, G b → w.heap.size ≤ b) ∧ ∀ b, ownB out b → w.heap.size ≤ b := by
  refine (Take_spec A r F e n sl L ep st l w h hF hst hstr hl hn n0 hE hr).mono ?_
  rintro x w' ⟨at_, out, ev, rfl, hm⟩
  cases hR : takeR e n ep l with
  | some k =>
    rw [hR] at hm
    obtain ⟨rfl, rfl, rfl, kk⟩ := hm
    exact ⟨_, rfl, kk.mono (fun _ h => h.elim), F, sl, fun _ => False, h.keep kk, fun b hb => .inl hb, BK.nil _, fun _ h => h.elim, by rintro b ⟨a, ha, _⟩; cases ha⟩
  | none =>
    rw [hR] at hm
    obtain ⟨rfl, rfl, he, G, sl', hG, hS, hT, hout⟩ := hm
    exact ⟨_, rfl, he, _, sl', G, hS, fun b hb => hb.imp (fun h => h) (fun h => hG b h), BK.of hT (fun b hb => (hout b hb).2), fun b hb => (hG b hb).1, fun b hb => (hout b hb).1⟩
theorem refTake_u (r : Nat) (F : Nat → Prop) (e n : Int) (sl : Nat → Slc) (L : Nat → List Int) (ep : Int) (st : Slc) (l : List Int) (w : World) (h : SeqAt 100 w r F e n sl L) (hF : ∀ k, F k → k < w.heap.size) (hst : intsAt w st l) (hstr : l ≠ [] → ∀ k, ownB st k → k ≠ r) (hl : l.length ≤ 2 ^ 30)
    (hn : 0 ≤ n ∧ n ≤ 4096) (hm : ∀ x, (L x).length ≤ 99) :
    Calls Tryd.prog fn_tidewaterref13_Sequencer_Take ⟨[.pointer (some ⟨r, 0, none⟩), .int .i64 ep, st.v]⟩ w fun x w' => ∃ out : Slc, x = .returned (.tuple ⟨[.int .i64 (resA (takeR e n ep l) n), out.v, .int .i64 (codeQ (takeR e n ep l))]⟩) ∧ Ext (fun k => k = r) w w' ∧
      ∃ F2 sl2 G, SeqAt 100 w' r F2 e (resN (takeR e n ep l) n) sl2 (pickR (takeR e n ep l) (pushL n l L) L) ∧ (∀ b, F2 b → F b ∨ (w.heap.size ≤ b ∧ b < w'.heap.size)) ∧ BK w' out (pickR (takeR e n ep l) (l.map fun x => (x, (L x.toNat).take 4)) []) G ∧ (∀ b, G b → w.heap.size ≤ b) ∧ ∀ b, ownB out b → w.heap.size ≤ b := by
  refine (refTake_spec r F e n sl L ep st l w h hF hst hstr hl hn hm).mono ?_
  rintro x w' ⟨at_, out, ev, rfl, hm⟩
  cases hR : takeR e n ep l with
  | some k =>
    rw [hR] at hm
    obtain ⟨rfl, rfl, rfl, kk⟩ := hm
    exact ⟨_, rfl, kk.mono (fun _ h => h.elim), F, sl, fun _ => False, h.keep kk, fun b hb => .inl hb, BK.nil _, fun _ h => h.elim, by rintro b ⟨a, ha, _⟩; cases ha⟩
  | none =>
    rw [hR] at hm
    obtain ⟨rfl, rfl, he, G, sl', hG, hS, hT, hout⟩ := hm
    exact ⟨_, rfl, he, _, sl', G, hS, fun b hb => hb.imp (fun h => h) (fun h => hG b h), hT, fun b hb => (hG b hb).1, hout⟩

abbrev rdStart : Rd (Int × Int × (Slc × List (Int × (Slc × List Int)))) := Rd.pair (Rd.int .i64) (Rd.pair (Rd.int .i64) (Rd.slice rdBack))
theorem rdStart_get {w : World} {y : Int × Int × (Slc × List (Int × (Slc × List Int)))} {cs : List Value} (h : rdStart.R w y cs) : ∃ (e n : Int) (s : Slc) (xs : List (Int × (Slc × List Int))), cs = [.int .i64 e, .int .i64 n, s.v] ∧ rowsR rdBack w s xs := by
  obtain ⟨_, _, rfl, ⟨rfl, _⟩, _, _, rfl, ⟨rfl, _⟩, rfl, h1⟩ := h
  exact ⟨_, _, _, _, rfl, h1⟩

theorem newL_len (bs : List (Int × List Int)) (m : Nat) (h : ∀ b ∈ bs, b.2.length ≤ m) (x : Nat) : (newL bs x).length ≤ m := by
  have : ∀ (bs : List (Int × List Int)) (f : Nat → List Int), (∀ x, (f x).length ≤ m) → (∀ b ∈ bs, b.2.length ≤ m) → ∀ x, (bs.foldl (fun f b => updS f b.1.toNat b.2) f x).length ≤ m := by
    intro bs
    induction bs with
    | nil => intro f hf _ x; exact hf x
    | cons b bs ih =>
      intro f hf hb x
      refine ih _ (fun y => ?_) (fun c hc => hb c (by simp [hc])) x
      simp only [updS]
      split
      · exact hb b (by simp)
      · exact hf y
  exact this bs _ (fun _ => by simp) h x

theorem TokenPlays_walk (cs : Array Value) (y : Int × Int × (Slc × List (Int × (Slc × List Int)))) (s4 : Slc) (ys : List (Int × (Slc × List Int))) (w : World) (h : rdStart.R w y cs.toList) (hy : rowsR rdBack w s4 ys) (A : Nat → Addr) (hE0 : Errs A w) :
    Calls Tryd.prog fn_tidewaterlaw13_TokenPlays ⟨[.agg cs, s4.v]⟩ w fun x w' => x = .returned (.bool true) ∧ Keep w w' := by
  obtain ⟨l⟩ := cs
  obtain ⟨e, n, s3, xs, rfl, hx⟩ := rdStart_get h
  have hL : LE5 A w.heap.size w := LE5.of hE0 (by decide)
  have hyl := hy.1
  refine tidewaterlaw13_TokenPlays_ok _ _ _ _ ?_
  unfold tidewaterlaw13_TokenPlays
  refine newS_mk (fun r5 w6 hr5 hb5 k6 hs6 => ?_)
  have o6 := ObjAt.new' hb5
  refine (alive13_spec A w6 _ (hL.keep k6) k6.size).mono ?_
  rintro x w8 ⟨rfl, k8'⟩
  have k8 := k6.trans k8'
  have o8 := o6.keep k8'
  refine ⟨_, rfl, BIf_mk (fun h => by cases h) (fun _ => ⟨e, n, s3, o8.row, ?_⟩)⟩
  refine (long13_spec e n s3 s4 xs ys w8 (rowsR_keep hx k8) (rowsR_keep hy k8)).mono ?_
  rintro x w14 ⟨b, rfl, k14', hlong⟩
  have k14 := k8.trans k14'
  have o14 := o8.keep k14'
  refine ⟨b, rfl, BIf_mk (fun _ => ⟨rfl, k14⟩) (fun hbf => ?_)⟩
  obtain ⟨hx20, hy60, hxs, hys⟩ := hlong hbf
  refine ⟨e, o14.cell 0 (by simp), n, o14.cell 1 (by simp), s3, o14.cell 2 (by simp), ?_⟩
  refine (New13_spec A e n s3 xs w14 (rowsR_keep hx k14) (fun x hx => by have := hxs x hx; omega) (by omega) _ (hL.keep k14)).mono ?_
  rintro x w20 ⟨k20', hm1⟩
  have k20 := k14.trans k20'
  have o20 := o14.keep k20'
  obtain ⟨bs, hbs⟩ : ∃ bs, bs = xs.map (fun x => (x.1, x.2.2)) := ⟨_, rfl⟩
  rw [← hbs] at hm1
  have hcall := refNew_spec e n s3 xs w20 (rowsR_keep hx k20) (fun x hx => by have := hxs x hx; omega) (by omega)
  rw [← hbs] at hcall
  cases hR : newR e n bs with
  | some k =>
    rw [hR] at hm1 hcall
    obtain rfl := hm1
    have hk19 : k < 19 := by
      rw [newR] at hR
      split at hR
      · cases hR; omega
      · split at hR
        · cases hR; omega
        · split at hR
          · cases hR; omega
          · cases hR
    refine ⟨none, _, rfl, e, o20.cell 0 (by simp), n, o20.cell 1 (by simp), s3, o20.cell 2 (by simp), hcall.mono ?_⟩
    rintro x w27 ⟨k27', rfl⟩
    have k27 := k20.trans k27'
    refine ⟨none, _, rfl, fun w2 => Keep w w2, ?_, ?_⟩
    · refine (Num_spec A k hk19 w27 (hE0.keep k27)).mono ?_
      rintro x w32 ⟨rfl, k32⟩
      refine ⟨_, rfl, BIf_ndec (fun h => absurd rfl h) (fun _ => BIf_mk (fun h => ?_) (fun _ => k27.trans k32))⟩
      exfalso
      have : ((k + 1 : Nat) : Int) ≠ 0 := by omega
      simp [this] at h
      omega
    · rintro w34 k34
      intros
      exact BIf_ndec (fun _ => ⟨rfl, k34⟩) (fun h => by omega)
  | none =>
    rw [hR] at hm1 hcall
    obtain ⟨r, F, sl, rfl, hS, hr, hF⟩ := hm1
    have hep : 0 ≤ e ∧ e ≤ 1073741824 ∧ 0 ≤ n ∧ n ≤ 4096 := by
      rw [newR] at hR
      split at hR
      · cases hR
      · split at hR
        · cases hR
        · omega
    refine ⟨_, _, rfl, e, o20.cell 0 (by simp), n, o20.cell 1 (by simp), s3, o20.cell 2 (by simp), hcall.mono ?_⟩
    rintro x w27 ⟨k27', rr, FF, ssl, rfl, hSS, hrr, hFF⟩
    have k27 := k20.trans k27'
    have z14 := k14.size
    have z20 := k20'.size
    have z27 := k27'.size
    have hrl := hS.o.lt
    refine ⟨_, _, rfl, fun w2 => Keep w27 w2, ?_, ?_⟩
    · refine (Num_nil w27).mono ?_
      rintro x w32 ⟨rfl, rfl⟩
      exact ⟨_, rfl, BIf_ndec (fun h => absurd rfl h) (fun _ => BIf_mk (fun h => by cases h) (fun _ => Ext.refl _ _))⟩
    rintro w34 k34
    intros
    refine BIf_ndec (fun h => absurd rfl h) (fun _ => ?_)
    have hlen4 : ∀ x, x < 13 → (newL bs x).length ≤ 4 := fun x hx => (hS.s x hx).2.2.1
    have hlen20 : ∀ x, (newL bs x).length ≤ 20 := newL_len bs 20 (fun b hb => by rw [hbs] at hb; obtain ⟨x, hx, rfl⟩ := List.mem_map.1 hb; exact hxs x hx)
    refine ⟨fun i w50 => ∃ (k : Nat) (n : Int) (F FF : Nat → Prop) (sl ssl : Nat → Slc) (L LL : Nat → List Int), i = k ∧ k ≤ ys.length ∧ (0 ≤ n ∧ n ≤ 4096) ∧ Keep w w50 ∧ SeqAt 4 w50 r F e n sl L ∧ SeqAt 100 w50 rr FF e n ssl LL ∧ (∀ x, x < 13 → L x = (LL x).take 4) ∧
      (∀ x, (LL x).length ≤ 20 + k) ∧ (∀ b, F b → w.heap.size ≤ b ∧ b < w50.heap.size ∧ b ≠ rr) ∧ ∀ b, FF b → w.heap.size ≤ b ∧ b < w50.heap.size ∧ b ≠ r, fun i _ => ((ys.length : Int) - i).toNat,
      ⟨0, n, F, FF, sl, ssl, _, _, rfl, by omega, by omega, k27.trans k34, hS.keep (k27'.trans k34), hSS.keep k34, fun x hx => by rw [List.take_of_length_le (hlen4 x hx)], fun x => hlen20 x, fun b hb => by have := hF b hb; have := k34.size; omega, fun b hb => by have := hFF b hb; have := k34.size; omega⟩, ?_⟩
    rintro i w50 ⟨k, n, F, FF, sl, ssl, L, LL, rfl, hk, hn, kp, hS, hSS, hLL, hlen, hF, hFF⟩
    intros
    have hE := hE0.keep kp
    have hrl := hS.o.lt
    have hrrl := hSS.o.lt
    refine BIf_dec (fun hlt => ?_) (fun hlt => ?_)
    · have hky : k < ys.length := by omega
      obtain ⟨a, ha, hrow, hint, _, _⟩ := rdBack_get (rowsR_keep hy kp) hky
      obtain ⟨_, _, _, hint0, _, _⟩ := rdBack_get hy hky
      have hy10 := hys _ (List.getElem_mem hky)
      refine needSome_mk ha ⟨by omega, hlt, _, _, by rw [show Int.toNat (k : Int) * 2 = k * 2 by omega]; exact hrow, ?_⟩
      generalize ys[k] = x at hrow hint hint0 hy10 ⊢
      obtain ⟨ep, st, l⟩ := x
      dsimp only at hrow hint hint0 hy10 ⊢
      refine var_mk rfl rfl (fun r141 w143 hr141 o143 k143 hs143 => ?_)
      have S143 := hS.keep k143
      have SS143 := hSS.keep k143
      refine (Copy_spec r F e n sl L w143 S143 (fun b hb => by have := hF b hb; omega)).mono ?_
      rintro x w145 ⟨rc, Fc, slc, rfl, C145, k145, hrc, hFc⟩
      have z143 := k143.size
      have z145 := k145.size
      have k145' := k143.trans k145
      have o145 := o143.keep k145
      have kw145 := kp.trans k145'
      have hrcl := C145.o.lt
      have notr : l ≠ [] → ∀ b, ownB st b → b < w.heap.size := fun h0 b hb => intsAt_lt hint0 h0 b hb
      refine ⟨_, rfl, ep, o145.cell 0 (by simp), st, o145.cell 1 (by simp), ?_⟩
      refine (Take_u A r F e n sl L ep st l w145 (hS.keep k145') (fun b hb => by have := hF b hb; omega) (intsAt_keep hint k145') (fun h0 b hb => by have := notr h0 b hb; omega) (by omega) hn w.heap.size (hL.keep kw145) (by omega)).mono ?_
      rintro x w150 ⟨out1, rfl, e150, F2, sl2, G1, S150, hF2, B150, hG1, hO1⟩
      have z150 := e150.size
      have o150 := o145.ext e150 (fun hh => by omega)
      have SS150 := (hSS.keep k145').ext e150 (fun hh => by omega) (fun b hb hh => (hFF b hb).2.2 hh)
      have C150 := C145.ext e150 (fun hh => by omega) (fun b hb hh => by have := hFc b hb; omega)
      have kw150 : Keep w w150 := kw145.ext e150 (fun b hb => by omega)
      have int150 : intsAt w150 st l := intsAt_keep hint0 kw150
      refine ⟨_, _, _, rfl, ep, o150.cell 0 (by simp), st, o150.cell 1 (by simp), ?_⟩
      refine (refTake_u rr FF e n ssl LL ep st l w150 SS150 (fun b hb => by have := hFF b hb; omega) int150 (fun h0 b hb => by have := notr h0 b hb; omega) (by omega) hn (fun x => by have := hlen x; omega)).mono ?_
      rintro x w157 ⟨out2, rfl, e157, FF2, ssl2, G2, SS157, hFF2, B157, hG2, hO2⟩
      have z157 := e157.size
      -- the same backs
      have hbl : pickR (takeR e n ep l) (l.map fun x => (x, L x.toNat)) [] = pickR (takeR e n ep l) (l.map fun x => (x, (LL x.toNat).take 4)) [] := by
        cases hR : takeR e n ep l with
        | some k => rfl
        | none =>
          have hm := rises_mem l (-1) (takeR_none hR).1
          show (l.map fun x => (x, L x.toNat)) = l.map fun x => (x, (LL x.toNat).take 4)
          refine List.map_congr_left (fun x hx => ?_)
          rw [hLL x.toNat (by have := hm x hx; omega)]
      have hbll : ∀ b ∈ pickR (takeR e n ep l) (l.map fun x => (x, (LL x.toNat).take 4)) [], b.2.length ≤ 2 ^ 40 := by
        cases hR : takeR e n ep l with
        | some k => intro b hb; cases hb
        | none =>
          intro b hb
          obtain ⟨x, hx, rfl⟩ := List.mem_map.1 hb
          simp; omega
      have hbln : (pickR (takeR e n ep l) (l.map fun x => (x, (LL x.toNat).take 4)) []).length ≤ 2 ^ 20 := by
        cases hR : takeR e n ep l with
        | some k => simp [pickR]
        | none => simp [pickR]; omega
      rw [hbl] at B150
      have hR19 : ∀ k, takeR e n ep l = some k → k < 19 := fun k hk => takeR_lt hk
      have hn2 : 0 ≤ resN (takeR e n ep l) n ∧ resN (takeR e n ep l) n ≤ 4096 := by
        cases hR : takeR e n ep l with
        | some k => exact hn
        | none => have := (takeR_none hR).2; simp only [resN]; omega
      have hL2 : ∀ x, x < 13 → pickR (takeR e n ep l) (takeL n l L) L x = (pickR (takeR e n ep l) (pushL n l LL) LL x).take 4 := by
        intro x hx
        cases hR : takeR e n ep l with
        | some k => exact hLL x hx
        | none =>
          have hp := congrFun (push_take n l LL) x
          simp only [pickR]
          refine Eq.trans ?_ hp.symm
          simp only [takeL, hLL x hx]
      have hlen2 : ∀ x, (pickR (takeR e n ep l) (pushL n l LL) LL x).length ≤ 20 + (k + 1) := by
        intro x
        have := hlen x
        cases hR : takeR e n ep l with
        | some k => simp only [pickR]; omega
        | none =>
          simp only [pickR, pushL]
          split
          · simp; omega
          · omega
      have B157 := B157
      have D150 := B150.ext e157 (fun b hb hh => by have := hO1 b hb; omega) (fun b hb hh => by have := hG1 b hb; omega)
      have S157 := S150.ext e157 (fun hh => by omega) (fun b hb hh => by exact (hF2 b hb).elim (fun h => by have := hF b h; omega) (fun h => by omega))
      have C157 := C150.ext e157 (fun hh => by omega) (fun b hb hh => by have := hFc b hb; omega)
      have o157 := o150.ext e157 (fun hh => by omega)
      have kw157 : Keep w w157 := kw150.ext e157 (fun b hb => by omega)
      refine ⟨_, _, _, rfl, fun w2 => Keep w157 w2, ?_, ?_⟩
      · refine BIf_ndec (fun hh => absurd rfl hh) (fun _ => ?_)
        refine (SameBacks_spec out1 out2 _ G1 G2 w157 D150 B157 hbln hbll).mono ?_
        rintro x w163 ⟨rfl, k163⟩
        refine ⟨_, rfl, BIf_mk (fun hh => by cases hh) (fun _ => ?_)⟩
        refine (Num_q A _ hR19 w163 (hE0.keep (kw157.trans k163))).mono ?_
        rintro x w166 ⟨rfl, k166⟩
        exact ⟨_, rfl, BIf_ndec (fun hh => absurd rfl hh) (fun _ => k163.trans k166)⟩
      rintro w168 k168
      intros
      have z168 := k168.size
      have kw168 := kw157.trans k168
      refine ⟨ep, (o157.keep k168).cell 0 (by simp), st, (o157.keep k168).cell 1 (by simp), ?_⟩
      refine (Take_u A rc Fc e n slc L ep st l w168 (C157.keep k168) (fun b hb => by have := hFc b hb; omega) (intsAt_keep hint0 kw168) (fun h0 b hb => by have := notr h0 b hb; omega) (by omega) hn w.heap.size (hL.keep kw168) (by omega)).mono ?_
      rintro x w188 ⟨out3, rfl, e188, F3, sl3, G3, C188, hF3, B188, hG3, hO3⟩
      have z188 := e188.size
      rw [hbl] at B188
      have S188 := (S157.keep k168).ext e188 (fun hh => by omega) (fun b hb hh => by exact (hF2 b hb).elim (fun h => by have := hF b h; omega) (fun h => by omega))
      have SS188 := (SS157.keep k168).ext e188 (fun hh => by omega) (fun b hb hh => by exact (hFF2 b hb).elim (fun h => by have := hFF b h; omega) (fun h => by omega))
      have D188 := (B157.keep k168).ext e188 (fun b hb hh => by have := hO2 b hb; omega) (fun b hb hh => by have := hG2 b hb; omega)
      have kw188 : Keep w w188 := kw168.ext e188 (fun b hb => by omega)
      refine ⟨_, _, _, rfl, BIf_ndec (fun hh => absurd rfl hh) (fun _ => ?_)⟩
      refine (SameBacks_spec out3 out2 _ G3 G2 w188 B188 D188 hbln hbll).mono ?_
      rintro x w193 ⟨rfl, k193⟩
      refine ⟨_, rfl, BIf_mk (fun hh => by cases hh) (fun _ => ?_)⟩
      refine (Num_q A _ hR19 w193 (hE0.keep (kw188.trans k193))).mono ?_
      rintro x w196 ⟨rfl, k196'⟩
      have k196 := k193.trans k196'
      refine ⟨_, rfl, BIf_ndec (fun hh => absurd rfl hh) (fun _ => ?_)⟩
      refine (same_spec A r rr F2 FF2 e _ sl2 ssl2 _ _ w196 (S188.keep k196) (SS188.keep k196) hL2 (by omega) (hE0.keep (kw188.trans k196))).mono ?_
      rintro x w199 ⟨rfl, k199'⟩
      have k199 := k196.trans k199'
      refine ⟨_, rfl, BIf_mk (fun hh => by cases hh) (fun _ => ?_)⟩
      refine (same_spec A rc rr F3 FF2 e _ sl3 ssl2 _ _ w199 (C188.keep k199) (SS188.keep k199) hL2 (by omega) (hE0.keep (kw188.trans k199))).mono ?_
      rintro x w202 ⟨rfl, k202'⟩
      have k202 := k199.trans k202'
      have z202 := k202.size
      refine ⟨_, rfl, BIf_mk (fun hh => by cases hh) (fun _ => ⟨inR64 (by omega), ⟨k + 1, _, F2, FF2, sl2, ssl2, _, _, by omega, by omega, hn2, kw188.trans k202, S188.keep k202, SS188.keep k202, hL2, hlen2, fun b hb => ?_, fun b hb => ?_⟩, by omega⟩)⟩
      · exact (hF2 b hb).elim (fun h => by have := hF b h; omega) (fun h => by omega)
      · exact (hFF2 b hb).elim (fun h => by have := hFF b h; omega) (fun h => by omega)
    · refine (same_spec A r rr F FF e n sl ssl L LL w50 hS hSS hLL (by omega) hE).mono ?_
      rintro x w205 ⟨rfl, k205⟩
      exact ⟨_, rfl, rfl, kp.trans k205⟩
end Go.D
