/-
  WHAT IS PROVED: contracts of functions, and the plain law, for this proof. No further conditions.
-/
import Derived.Test.YtkcobfichmjbdaaDoorToken4
import Derived.Test.YtkcobfichmjbdaaDoorVCtoken2
set_option linter.unusedVariables false
set_option linter.unusedSimpArgs false
namespace Go.D
open Go Go.Proofs

theorem In_spec (s : Slc) (l : List Int) (n : Int) (w : World) (h : intsAt w s l) (hl : l.length ≤ 2 ^ 40) :
    Calls Tryd.prog fn_tidewaternum_In ⟨[s.v, .int .i64 n]⟩ w fun e w' => e = .returned (.bool (decide (n ∈ l))) ∧ w' = w := by
  have hsl := h.1
  refine tidewaternum_In_ok _ _ ?_
  unfold tidewaternum_In
  refine ⟨fun i w2 => w2 = w ∧ ∃ k : Nat, i = k ∧ k ≤ l.length ∧ n ∉ l.take k, fun i _ => ((l.length : Int) - i).toNat, ⟨rfl, 0, rfl, by omega, by simp⟩, ?_⟩
  rintro i w2 ⟨rfl, k, rfl, hk, hn⟩
  intros
  refine BIf_dec (fun hlt => ?_) (fun hlt => ?_)
  · have hkl : k < l.length := by omega
    obtain ⟨a, ha, hc⟩ := intsAt_cell h hkl
    refine needSome_mk ha ⟨by omega, hlt, l[k], by rw [show Int.toNat (k : Int) * 1 = k by omega]; exact hc, BIf_dec (fun h1 => ⟨?_, rfl⟩) (fun h1 => ?_)⟩
    · rw [decide_eq_true (by rw [← h1]; exact List.getElem_mem hkl)]
    · refine ⟨inR64 (by omega), ⟨rfl, k + 1, rfl, hkl, ?_⟩, by dsimp only; omega⟩
      rw [List.take_succ_eq_append_getElem hkl]
      simp only [List.mem_append, List.mem_singleton, not_or]
      exact ⟨hn, fun h2 => h1 h2.symm⟩
  · rw [List.take_of_length_le (by omega)] at hn
    exact ⟨by rw [decide_eq_false hn], rfl⟩

theorem Newest_spec (r : Nat) (F : Nat → Prop) (e n : Int) (sl : Nat → Slc) (L : Nat → List Int) (x : Nat) (hx : x < 13) (w : World) (h : SeqAt 4 w r F e n sl L) :
    Calls Tryd.prog fn_token_Sequencer_Newest ⟨[.pointer (some ⟨r, 0, none⟩), .int .i64 e, .int .i64 (x : Int)]⟩ w fun y w' => ∃ t : Slc, y = .returned (.tuple ⟨[t.v, .nilIface]⟩) ∧ intsAt w' t (L x) ∧ Fresh w t ∧ (∀ k, ownB t k → k < w'.heap.size) ∧ Keep w w' := by
  refine token_Sequencer_Newest_ok _ _ _ ?_
  unfold token_Sequencer_Newest
  refine needSome_mk rfl ⟨e, h.c0, BIf_ndec (fun hh => absurd rfl hh) (fun _ => ?_)⟩
  refine (stream_spec (x : Int) w).mono ?_
  rintro y w8 ⟨rfl, rfl⟩
  refine ⟨_, rfl, BIf_ndec (fun hh => absurd (by omega) hh) (fun _ => needSome_mk rfl ?_)⟩
  rw [show Int.toNat (x : Int) * 1 = x by omega, add_lit, add_lit]
  obtain ⟨h1, h2, h3⟩ := h.s x hx
  refine ⟨by omega, by omega, sl x, by have := h.cx hx; simpa using this, ?_⟩
  refine (CloneI_spec (sl x) (L x) w8 h1 (by omega)).mono ?_
  rintro y w14 ⟨t, rfl, ht, htc, hft, htl, k14⟩
  exact ⟨t, rfl, t, rfl, ht, hft, htl, k14⟩
theorem Next_spec (r : Nat) (F : Nat → Prop) (e n : Int) (sl : Nat → Slc) (L : Nat → List Int) (w : World) (h : SeqAt 4 w r F e n sl L) :
    Calls Tryd.prog fn_token_Sequencer_Next ⟨[.pointer (some ⟨r, 0, none⟩), .int .i64 e]⟩ w fun y w' => y = .returned (.tuple ⟨[.int .i64 n, .nilIface]⟩) ∧ w' = w := by
  refine token_Sequencer_Next_ok _ _ ?_
  unfold token_Sequencer_Next
  exact needSome_mk rfl ⟨e, h.c0, BIf_ndec (fun hh => absurd rfl hh) (fun _ => needSome_mk rfl ⟨n, by rw [add_lit]; exact h.c1, rfl, rfl⟩)⟩

theorem addr_add0 (a : Addr) : a.add 0 = a := by
  obtain ⟨b, o, s⟩ := a
  cases s <;> simp [Addr.add]
theorem ObjAt.rowFrom {w : World} {r : Nat} {cs : List Value} (h : ObjAt w r cs) (k : Nat) : rowAt w (⟨r, k, none⟩ : Addr) 0 (cs.drop k) :=
  rowAt_of fun j hj => by
    have hl : k + j < cs.length := by simp at hj; omega
    rw [add_lit, Nat.zero_add, h.cell (k + j) hl]
    simp
theorem slices_get (sl : Nat → Slc) {k : Nat} (hk : k < 13) : ((List.range 13).map fun x => (sl x).v)[k]? = some (sl k).v := by
  simp [hk]

theorem Copy_spec (r : Nat) (F : Nat → Prop) (e n : Int) (sl : Nat → Slc) (L : Nat → List Int) (w : World) (h : SeqAt 4 w r F e n sl L) (hF : ∀ k, F k → k < w.heap.size) :
    Calls Tryd.prog fn_token_Sequencer_Copy ⟨[.pointer (some ⟨r, 0, none⟩)]⟩ w fun y w' => ∃ r' F' sl', y = .returned (.pointer (some ⟨r', 0, none⟩)) ∧ SeqAt 4 w' r' F' e n sl' L ∧ Keep w w' ∧ w.heap.size ≤ r' ∧ ∀ k, F' k → w.heap.size ≤ k ∧ k < w'.heap.size := by
  refine token_Sequencer_Copy_ok _ ?_
  unfold token_Sequencer_Copy
  refine needSome_mk rfl ⟨e, n, sl 0, sl 1, sl 2, sl 3, sl 4, sl 5, sl 6, sl 7, sl 8, sl 9, sl 10, sl 11, sl 12, h.o.row, ?_⟩
  refine var_mk rfl rfl (fun r18 w20 hr18 o20 k20 hs20 => ?_)
  have o20 : ObjAt w20 r18 (seqC e n sl) := o20
  have hrow := o20.rowFrom 2
  refine ⟨sl 0, sl 1, sl 2, sl 3, sl 4, sl 5, sl 6, sl 7, sl 8, sl 9, sl 10, sl 11, sl 12, hrow, ?_⟩
  have S20 : SeqAt 4 w20 r18 F e n sl L := ⟨o20, fun x hx => ⟨intsAt_keep (h.s x hx).1 k20, (h.s x hx).2⟩, fun hh => by have := hF r18 hh; omega⟩
  refine ⟨fun i w37 => ∃ (k : Nat) (G : Nat → Prop) (sl' : Nat → Slc), i = k ∧ k ≤ 13 ∧ Keep w w37 ∧ SeqAt 4 w37 r18 (fun b => F b ∨ G b) e n sl' L ∧ (∀ b, G b → w.heap.size ≤ b ∧ b < w37.heap.size) ∧ ∀ x, x < k → ∀ b, ownB (sl' x) b → G b, fun i _ => (13 - i).toNat,
    ⟨0, fun _ => False, sl, rfl, by omega, k20, S20.wide (fun b hb => .inl hb) (fun hh => hh.elim S20.f (fun h => h)), fun _ hh => hh.elim, fun x hx => by omega⟩, ?_⟩
  rintro i w37 ⟨k, G, sl', rfl, hk, kp, hS, hG, hown⟩
  intros
  have z37 := kp.size
  refine BIf_dec (fun hlt => ?_) (fun hlt => ?_)
  · have hk13 : k < 13 := by omega
    refine ⟨by omega, by omega, sl k, ?_, ?_⟩
    · rw [show Int.toNat (k : Int) = k by omega]
      exact slices_get sl hk13
    obtain ⟨h1, h2, h3⟩ := h.s k hk13
    refine (CloneI_spec (sl k) (L k) w37 (intsAt_keep h1 kp) (by omega)).mono ?_
    rintro y w51 ⟨t, rfl, ht, htc, hft, htl, k51⟩
    have hr18 : r18 < w37.heap.size := hS.o.lt
    have S51 := (hS.keep k51).wide (G := fun b => F b ∨ (G b ∨ ownB t b)) (fun b hb => hb.imp (fun h => h) .inl) (by
      rintro (h4 | h4 | h4)
      · have := hF r18 h4; omega
      · exact hS.f (.inr h4)
      · have := hft r18 h4; omega)
    obtain ⟨z1, z2⟩ := S51.setS hk13 ht (fun b hb => .inr (.inr hb)) h3.1 htc
    rw [show Int.toNat (k : Int) * 1 = k by omega, add_lit]
    refine ⟨t, rfl, by omega, by omega, z1, fun w53 hw => ?_⟩
    obtain ⟨S53, e53⟩ := z2 w53 hw
    have eL : updS L k (L k) = L := by
      funext x
      by_cases hx : x = k
      · subst hx; exact if_pos rfl
      · exact if_neg hx
    rw [eL] at S53
    have z53 := e53.size
    have z51 := k51.size
    refine ⟨inR64 (by omega), ⟨k + 1, fun b => G b ∨ ownB t b, _, rfl, by omega, (kp.trans k51).ext e53 (fun b hb => by omega), S53, fun b hb => ?_, fun x hx b hb => ?_⟩, by dsimp only; omega⟩
    · rcases hb with hb | hb
      · have := hG b hb; omega
      · have := hft b hb; have := htl b hb; omega
    · by_cases hxk : x = k
      · subst hxk
        simp only [updS, if_pos rfl] at hb
        exact .inr hb
      · simp only [updS, if_neg hxk] at hb
        exact .inl (hown x (by omega) b hb)
  · obtain rfl : k = 13 := by omega
    refine ⟨r18, G, sl', rfl, ⟨hS.o, fun x hx => ⟨(hS.s x hx).1, hown x hx, (hS.s x hx).2.2⟩, fun hh => hS.f (.inr hh)⟩, kp, by omega, hG⟩

theorem TokenApart_walk (s1 : Slc) (xs : List (Int × (Slc × List Int))) (stream : Int) (w : World) (hx : rowsR rdBack w s1 xs) (A : Nat → Addr) (hL : LE5 A w.heap.size w) :
    Calls Tryd.prog fn_tidewaterlaw13_TokenApart ⟨[s1.v, .int .i64 stream]⟩ w fun e w' => e = .returned (.bool true) ∧ Keep w w' := by
  have hsl := hx.1
  refine tidewaterlaw13_TokenApart_ok _ _ ?_
  unfold tidewaterlaw13_TokenApart
  refine (alive13_spec A w _ hL (Nat.le_refl _)).mono ?_
  rintro e w4 ⟨rfl, k4⟩
  refine ⟨_, rfl, BIf_mk (fun h => by cases h) (fun _ => BIf_dec (fun _ => ⟨rfl, k4⟩) (fun h60 => ?_))⟩
  refine (New13_nil 1 0 w4 A _ (hL.keep k4) (by omega) (by omega)).mono ?_
  rintro x w7 ⟨k7', r, F, sl, rfl, hS, hr, hF⟩
  have k7 := k4.trans k7'
  have z4 := k4.size
  have z7 := k7'.size
  obtain ⟨y, hy, hY, hY0⟩ : ∃ m : Nat, (m : Int) < 13 ∧ IntKind.wrap .i64 ((IntKind.wrap .u64 stream) % 13) = (m : Int) ∧ 0 ≤ IntKind.wrap .u64 stream := by
    have hu : 0 ≤ IntKind.wrap .u64 stream := by
      simp [IntKind.wrap, IntKind.signed, IntKind.bits]; omega
    generalize IntKind.wrap .u64 stream = u at hu
    have h1 : 0 ≤ u % 13 := Int.emod_nonneg _ (by omega)
    have h2 : u % 13 < 13 := Int.emod_lt_of_pos _ (by omega)
    refine ⟨(u % 13).toNat, by omega, ?_, hu⟩
    generalize u % 13 = v at h1 h2
    simp [IntKind.wrap, IntKind.signed, IntKind.bits]
    omega
  rw [hY]
  have hy13 : y < 13 := by omega
  refine ⟨_, _, rfl, trivial, BIf_mk (fun h => by cases h) (fun _ => ⟨hY0, by omega, ?_⟩)⟩
  refine ⟨fun i w13 => ∃ (k n : Nat) (F : Nat → Prop) (sl : Nat → Slc) (L : Nat → List Int), i = k ∧ k ≤ xs.length ∧ n ≤ k ∧ Keep w w13 ∧ SeqAt 4 w13 r F 1 n sl L ∧ ∀ b, F b → w.heap.size ≤ b ∧ b < w13.heap.size, fun i _ => ((xs.length : Int) - i).toNat,
    ⟨0, 0, F, sl, _, rfl, by omega, by omega, k7, hS, fun b hb => by have := hF b hb; omega⟩, ?_⟩
  rintro i w13 ⟨k, n, F, sl, L, rfl, hk, hn, kp, hS, hF⟩
  intros
  refine BIf_dec (fun hlt => ?_) (fun hlt => ⟨rfl, kp⟩)
  have hkx : k < xs.length := by omega
  obtain ⟨a, ha, hrow, hint, _, _⟩ := rdBack_get (rowsR_keep hx kp) hkx
  obtain ⟨_, _, _, hint0, _, _⟩ := rdBack_get hx hkx
  refine needSome_mk ha ⟨by omega, hlt, _, _, by rw [show Int.toNat (k : Int) * 2 = k * 2 by omega]; exact hrow, ?_⟩
  generalize xs[k] = x at hrow hint hint0 ⊢
  obtain ⟨ep, st, l⟩ := x
  dsimp only at hrow hint hint0 ⊢
  have hstl := hint.1
  have hrl : r < w13.heap.size := hS.o.lt
  refine var_mk rfl rfl (fun r125 w127 hr125 o127 k127 hs127 => ⟨st, o127.cell 1 (by simp), BIf_dec (fun _ => ⟨rfl, kp.trans k127⟩) (fun h10 => ?_)⟩)
  have S127 := hS.keep k127
  refine (Copy_spec r F 1 n sl L w127 S127 (fun b hb => by have := hF b hb; omega)).mono ?_
  rintro e w130 ⟨rc, Fc, slc, rfl, C130, k130, hrc, hFc⟩
  have S130 := S127.keep k130
  refine ⟨_, rfl, (Newest_spec r F 1 n sl L y hy13 w130 S130).mono ?_⟩
  rintro e w133 ⟨was, rfl, hwas, fwas, lwas, k133⟩
  refine ⟨_, _, rfl, (Next_spec r F 1 n sl L w133 (S130.keep k133)).mono ?_⟩
  rintro e w137 ⟨rfl, rfl⟩
  have k137 := k127.trans (k130.trans k133)
  have S137 := hS.keep k137
  have o137 := o127.keep (k130.trans k133)
  have C137 := C130.keep k133
  refine ⟨_, _, rfl, st, o137.cell 1 (by simp), ?_⟩
  have z127 := k127.size
  have z130 := k130.size
  have z133 := k133.size
  refine (Take_spec A r F 1 n sl L 1 st l w137 S137 (fun b hb => by have := hF b hb; omega) (intsAt_keep hint k137) (fun h0 b hb => by have := intsAt_lt hint0 h0 b hb; omega) (by omega) (by omega) w.heap.size (hL.keep (kp.trans k137)) (by omega)).mono ?_
  rintro e w142 ⟨at_, out, ev, rfl, hm⟩
  refine ⟨_, _, _, rfl, ?_⟩
  -- what the taking leaves
  obtain ⟨n', F2, sl2, L2, S142, e142, hF2, hLL⟩ : ∃ (n' : Nat) (F2 : Nat → Prop) (sl2 : Nat → Slc) (L2 : Nat → List Int), SeqAt 4 w142 r F2 1 n' sl2 L2 ∧ Ext (fun b => b = r) w137 w142 ∧ (∀ b, F2 b → w.heap.size ≤ b ∧ b < w142.heap.size) ∧
      n' ≤ k + 1 ∧ ((ev ≠ .nilIface ∧ isNilI ev = false ∧ isI ev ∧ L2 = L) ∨ (ev = .nilIface ∧ at_ = n ∧ L2 = takeL n l L)) := by
    cases hR : takeR 1 n 1 l with
    | some j =>
      rw [hR] at hm
      obtain ⟨_, _, rfl, k142⟩ := hm
      have := k142.size
      exact ⟨n, F, sl, L, S137.keep k142, k142.mono (fun _ h => h.elim), fun b hb => by have := hF b hb; omega, by omega, .inl ⟨by simp [errV], rfl, trivial, rfl⟩⟩
    | none =>
      rw [hR] at hm
      obtain ⟨rfl, rfl, he, G, sl', hG, hS', _, _⟩ := hm
      have := he.size
      refine ⟨n + 1, _, sl', _, by rw [show ((n + 1 : Nat) : Int) = (n : Int) + 1 by omega]; exact hS', he, fun b hb => ?_, by omega, .inr ⟨rfl, rfl, rfl⟩⟩
      rcases hb with hb | hb
      · have := hF b hb; omega
      · have := hG b hb; omega
  obtain ⟨hn', hcase⟩ := hLL
  have z142 := e142.size
  have C142 := C137.ext e142 (fun hh => by omega) (fun b hb hh => by have := hFc b hb; omega)
  have was142 : intsAt w142 was (L y) := intsAt_ext hwas e142 (fun b hb hh => by have := fwas b hb; omega)
  have o142 := o137.ext e142 (fun hh => by omega)
  refine (Newest_spec r F2 1 n' sl2 L2 y hy13 w142 S142).mono ?_
  rintro e w147 ⟨now, rfl, hnow, fnow, lnow, k147⟩
  refine ⟨_, _, rfl, (Newest_spec rc Fc 1 n slc L y hy13 w147 (C142.keep k147)).mono ?_⟩
  rintro e w151 ⟨old, rfl, hold, fold_, lold, k151⟩
  refine ⟨_, _, rfl, (Next_spec rc Fc 1 n slc L w151 ((C142.keep k147).keep k151)).mono ?_⟩
  rintro e w155 ⟨rfl, rfl⟩
  have k155 := k147.trans k151
  have kw137 := kp.trans k137
  have kw142 : Keep w w142 := kw137.ext e142 (fun b hb => by omega)
  have hLy := (hS.s y hy13).2.2.1
  refine ⟨_, _, rfl, fun w2 => Keep w155 w2, ?_, ?_⟩
  · refine (SameInts_spec old was (L y) (L y) w155 hold (intsAt_keep was142 k155) (by omega)).mono ?_
    rintro e w160 ⟨rfl, k160⟩
    exact ⟨_, rfl, BIf_mk (fun h => by simp at h) (fun _ => BIf_ndec (fun h => absurd rfl h) (fun _ => k160))⟩
  · rintro w162 k162'
    intros
    have k162 := k155.trans k162'
    have next : ∀ w2, Keep w142 w2 → inR .i64 ((k : Int) + 1) ∧ (∃ (k' n : Nat) (F : Nat → Prop) (sl : Nat → Slc) (L : Nat → List Int), ((k : Int) + 1) = k' ∧ k' ≤ xs.length ∧ n ≤ k' ∧ Keep w w2 ∧ SeqAt 4 w2 r F 1 n sl L ∧ ∀ b, F b → w.heap.size ≤ b ∧ b < w2.heap.size) ∧ ((xs.length : Int) - ((k : Int) + 1)).toNat < ((xs.length : Int) - (k : Int)).toNat := by
      intro w2 k2
      have := k2.size
      exact ⟨inR64 (by omega), ⟨k + 1, n', F2, sl2, L2, rfl, hkx, hn', kw142.trans k2, S142.keep k2, fun b hb => by have := hF2 b hb; omega⟩, by omega⟩
    have now162 : intsAt w162 now (L2 y) := intsAt_keep hnow (k151.trans k162')
    have same : L2 y = L y → ∀ w2, Keep w142 w2 → intsAt w2 now (L2 y) → Calls Tryd.prog fn_tidewaternum_SameInts ⟨[now.v, was.v]⟩ w2 fun e190 w191 => ∃ b192 : Bool, e190 = .returned (Value.bool b192) ∧ BIf (!b192) (Ending.returned (Value.bool false) = .returned (.bool true) ∧ Keep w w191)
        (inR .i64 ((k : Int) + 1) ∧ (∃ (k' n : Nat) (F : Nat → Prop) (sl : Nat → Slc) (L : Nat → List Int), ((k : Int) + 1) = k' ∧ k' ≤ xs.length ∧ n ≤ k' ∧ Keep w w191 ∧ SeqAt 4 w191 r F 1 n sl L ∧ ∀ b, F b → w.heap.size ≤ b ∧ b < w191.heap.size) ∧ ((xs.length : Int) - ((k : Int) + 1)).toNat < ((xs.length : Int) - (k : Int)).toNat) := by
      intro he w2 k2 hn2
      refine (SameInts_spec now was (L2 y) (L y) w2 hn2 (intsAt_keep was142 k2) (by rw [he]; omega)).mono ?_
      rintro e w191 ⟨rfl, k191⟩
      exact ⟨_, rfl, BIf_mk (fun h => by rw [he] at h; simp at h) (fun _ => next _ (k2.trans k191))⟩
    refine ⟨fun b w2 => w2 = w162 ∧ ((b = false ∧ L2 y = L y) ∨ (b = true ∧ at_ = n ∧ L2 y = ((n : Int) :: L y).take 4)), ?_, ?_⟩
    · rcases hcase with ⟨_, hnil, hi, rfl⟩ | ⟨rfl, rfl, rfl⟩
      · exact ⟨hi, BIf_mk (fun h => by rw [hnil] at h; cases h) (fun _ => ⟨rfl, .inl ⟨rfl, rfl⟩⟩)⟩
      · refine ⟨trivial, BIf_mk (fun _ => ⟨st, (o142.keep k162).cell 1 (by simp), ?_⟩) (fun h => by cases h)⟩
        refine (In_spec st l y w162 (intsAt_keep hint0 (kw142.trans k162)) (by omega)).mono ?_
        rintro e w176 ⟨rfl, rfl⟩
        refine ⟨_, rfl, rfl, ?_⟩
        by_cases hm : (y : Int) ∈ l
        · right; exact ⟨decide_eq_true hm, rfl, by rw [takeL, if_pos hm]⟩
        · left; exact ⟨decide_eq_false hm, by rw [takeL, if_neg hm]⟩
    · rintro b w179 ⟨rfl, hb⟩
      intros
      rcases hb with ⟨rfl, he⟩ | ⟨rfl, hat, he⟩
      · refine BIf_mk (fun h => by cases h) (fun _ => BIf_mk (fun _ => ?_) (fun h => by cases h))
        exact same he w179 k162 now162
      · have hpos : 0 < (L2 y).length := by rw [he]; simp
        have h0 : (L2 y)[0] = (n : Int) := by
          have : (L2 y)[0]? = some (n : Int) := by rw [he]; rfl
          rw [List.getElem?_eq_getElem hpos] at this
          exact Option.some.inj this
        obtain ⟨a', ha', hc'⟩ := intsAt_cell now162 hpos
        have hnl := now162.1
        refine BIf_mk (fun _ => BIf_dec (fun h => by omega) (fun _ => needSome_mk ha' ⟨by omega, by omega, (L2 y)[0], by rwa [addr_add0] at hc', BIf_ndec (fun h => ?_) (fun _ => BIf_ndec (fun h => absurd hat h) (fun _ => BIf_mk (fun h => by cases h) (fun _ => next _ k162)))⟩)) (fun h => by cases h)
        exact absurd (h0.trans hat.symm) h
end Go.D
