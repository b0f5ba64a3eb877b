/-
  WHAT IS PROVED: contracts of functions, and the plain law, for this proof. No further conditions.
-/
import Derived.Test.YtkklojleebkngaaDoorAll2
set_option linter.unusedVariables false
set_option linter.unusedSimpArgs false
namespace Go.D
open Go Go.Proofs

/-! ### what may be found behind a loss of power -/
def cntO (L : List SegS) : Nat := ((obsL L).map fun y => y.2.length).sum
theorem cntO_eq {L M : List SegS} (h : obsL L = obsL M) : cntO L = cntO M := by unfold cntO; rw [h]
theorem cntO_append (L M : List SegS) : cntO (L ++ M) = cntO L + cntO M := by unfold cntO obsL; simp
theorem cntO_take (p n : Nat) (L : List SegS) : cntO (L ++ [⟨p, n, []⟩]) = cntO L := by rw [cntO_append]; rfl
theorem cntO_add (M : List SegS) (g : SegS) (b : List UInt8) : cntO (addRec (M ++ [g]) b) = cntO (M ++ [g]) + 1 := by
  rw [addRec_snoc, cntO_append, cntO_append]
  have e1 : cntO [{ g with recs := g.recs ++ [b] }] = g.recs.length + 1 := by unfold cntO obsL; simp
  have e2 : cntO [g] = g.recs.length := by unfold cntO obsL; simp
  omega
theorem obs_len {L M : List SegS} (h : obsL L = obsL M) : L.length = M.length := by
  have := congrArg List.length h
  simpa [obsL] using this
/-- The three outcomes. -/
def OutL (k m : Nat) (L LB : List SegS) (dr : Bool) (len : Nat) (e' : Option Nat) (L' : List SegS) : Prop :=
  (∀ g ∈ L', g.num < m + 1) ∧ (L' = LB ∧ (e' = none ∨ e' = some 11) ∨ (L' = L ∧ e' ≠ none ∧ (e' ≠ some 11 ∨ obsL L ≠ obsL LB)) ∨ (e' = some 11 ∧ dr = false ∧ fitsL L len = false ∧ ∃ p, freeP k L = some p ∧ L' = takeL p L ∧ obsL L' ≠ obsL LB ∧ obsL L' ≠ obsL L))
def OutD (k m : Nat) (L LB : List SegS) (dr : Bool) (len : Nat) (e' : Option Nat) (d' : DevS) : Prop :=
  d'.pend.length ≤ 100 ∧ ∀ kept torn cut : Int, ∃ L', ImgOk (secI (crashL kept torn cut 0 d'.pend d'.img)) k L' ∧ OutL k m L LB dr len e' L'
theorem base_none {k : Nat} {L : List SegS} {b : List UInt8} (h : (appR k L b).1 = none) : ∃ L0, baseL k L b.length = some L0 ∧ L0 ≠ [] ∧ (appR k L b).2.2 = addRec L0 b ∧ (L0 = L ∨ fitsL L b.length = false ∧ ∃ p, freeP k L = some p ∧ L0 = takeL p L) := by
  unfold appR at h ⊢
  by_cases hc : b.length = 0 ∨ 3968 < b.length
  · rw [if_pos hc] at h; cases h
  · rw [if_neg hc] at h ⊢
    cases hb : baseL k L b.length with
    | none => rw [hb] at h; cases h
    | some L0 =>
      refine ⟨L0, rfl, ?_, rfl, ?_⟩
      · unfold baseL at hb
        split at hb
        · rename_i hf
          cases hb
          intro e; subst e; simp [fitsL] at hf
        · obtain ⟨p, _, rfl⟩ := Option.map_eq_some_iff.1 hb
          simp [takeL]
      · unfold baseL at hb
        split at hb
        · exact .inl (Option.some.inj hb).symm
        · rename_i hf
          obtain ⟨p, hp, rfl⟩ := Option.map_eq_some_iff.1 hb
          exact .inr ⟨by simpa using hf, p, hp, rfl⟩
theorem addRec_num {L0 : List SegS} {b : List UInt8} {m : Nat} (hne : L0 ≠ []) (h : ∀ g ∈ L0, g.num < m) : (∀ g ∈ addRec L0 b, g.num < m) ∧ (addRec L0 b).length = L0.length := by
  have e : L0 = L0.dropLast ++ [L0.getLast hne] := (List.dropLast_concat_getLast hne).symm
  rw [e] at h ⊢
  rw [addRec_snoc]
  refine ⟨fun g hg => ?_, by simp⟩
  rcases List.mem_append.1 hg with h1 | h1
  · exact h g (by simp [h1])
  · rw [List.mem_singleton] at h1; subst h1
    exact h (L0.getLast hne) (by simp)
theorem take_num {L : List SegS} {m p : Nat} (h : ∀ g ∈ L, g.num < m) : ∀ g ∈ takeL p L, g.num < m + 1 := by
  intro g hg
  rcases List.mem_append.1 hg with h1 | h1
  · have := h g h1; omega
  · rw [List.mem_singleton] at h1; subst h1
    have := nextN_le h
    show nextN L < m + 1; omega
theorem appR_bd {k m : Nat} {L : List SegS} {b : List UInt8} (h : ∀ g ∈ L, g.num < m) : (∀ g ∈ (appR k L b).2.2, g.num < m + 1) ∧ (appR k L b).2.2.length ≤ L.length + 1 := by
  cases hc : (appR k L b).1 with
  | some c =>
    have := (appR_err (k := k) (L := L) (b := b) (by rw [hc]; simp)).1
    rw [this]
    exact ⟨fun g hg => by have := h g hg; omega, by dsimp only; omega⟩
  | none =>
    obtain ⟨L0, _, hne, e, hb⟩ := base_none hc
    rw [e]
    rcases hb with rfl | ⟨_, p, _, rfl⟩
    · obtain ⟨v1, v2⟩ := addRec_num (b := b) hne (fun g hg => Nat.lt_succ_of_lt (h g hg))
      exact ⟨v1, by omega⟩
    · obtain ⟨v1, v2⟩ := addRec_num (b := b) hne (take_num h)
      exact ⟨v1, by rw [v2]; simp⟩
theorem dropR_bd {m : Nat} {L : List SegS} {n : Int} (h : ∀ g ∈ L, g.num < m) : (∀ g ∈ (dropR L n).2, g.num < m + 1) ∧ (dropR L n).2.length ≤ L.length + 1 ∧ ((dropR L n).1 = none → (dropR L n).2.length < L.length) := by
  unfold dropR
  split
  · exact ⟨fun g hg => by have := h g hg; omega, by dsimp only; omega, fun h => by cases h⟩
  · rename_i i hi
    obtain ⟨hil, _, _⟩ := List.findIdx?_eq_some_iff_getElem.1 hi
    split
    · exact ⟨fun g hg => by have := h g hg; omega, by dsimp only; omega, fun h => by cases h⟩
    · refine ⟨fun g hg => ?_, ?_, fun _ => ?_⟩
      · have := h g ((List.eraseIdx_sublist L i).subset hg); omega
      · rw [List.length_eraseIdx_of_lt hil]; omega
      · rw [List.length_eraseIdx_of_lt hil]; omega
section
variable {A : Nat → Addr} {w w' : World} {n0 r rd m : Nat} {u : StP} {q : DevP} {d : DevS} {L : List SegS} {b : List UInt8} {n : Int} {e' : Option Nat}
theorem AppPost.out (hp : AppPost A w n0 r rd u q d L m b n e' w') (h : Sys w n0 r rd u q d L m) :
    (∀ c, e' = some c → c < 19) ∧ ∃ q' d', DevAt w' rd q' d' ∧ d'.n = d.n ∧ Ext (SysB r u rd q) w w' ∧ (∀ j, DevB rd q' j → SysB r u rd q j ∨ w.heap.size ≤ j) ∧ OutD (d.n / 64) m L (appR (d.n / 64) L b).2.2 false b.length e' d' := by
  obtain ⟨q', d', hD, hn, hs, hc⟩ := hp
  rcases hc with ⟨h1, rfl, rfl, rfl, rfl, hk⟩ | ⟨h1, rfl, rfl, u', hS, ft⟩ | ⟨h1, rfl, h3, hcr, ft⟩
  · obtain ⟨e1, e2⟩ := appR_err h1
    refine ⟨appR_lt, q', d', hD, rfl, hk.mono (fun _ h => h.elim), fun j hj => .inl (.inr hj), by rw [h.p]; simp, fun kept torn cut => ⟨L, by rw [h.p]; exact h.I, fun g hg => Nat.lt_succ_of_lt (h.N g hg), .inr (.inl ⟨rfl, h1, .inl ?_⟩)⟩⟩
    rcases e2 with e2 | e2 <;> rw [e2] <;> simp
  · refine ⟨by simp, q', d', hD, hn, ft.1, fun j hj => ft.2 j (.inr hj), by rw [hS.p]; simp, fun kept torn cut => ⟨_, by rw [hS.p]; have := hS.I; rw [hn] at this; exact this, hS.N, .inl ⟨rfl, .inl rfl⟩⟩⟩
  · refine ⟨fun c hc => by cases hc; omega, q', d', hD, hn, ft.1, fun j hj => ft.2 j hj, hcr.1, fun kept torn cut => ?_⟩
    obtain ⟨L', hL', hI'⟩ := hcr.2 kept torn cut
    refine ⟨L', hI', ?_⟩
    obtain ⟨L0, hb, hne, e, hcase⟩ := base_none h1
    have hcnt : cntO (appR (d.n / 64) L b).2.2 = cntO L0 + 1 := by
      rw [e]
      have e0 : L0 = L0.dropLast ++ [L0.getLast hne] := (List.dropLast_concat_getLast hne).symm
      rw [e0]; exact cntO_add _ _ _
    have hc0 : cntO L0 = cntO L := by
      rcases hcase with rfl | ⟨_, p, _, rfl⟩
      · rfl
      · exact cntO_take _ _ _
    have hLne : obsL L ≠ obsL (appR (d.n / 64) L b).2.2 := fun hh => by have := cntO_eq hh; omega
    rw [hb] at hL'
    simp at hL'
    rcases hL' with rfl | rfl | rfl
    · exact ⟨fun g hg => Nat.lt_succ_of_lt (h.N g hg), .inr (.inl ⟨rfl, by simp, .inr hLne⟩)⟩
    · rcases hcase with rfl | ⟨hf, p, hp', rfl⟩
      · exact ⟨fun g hg => Nat.lt_succ_of_lt (h.N g hg), .inr (.inl ⟨rfl, by simp, .inr hLne⟩)⟩
      · refine ⟨take_num h.N, .inr (.inr ⟨rfl, rfl, hf, p, hp', rfl, fun hh => by have := cntO_eq hh; omega, fun hh => ?_⟩)⟩
        have := obs_len hh
        simp at this
    · exact ⟨(appR_bd h.N).1, .inl ⟨rfl, .inr rfl⟩⟩
theorem DropPost.out (hp : DropPost A w n0 r rd u q d L m n e' w') (h : Sys w n0 r rd u q d L m) (len : Nat) :
    (∀ c, e' = some c → c < 19) ∧ ∃ q' d', DevAt w' rd q' d' ∧ d'.n = d.n ∧ Ext (SysB r u rd q) w w' ∧ (∀ j, DevB rd q' j → SysB r u rd q j ∨ w.heap.size ≤ j) ∧ OutD (d.n / 64) m L (dropR L n).2 true len e' d' := by
  obtain ⟨q', d', hD, hn, hs, hc⟩ := hp
  rcases hc with ⟨h1, rfl, rfl, rfl, hk⟩ | ⟨h1, rfl, u', hS, ft⟩ | ⟨h1, rfl, h3, hcr, ft⟩
  · obtain ⟨e1, e2⟩ := dropR_err h1
    refine ⟨dropR_lt, q', d', hD, rfl, hk.mono (fun _ h => h.elim), fun j hj => .inl (.inr hj), by rw [h.p]; simp, fun kept torn cut => ⟨L, by rw [h.p]; exact h.I, fun g hg => Nat.lt_succ_of_lt (h.N g hg), .inr (.inl ⟨rfl, h1, .inl ?_⟩)⟩⟩
    rcases e2 with e2 | e2 <;> rw [e2] <;> simp
  · refine ⟨by simp, q', d', hD, hn, ft.1, fun j hj => ft.2 j (.inr hj), by rw [hS.p]; simp, fun kept torn cut => ⟨_, by rw [hS.p]; have := hS.I; rw [hn] at this; exact this, fun g hg => Nat.lt_succ_of_lt (hS.N g hg), .inl ⟨rfl, .inl rfl⟩⟩⟩
  · refine ⟨fun c hc => by cases hc; omega, q', d', hD, hn, ft.1, fun j hj => ft.2 j hj, hcr.1, fun kept torn cut => ?_⟩
    obtain ⟨L', hL', hI'⟩ := hcr.2 kept torn cut
    refine ⟨L', hI', ?_⟩
    have hlen := (dropR_bd (n := n) h.N).2.2 h1
    simp at hL'
    rcases hL' with rfl | rfl
    · exact ⟨fun g hg => Nat.lt_succ_of_lt (h.N g hg), .inr (.inl ⟨rfl, by simp, .inr (fun hh => by have := obs_len hh; omega)⟩)⟩
    · exact ⟨(dropR_bd h.N).1, .inl ⟨rfl, .inr rfl⟩⟩
end
end Go.D

set_option linter.unusedVariables false
set_option linter.unusedSimpArgs false
namespace Go.D
open Go Go.Proofs

theorem ObjAt.rowO8 {w : World} {r : Nat} {cs : List Value} (h : ObjAt w r cs) (o : Nat) (l : List Value) (hl : ∀ j (hj : j < l.length), cs[o + j]? = some l[j]) : rowAt w (⟨r, o, none⟩ : Addr) 0 l :=
  rowAt_of fun j hj => by
    have h1 := hl j hj
    obtain ⟨h2, h3⟩ := List.getElem?_eq_some_iff.1 h1
    rw [add_lit, Nat.zero_add, h.cell (o + j) h2, h3]
theorem act_row {w : World} {r : Nat} {a b c d e : Value} {l : List Value} (h : ObjAt w r (a :: b :: c :: d :: e :: l)) : rowAt w (⟨r, 0, none⟩ : Addr) 0 [a, b, c, d, e] := h.rowO8 0 _ (fun j hj => by
  have : j < 5 := hj
  match j, this with
  | 0, _ => rfl
  | 1, _ => rfl
  | 2, _ => rfl
  | 3, _ => rfl
  | 4, _ => rfl)
theorem broken_spec8 (A : Nat → Addr) {w0 w : World} {rd r r2 k m : Nat} {u : StP} {q : DevP} {d : DevS} {sl : Slc} {zs : List Rz} {L : List SegS} (h : Lw w0 w rd r r2 k m u q d sl zs L) (hL : gL zs = L) (hE : Errs A w0) (hm : m ≤ 2 ^ 58)
    (l4 l5 : Int) (b : UInt8) (dr op br : Bool) (aft kept torn cut : Int) (haft : inR .i64 aft) (hkept : inR .u64 kept) :
    Calls Tryd.prog fn_tidewaterlaw08_broken ⟨[ptrR' rd, ptrR' r, ptrR' r2, .agg ⟨[.int .i64 l4, .int .i64 l5, .int .u8 (b.toNat : Int), .bool dr, .bool op, .bool br, .int .i64 aft, .int .u64 kept, .int .i64 torn, .int .i64 cut]⟩]⟩ w fun e w' =>
      ∃ r' r2' u' q' d' sl' zs' L', e = .returned (.tuple ⟨[ptrR' r', ptrR' r2', .bool true]⟩) ∧ Lw w0 w' rd r' r2' k (m + 1) u' q' d' sl' zs' L' ∧ gL zs' = L' := by
  refine tidewaterlaw08_broken_ok _ _ _ _ _ _ _ _ _ _ _ _ _ ?_
  unfold tidewaterlaw08_broken
  have hG : ErrsG segG A w0.heap.size w0 := ErrsG.sub (G := errG) (ErrsB.g hE.b) segG_sub
  obtain ⟨hok, hk20, hz20⟩ := h.ok hL (by omega)
  refine newS_mk (fun r14 w15 hr14 hb14 k15 hs15 => ?_)
  have o14 := ObjAt.new' hb14
  have h15 := h.keep k15
  refine (refCopy_spec8 h15.R hok).mono ?_
  rintro e w17 ⟨rB, slB, zsB, rfl, RB, gB, WB, YB, k17⟩
  have h17 := h15.keep k17
  refine ⟨_, rfl, (refCopy_spec8 h17.R hok).mono ?_⟩
  rintro e w20 ⟨rT, slT, zsT, rfl, RT, gT, WT, YT, k20⟩
  have h20 := h17.keep k20
  have kc : Keep w15 w20 := k17.trans k20
  refine ⟨_, rfl, _, (o14.keep kc).cell 6 (by simp), (Stop_spec8 h20.S.B.D aft haft).mono ?_⟩
  rintro e w24 ⟨rfl, hD24, x24⟩
  refine ⟨rfl, ?_⟩
  have sysLt := h.S.B.lt
  have rLt := h.R.lt
  have z15 := k15.size
  have z17 := k17.size
  have z20 := k20.size
  have z24 := x24.size
  have rdS : SysB r u rd q rd := .inr (.inl rfl)
  have hrd := sysLt rd rdS
  have ltB := RB.lt
  have ltT := RT.lt
  have dB : ∀ j, RfW rB slB zsB j → ¬ SysB r u rd q j := fun j hj hh => by have := WB j hj; have := sysLt j hh; omega
  have dT : ∀ j, RfW rT slT zsT j → ¬ SysB r u rd q j := fun j hj hh => by have := WT j hj; have := sysLt j hh; omega
  have yB : ∀ j, RfY zsB j → ¬ SysB r u rd q j := fun j hj => h.ys j (YB j hj)
  have yT : ∀ j, RfY zsT j → ¬ SysB r u rd q j := fun j hj => h.ys j (YT j hj)
  have R24 := h20.R.ext x24 (fun j hj hh => h.ws j hj (by rw [show j = rd from hh]; exact rdS)) (fun j hj hh => h.ys j hj (by rw [show j = rd from hh]; exact rdS))
  have RB24 := (RB.keep k20).ext x24 (fun j hj hh => dB j hj (by rw [show j = rd from hh]; exact rdS)) (fun j hj hh => yB j hj (by rw [show j = rd from hh]; exact rdS))
  have RT24 := RT.ext x24 (fun j hj hh => dT j hj (by rw [show j = rd from hh]; exact rdS)) (fun j hj hh => yT j hj (by rw [show j = rd from hh]; exact rdS))
  have o24 := (o14.keep kc).ext x24 (fun hh => by have : r14 = rd := hh; omega)
  have kp24 : Keep w0 w24 := h20.kp.ext x24 (fun j hj => by rw [show j = rd from hj]; exact h.S.B.dn rd (.inl rfl))
  have S24 : Sys w24 w0.heap.size r rd u q { d with stops := true, left := if 0 > aft then 0 else aft } L m :=
    ⟨⟨h20.S.B.S.ext x24 (fun j hj hh => h.S.B.sep j hj (by rw [show j = rd from hh]; exact .inl rfl)), hD24, h.S.B.sep, h.S.B.dn, h.S.B.sn, kp24.size⟩, h.S.p, h.S.I, h.S.N, h.S.k⟩
  have hk24 : (DevS.mk d.img d.pend true (if 0 > aft then 0 else aft)).n / 64 = k := h.k
  let PO : Value → World → Prop := fun err w60 => ∃ (e' : Option Nat) (q' : DevP) (d' : DevS) (slB' : Slc) (zsB' : List Rz), err = errO A e' ∧ (∀ c, e' = some c → c < 19) ∧ DevAt w60 rd q' d' ∧ d'.n = d.n ∧ OutD k m L (gL zsB') dr (lenA l4) e' d' ∧
    (∀ j, DevB rd q' j → w0.heap.size ≤ j ∧ j ≠ r14 ∧ ¬ RfW r2 sl zs j ∧ ¬ RfY zs j ∧ ¬ RfW rB slB' zsB' j ∧ ¬ RfY zsB' j ∧ ¬ RfW rT slT zsT j ∧ ¬ RfY zsT j) ∧
    RfAt w60 r2 k sl zs ∧ RfAt w60 rB k slB' zsB' ∧ RfAt w60 rT k slT zsT ∧
    ObjAt w60 r14 [.int .i64 l4, .int .i64 l5, .int .u8 (b.toNat : Int), .bool dr, .bool op, .bool br, .int .i64 aft, .int .u64 kept, .int .i64 torn, .int .i64 cut] ∧ Keep w0 w60 ∧ (∀ j, RfW rB slB' zsB' j → w0.heap.size ≤ j) ∧
    zsB'.length ≤ 1000 ∧ ∀ z ∈ zsB', z.g.num ≤ 2 ^ 59
  have z0 := h.kp.size
  have fin25 : ∀ (wa wb wb' wc : World) (e' : Option Nat) (q' : DevP) (d' : DevS) (slB' : Slc) (zsB' : List Rz), Keep w24 wa → Ext (SysB r u rd q) wa wb → Keep wb wb' → DevAt wb rd q' d' → d'.n = d.n → (∀ j, DevB rd q' j → SysB r u rd q j ∨ wa.heap.size ≤ j) → (∀ c, e' = some c → c < 19) →
      RfAt wc rB k slB' zsB' → RfTo rB slB slB' zsB zsB' wb' wc → OutD k m L (gL zsB') dr (lenA l4) e' d' → (gL zsB').length ≤ L.length + 1 → (∀ g ∈ gL zsB', g.num < m + 1) → PO (errO A e') wc := by
    intro wa wb wb' wc e' q' d' slB' zsB' ka xb kb' hD' hn' hq' hc' hRB hT hO hl1 hn1
    have za := ka.size
    have zb := xb.size
    have zb' := kb'.size
    -- blocks of the model's copy lie between
    have bw : ∀ j, RfW rB slB' zsB' j → w15.heap.size ≤ j := fun j hj => (hT.2.1 j hj).elim (fun g => WB j g) (fun g => by omega)
    have eB : ∀ j, RfW rB slB zsB j → w15.heap.size ≤ j ∧ j < w17.heap.size := fun j hj => ⟨WB j hj, ltB.1 j hj⟩
    have nB : ∀ j, DevB rd q' j → j < wb.heap.size := hD'.lt
    have hzl9 : zsB'.length ≤ 1000 := by
      have h1 : zsB'.length = (gL zsB').length := by simp
      have := h.S.len
      have := h.k
      omega
    refine ⟨e', q', d', slB', zsB', rfl, hc', (hD'.keep kb').ext hT.1 (fun j hj hh => ?_), hn', hO, fun j hj => ?_, ?_, hRB, ?_, ?_, ?_, fun j hj => by have := bw j hj; omega, hzl9, fun z hz => by have := hn1 z.g (List.mem_map.2 ⟨z, hz, rfl⟩); omega⟩
    · rcases hq' j hj with g | g
      · exact dB j hh g
      · have := (eB j hh).2; omega
    · have big : ∀ i, wa.heap.size ≤ j → i < w24.heap.size → j ≠ i := fun i h1 h2 e => by omega
      have lj := nB j hj
      have nBw : ¬ RfW rB slB' zsB' j := fun hh => by
        rcases hT.2.1 j hh with g | g
        · rcases hq' j hj with g2 | g2
          · exact dB j g g2
          · have := (eB j g).2; omega
        · omega
      have nBy : ¬ RfY zsB' j := fun hh => by
        rcases hT.2.2 j hh with g | g
        · rcases hq' j hj with g2 | g2
          · exact yB j g g2
          · have := ltB.2 j g; omega
        · omega
      rcases hq' j hj with g | g
      · exact ⟨SysB_ge h.S j g, by have := sysLt j g; omega, fun hh => h.ws j hh g, fun hh => h.ys j hh g, nBw, nBy, fun hh => dT j hh g, fun hh => yT j hh g⟩
      · exact ⟨by omega, by omega, fun hh => by have := rLt.1 j hh; omega, fun hh => by have := rLt.2 j hh; omega, nBw, nBy, fun hh => by have := ltT.1 j hh; omega, fun hh => by have := ltT.2 j hh; omega⟩
    · exact (((R24.keep ka).ext xb h.ws h.ys).keep kb').ext hT.1 (fun j hj hh => by have := (eB j hh).1; have := rLt.1 j hj; omega) (fun j hj hh => by have := (eB j hh).1; have := rLt.2 j hj; omega)
    · refine (((RT24.keep ka).ext xb dT yT).keep kb').ext hT.1 (fun j hj hh => by have := (eB j hh).2; have := WT j hj; omega) (fun j hj hh => ?_)
      have := (eB j hh).1
      have := rLt.2 j (YT j hj); omega
    · refine (((o24.keep ka).ext xb (fun hh => by have := sysLt _ hh; omega)).keep kb').ext hT.1 (fun hh => ?_)
      have := (eB _ hh).1
      omega
    · exact (((kp24.trans ka).ext xb (SysB_ge h.S)).trans kb').ext hT.1 (fun j hj => by have := (eB j hj).1; omega)
  refine ⟨PO, ⟨_, o24.cell 3 (by simp), BIf_mk (fun hdr => ?_) (fun hdr => ?_)⟩, ?_⟩
  · refine ⟨_, o24.cell 1 (by simp), (Drop_spec8 A S24 (hG.keep kp24) (by omega) l5).mono ?_⟩
    rintro e w29 ⟨e', rfl, hp⟩
    obtain ⟨hc', q', d', hD', hn', xb, hq', hO⟩ := hp.out S24 (lenA l4)
    rw [hk24] at hO
    have o29 := o24.ext xb (fun hh => by have := sysLt _ hh; omega)
    have RB29 := RB24.ext xb dB yB
    refine ⟨_, rfl, _, o29.cell 1 (by simp), (refDrop_spec8 RB29 (by
      have : zsB.length = (gL zsB).length := by simp
      rw [gB] at this
      have : (gL zs).length = zs.length := by simp
      omega) l5).mono ?_⟩
    rintro e w33 ⟨rfl, slB', zsB', hg', hRB', hT'⟩
    rw [gB, hL] at hg' 
    obtain ⟨v1, v2, _⟩ := dropR_bd (n := l5) h.S.N
    refine ⟨_, rfl, fin25 w24 w29 w29 w33 e' q' d' slB' zsB' (Ext.refl _ _) xb (Ext.refl _ _) hD' hn' hq' hc' hRB' hT' (by rw [hg', show dr = true from hdr]; exact hO) (by rw [hg']; exact v2) (by rw [hg']; exact v1)⟩
  · refine ⟨_, _, _, _, _, act_row o24, (record_spec8a l4 l5 b dr op w24).mono ?_⟩
    rintro e w41 ⟨t, rfl, ht, htf, k41⟩
    have hrl := lenA_le l4
    have hbl : (recA l4 b).length ≤ 2 ^ 20 := by simp [recA]; omega
    have hbl2 : (recA l4 b).length = lenA l4 := by simp [recA]
    refine ⟨t, rfl, Calls.mono (R := fun e w' => ∃ n e', e = .returned (.tuple ⟨[.int .i64 n, errO A e']⟩) ∧ AppPost A w41 w0.heap.size r rd u q { d with stops := true, left := if 0 > aft then 0 else aft } L m (recA l4 b) n e' w') (segs_Store_Append_ok _ _ (Append_gen8 (S24.keep k41) (hG.keep (kp24.trans k41)) (by omega) ht.bytes (ht.le (by omega)) hbl (fun _ j hj hh => ?_) (fun n e' w' hh => ⟨n, e', rfl, hh⟩))) ?_⟩
    · have := htf j hj; have := sysLt j hh; omega
    rintro e w44 ⟨n, e', rfl, hp⟩
    obtain ⟨hc', q', d', hD', hn', xb, hq', hO⟩ := hp.out (S24.keep k41)
    rw [hk24, hbl2] at hO
    have o44 := (o24.keep k41).ext xb (fun hh => by have := sysLt _ hh; omega)
    refine ⟨_, _, rfl, _, _, _, _, _, act_row o44, (record_spec8a l4 l5 b dr op w44).mono ?_⟩
    rintro e w53 ⟨t2, rfl, ht2, htf2, k53⟩
    have RB53 := ((RB24.keep k41).ext xb dB yB).keep k53
    have hzB : zsB.length = zs.length := by
      have h1 : zsB.length = (gL zsB).length := by simp
      rw [h1, gB]; simp
    have hokB : RfOk zsB := by
      refine ⟨by omega, fun z hz => ?_, fun z hz => ?_⟩
      · have h1 : z.g ∈ gL zs := by rw [← gB]; exact List.mem_map.2 ⟨z, hz, rfl⟩
        obtain ⟨y, hy, e⟩ := List.mem_map.1 h1
        rw [← e]; exact hok.n y hy
      · have h1 : z.g ∈ gL zs := by rw [← gB]; exact List.mem_map.2 ⟨z, hz, rfl⟩
        obtain ⟨y, hy, e⟩ := List.mem_map.1 h1
        rw [← e]; exact hok.s y hy
    have lt53 := ((RB24.keep k41).ext xb dB yB).lt
    refine ⟨t2, rfl, (refAppend_spec8 RB53 hokB (by omega) t2 (recA l4 b) ht2.bytes hbl (fun _ j hj hh => by have := htf2 j hj; have := lt53.1 j hh; omega)).mono ?_⟩
    rintro e w56 ⟨rfl, slB', zsB', hg', hRB', hT'⟩
    rw [gB, hL] at hg'
    obtain ⟨v1, v2⟩ := appR_bd (k := k) (b := recA l4 b) h.S.N
    refine ⟨_, _, rfl, fin25 w41 w44 w53 w56 e' q' d' slB' zsB' k41 xb k53 hD' hn' hq' hc' hRB' hT' (by rw [hg', show dr = false by simpa using hdr]; exact hO) (by rw [hg']; exact v2) (by rw [hg']; exact v1)⟩
  · rintro err w60 ⟨e', q', d', slB', zsB', rfl, hc', hD60, hn', hO, hDB, R60, RB60, RT60, o60, kp60, WB60, lB60, nB60⟩
    intros
    refine ⟨_, o60.cell 7 (by simp), _, o60.cell 8 (by simp), _, o60.cell 9 (by simp), (Crash_spec hD60 kept torn cut hkept (by have := hO.1; omega)).mono ?_⟩
    rintro e w91 ⟨q'', rfl, hD91, f91⟩
    have z91 := f91.1.size
    have z60 := kp60.size
    have kp91 : Keep w0 w91 := kp60.ext f91.1 (fun j hj => (hDB j hj).1)
    have hncr : (crashS d' kept torn cut).n = d.n := by
      rw [← hn']
      show (crashL kept torn cut 0 d'.pend d'.img).length / 64 = d'.img.length / 64
      rw [crashL_len (d := d') kept torn cut hD60.ok.m _ _ _ (fun x hx => hD60.ok.p x hx) rfl]
    obtain ⟨L', hI', hN', hcase⟩ := hO.2 kept torn cut
    have hdn'' : ∀ j, DevB rd q'' j → w0.heap.size ≤ j := fun j hj => (f91.2 j hj).elim (fun g => (hDB j g).1) (fun g => by omega)
    refine ⟨rfl, (open_sys8 A (hG.keep kp91) hD91 rfl (L := L') (m := m + 1) (by rw [hncr, h.k]; exact hI') (by rw [hncr]; exact h.S.k) hN' (by omega) hdn'' kp91.size).mono ?_⟩
    rintro e w93 ⟨r', u', rfl, hS93, hSf, k93⟩
    refine ⟨_, _, rfl, fun w2 => w2 = w93, ⟨trivial, BIf_mk (fun h => by cases h) (fun _ => BIf_mk (fun h => by cases h) (fun _ => rfl))⟩, ?_⟩
    rintro w97 rfl
    intros
    have lwOf : ∀ {ρ : Nat} {slρ : Slc} {zsρ : List Rz} {w2 : World}, Keep w97 w2 → RfAt w60 ρ k slρ zsρ → (∀ j, RfW ρ slρ zsρ j → w0.heap.size ≤ j) → (∀ j, DevB rd q' j → ¬ RfW ρ slρ zsρ j ∧ ¬ RfY zsρ j) → Lw w0 w2 rd r' ρ k (m + 1) u' q'' (crashS d' kept torn cut) slρ zsρ L' := by
      intro ρ slρ zsρ w2 k2 hR hn hd
      have lt := hR.lt
      refine ⟨hS93.keep k2, ((hR.ext f91.1 (fun j hj hh => (hd j hh).1 hj) (fun j hj hh => (hd j hh).2 hj)).keep k93).keep k2, by rw [hncr]; exact h.k, rfl, (kp91.trans k93).trans k2, hn, fun j hj hh => ?_, fun j hj hh => ?_⟩
      · have := lt.1 j hj
        rcases hh with hh | hh
        · have := hSf j hh; omega
        · rcases f91.2 j hh with g | g
          · exact (hd j g).1 hj
          · omega
      · have := lt.2 j hj
        rcases hh with hh | hh
        · have := hSf j hh; omega
        · rcases f91.2 j hh with g | g
          · exact (hd j g).2 hj
          · omega
    have lB : ∀ {w2 : World}, Keep w97 w2 → Lw w0 w2 rd r' rB k (m + 1) u' q'' (crashS d' kept torn cut) slB' zsB' L' := fun k2 => lwOf k2 RB60 WB60 (fun j hj => ⟨(hDB j hj).2.2.2.2.1, (hDB j hj).2.2.2.2.2.1⟩)
    have l2 : ∀ {w2 : World}, Keep w97 w2 → Lw w0 w2 rd r' r2 k (m + 1) u' q'' (crashS d' kept torn cut) sl zs L' := fun k2 => lwOf k2 R60 h.wn (fun j hj => ⟨(hDB j hj).2.2.1, (hDB j hj).2.2.2.1⟩)
    have lT : ∀ {w2 : World}, Keep w97 w2 → Lw w0 w2 rd r' rT k (m + 1) u' q'' (crashS d' kept torn cut) slT zsT L' := fun k2 => lwOf k2 RT60 (fun j hj => by have := WT j hj; omega) (fun j hj => ⟨(hDB j hj).2.2.2.2.2.2.1, (hDB j hj).2.2.2.2.2.2.2⟩)
    have hNb : ∀ g ∈ L', g.num ≤ 2 ^ 59 := fun g hg => by have := hN' g hg; omega
    have sameB := fun {w2 : World} (k2 : Keep w97 w2) => same_spec8 (lB k2).S (lB k2).R (lB k2).k lB60 nB60 hNb
    have hE2 : ∀ {w2 : World}, Keep w97 w2 → Errs A w2 := fun k2 => hE.keep ((kp91.trans k93).trans k2)
    rcases hcase with ⟨hLL, he⟩ | ⟨hLL, he, hne⟩ | ⟨rfl, hdr, hfit, p, hfp, hLL, hn1, hn2⟩
    · -- what it has behind the call
      refine ⟨fun _ => False, ((lB (Ext.refl _ _)).same hLL.symm (by omega)).mono ?_, fun w hh => hh.elim⟩
      rintro e w109 ⟨rfl, k109⟩
      refine ⟨_, rfl, BIf_mk (fun _ => ⟨errO_isI A _, BIf_mk (fun _ => ?_) (fun hnn => ?_)⟩) (fun h => by cases h)⟩
      · exact ⟨r', rB, u', q'', _, slB', zsB', L', rfl, lB k109, hLL.symm⟩
      · rcases he with rfl | rfl
        · cases hnn
        · refine (numO_spec8 A (some 11) (by simp) w109 (hE2 k109)).mono ?_
          rintro e w112 ⟨rfl, k112⟩
          exact ⟨_, rfl, BIf_dec (fun _ => ⟨r', rB, u', q'', _, slB', zsB', L', rfl, lB (k109.trans k112), hLL.symm⟩) (fun hh => absurd rfl hh)⟩
    · -- what it had ahead of it
      have hnil : isNilI (errO A e') = false := by
        rw [errO_nil]
        cases e' with
        | none => exact absurd rfl he
        | some c => rfl
      refine ⟨fun w2 => Keep w97 w2, (sameB (Ext.refl _ _)).mono ?_, ?_⟩
      · rintro e w109 ⟨rfl, k109⟩
        refine ⟨_, rfl, BIf_mk (fun hb => ⟨errO_isI A _, BIf_mk (fun hn9 => by rw [hnil] at hn9; cases hn9) (fun _ => ?_)⟩) (fun _ => k109)⟩
        refine (numO_spec8 A e' hc' w109 (hE2 k109)).mono ?_
        rintro e w112 ⟨rfl, k112⟩
        refine ⟨_, rfl, BIf_dec (fun h12 => ?_) (fun _ => k109.trans k112)⟩
        exfalso
        have hob : obsL L' = obsL (gL zsB') := of_decide_eq_true hb
        rw [hLL] at hob
        rcases hne with hne | hne
        · cases e' with
          | none => exact he rfl
          | some c =>
            apply hne
            have : ((c + 1 : Nat) : Int) = 12 := h12
            congr 1; omega
        · exact hne hob
      · rintro w114 k114
        intros
        refine ⟨fun _ => False, ⟨errO_isI A _, BIf_mk (fun _ => ((l2 k114).same (by rw [hL, hLL]) (by omega)).mono ?_) (fun hh => by rw [hnil] at hh; cases hh)⟩, fun w hh => hh.elim⟩
        rintro e w134 ⟨rfl, k134⟩
        exact ⟨_, rfl, BIf_mk (fun _ => ⟨r', r2, u', q'', _, sl, zs, L', rfl, l2 (k114.trans k134), by rw [hL, hLL]⟩) (fun hh => by cases hh)⟩
    · -- a segment besides
      refine ⟨fun w2 => Keep w97 w2, (sameB (Ext.refl _ _)).mono ?_, ?_⟩
      · rintro e w109 ⟨rfl, k109⟩
        exact ⟨_, rfl, BIf_mk (fun hb => absurd (of_decide_eq_true hb) hn1) (fun _ => k109)⟩
      · rintro w114 k114
        intros
        refine ⟨fun w2 => Keep w97 w2, ⟨errO_isI A _, BIf_mk (fun _ => (same_spec8 (l2 k114).S (l2 k114).R (l2 k114).k hok.l hok.n hNb).mono ?_) (fun hh => by cases hh)⟩, ?_⟩
        · rintro e w134 ⟨rfl, k134⟩
          exact ⟨_, rfl, BIf_mk (fun hb => absurd (by rw [of_decide_eq_true hb, hL]) hn2) (fun _ => k114.trans k134)⟩
        · rintro w136 k136
          intros
          have o136 := ((o60.ext f91.1 (fun hh => (hDB _ hh).2.1 rfl)).keep k93).keep k136
          refine ⟨fun mo w2 => mo = true ∧ ∃ sl' zs', Lw w0 w2 rd r' rT k (m + 1) u' q'' (crashS d' kept torn cut) sl' zs' L' ∧ gL zs' = L', ⟨_, o136.cell 3 (by simp), BIf_mk (fun _ => ?_) (fun hh => by rw [show dr = false from hdr] at hh; cases hh)⟩, ?_⟩
          · refine ⟨_, _, _, _, _, act_row o136, (record_spec8a l4 l5 b dr op w136).mono ?_⟩
            rintro e w157 ⟨t, rfl, ht, htf, k157⟩
            have hrl := lenA_le l4
            have htl : t.l = lenA l4 := by have := ht.bytes.1; simpa [recA] using this
            refine ⟨t, rfl, (refFits_spec8 (l2 (k136.trans k157)).R (by omega) (fun z hz => by have := hok.s z hz; omega) t (by omega)).mono ?_⟩
            rintro e w160 ⟨rfl, k160⟩
            rw [htl, hL, hfit]
            refine ⟨_, rfl, BIf_mk (fun _ => ?_) (fun hh => by cases hh)⟩
            have hTT := lT ((k136.trans k157).trans k160)
            have hzT : zsT.length = zs.length := by
              have h1 : zsT.length = (gL zsT).length := by simp
              rw [h1, gT]; simp
            refine (refTake_spec8 hTT.R (by omega) (by omega) (fun z hz => ?_)).mono ?_
            · have h1 : z.g ∈ gL zs := by rw [← gT]; exact List.mem_map.2 ⟨z, hz, rfl⟩
              obtain ⟨y, hy, e⟩ := List.mem_map.1 h1
              rw [← e]; have := hok.n y hy; omega
            · rintro e w163 hR9
              rw [gT, hL, hfp] at hR9
              obtain ⟨rfl, sl', hR', e9, f9⟩ := hR9
              refine ⟨_, rfl, rfl, sl', _, hTT.rf hR' ⟨e9, f9, fun j hj => ?_⟩, ?_⟩
              · obtain ⟨y, hy, hj⟩ := hj
                rcases List.mem_append.1 hy with hy | hy
                · exact .inl ⟨y, hy, hj⟩
                · rw [List.mem_singleton] at hy; subst hy
                  obtain ⟨cs, hc, _⟩ := hj; simp at hc
              · have h9 : gL (zsT ++ [(⟨⟨p, nextN L, []⟩, 0, ⟨none, 0, 0⟩, []⟩ : Rz)]) = gL zsT ++ [⟨p, nextN L, []⟩] := by simp
                rw [h9, gT, hL, hLL]
          · rintro mo w166 ⟨rfl, sl', zs', hW, hg⟩
            intros
            refine BIf_mk (fun _ => (numO_spec8 A (some 11) (by simp) w166 (hE.keep hW.kp)).mono ?_) (fun hh => by cases hh)
            rintro e w184 ⟨rfl, k184⟩
            refine ⟨_, rfl, BIf_dec (fun _ => ((hW.keep k184).same hg (by omega)).mono ?_) (fun hh => absurd rfl hh)⟩
            rintro e w187 ⟨rfl, k187⟩
            exact ⟨_, rfl, r', rT, u', q'', _, sl', zs', L', rfl, (hW.keep k184).keep k187, hg⟩
end Go.D

set_option linter.unusedVariables false
set_option linter.unusedSimpArgs false
namespace Go.D
open Go Go.Proofs

abbrev Life08 := Act08 × Bool × Int × Int × Int × Int
abbrev rdLife08 : Rd Life08 := Rd.pair rdAct08 (Rd.pair Rd.bool (Rd.pair (Rd.int .i64) (Rd.pair (Rd.int .u64) (Rd.pair (Rd.int .i64) (Rd.int .i64)))))
def lifeC08 (x : Life08) : List Value := [.int .i64 x.1.1, .int .i64 x.1.2.1, .int .u8 x.1.2.2.1, .bool x.1.2.2.2.1, .bool x.1.2.2.2.2, .bool x.2.1, .int .i64 x.2.2.1, .int .u64 x.2.2.2.1, .int .i64 x.2.2.2.2.1, .int .i64 x.2.2.2.2.2]
def LivesAt08 (w : World) (s : Slc) (xs : List Life08) : Prop := s.l = xs.length ∧ ∀ i (h : i < xs.length), inR .u8 xs[i].1.2.2.1 ∧ inR .i64 xs[i].2.2.1 ∧ inR .u64 xs[i].2.2.2.1 ∧ ∃ a, s.p = some a ∧ rowAt w (a.add (i * 10)) 0 (lifeC08 xs[i])
theorem lives_of08 {w : World} {s : Slc} {xs : List Life08} (h : rowsR rdLife08 w s xs) : LivesAt08 w s xs := by
  obtain ⟨h1, h2, _, h3⟩ := h
  refine ⟨h1, fun i hi => ?_⟩
  obtain ⟨a, cs, ha, ⟨_, _, hcs, ⟨_, _, rfl, ⟨rfl, _⟩, ⟨_, _, rfl, ⟨rfl, _⟩, ⟨_, _, rfl, ⟨rfl, hu⟩, ⟨_, _, rfl, rfl, rfl⟩⟩⟩⟩, ⟨_, _, rfl, rfl, ⟨_, _, rfl, ⟨rfl, ha1⟩, ⟨_, _, rfl, ⟨rfl, hk1⟩, ⟨_, _, rfl, ⟨rfl, _⟩, ⟨rfl, _⟩⟩⟩⟩⟩⟩, hrow⟩ := h3 i hi
  subst hcs
  exact ⟨hu, ha1, hk1, a, ha, hrow⟩

theorem SegsPower_walk (A : Nat → Addr) (n : Int) (sl0 : Slc) (l : List Life08) (w : World) (hl : LivesAt08 w sl0 l) (hE : Errs A w) :
    Calls Tryd.prog fn_tidewaterlaw08_SegsPower ⟨[.int .i64 n, sl0.v]⟩ w fun e w' => e = .returned (.bool true) ∧ Keep w w' := by
  refine tidewaterlaw08_SegsPower_ok _ _ ?_
  unfold tidewaterlaw08_SegsPower
  have hll := hl.1
  refine (alive_spec8 A w hE).mono ?_
  rintro e w4 ⟨rfl, k4⟩
  refine ⟨_, rfl, BIf_mk (fun h => by cases h) (fun _ => BIf_dec (fun h0 => ⟨rfl, k4⟩) (fun h0 => (begin_spec8 A n w w4 hE k4).mono ?_))⟩
  rintro e w7 ⟨rd, r, r2, k, u, q, d, rfl, h7⟩
  refine ⟨_, _, _, rfl, fun w2 => w2 = w7, BIf_mk (fun h => by cases h) (fun _ => BIf_mk (fun h => by cases h) (fun _ => rfl)), ?_⟩
  rintro w12 rfl
  intros
  refine ⟨fun s s2 i w2 => ∃ (t r r2 : Nat) (u : StP) (q : DevP) (d : DevS) (sl : Slc) (zs : List Rz) (L : List SegS), i = t ∧ t ≤ l.length ∧ s = some ⟨r, 0, none⟩ ∧ s2 = some ⟨r2, 0, none⟩ ∧ Lw w w2 rd r r2 k t u q d sl zs L ∧ gL zs = L, fun _ _ i _ => ((l.length : Int) - i).toNat,
    ⟨0, r, r2, u, q, d, _, _, _, rfl, by omega, rfl, rfl, h7, rfl⟩, ?_⟩
  rintro s s2 i w25 ⟨t, r, r2, u, q, d, sl, zs, L, rfl, ht, rfl, rfl, hW, hL⟩
  intros
  refine BIf_dec (fun h1 => ?_) (fun h1 => ⟨rfl, hW.kp⟩)
  have htl : t < l.length := by omega
  obtain ⟨hu, ha1, hk1, a, ha, hrow⟩ := hl.2 t htl
  obtain ⟨b, hbx⟩ := u8_of hu
  generalize hact : l[t] = act at hrow hbx ha1 hk1
  obtain ⟨⟨x1, x2, x3, x4, x5⟩, x6, x7, x8, x9, x10⟩ := act
  subst hbx
  refine needSome_mk ha ⟨by omega, h1, _, _, _, _, _, _, _, _, _, _, by rw [Int.toNat_natCast]; exact rowAt_keep hrow hW.kp, ?_⟩
  refine var_mk (cs := lifeC08 ((x1, x2, (b.toNat : Int), x4, x5), x6, x7, x8, x9, x10)) rfl rfl (fun r75 w77 hr o75 k77 hs => ⟨_, o75.cell 5 (by simp [lifeC08]), BIf_mk (fun hb => ?_) (fun hb => ?_)⟩)
  · refine ⟨_, _, _, _, _, act_row o75, (do_spec8 A (hW.keep k77) hL hE (by omega) x1 x2 b x4 x5).mono ?_⟩
    rintro e w85 ⟨r', u', q', d', sl', zs', L', rfl, h85, hL'⟩
    refine ⟨_, _, rfl, BIf_mk (fun h => by cases h) (fun _ => (h85.same hL' (by omega)).mono ?_)⟩
    rintro e w89 ⟨rfl, k89⟩
    exact ⟨_, rfl, BIf_mk (fun h => by cases h) (fun _ => ⟨inR64 (by omega), ⟨t + 1, r', r2, u', q', d', sl', zs', L', rfl, htl, rfl, rfl, h85.keep k89, hL'⟩, by dsimp only; omega⟩)⟩
  · refine ⟨_, _, _, _, _, _, _, _, _, _, o75.row, (broken_spec8 A (hW.keep k77) hL hE (by omega) x1 x2 b x4 x5 x6 x7 x8 x9 x10 ha1 hk1).mono ?_⟩
    rintro e w102 ⟨r', r2', u', q', d', sl', zs', L', rfl, h102, hL'⟩
    exact ⟨_, _, _, rfl, BIf_mk (fun h => by cases h) (fun _ => ⟨inR64 (by omega), ⟨t + 1, r', r2', u', q', d', sl', zs', L', rfl, htl, rfl, rfl, h102, hL'⟩, by dsimp only; omega⟩)⟩
theorem SegsPower_fin (n : Int) (sl0 : Slc) (l : List Life08) (w : World) (hl : rowsR rdLife08 w sl0 l) (A : Nat → Addr) (hE : Errs A w) :
    Calls Tryd.prog fn_tidewaterlaw08_SegsPower ⟨[.int .i64 n, sl0.v]⟩ w fun e w' => e = .returned (.bool true) ∧ Keep w w' := SegsPower_walk A n sl0 l w (lives_of08 hl) hE
end Go.D

