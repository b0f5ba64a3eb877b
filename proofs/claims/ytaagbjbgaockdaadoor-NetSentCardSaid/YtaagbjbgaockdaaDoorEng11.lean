/-
  WHAT IS PROVED: the engine: verification conditions of the code, with their soundness. No further conditions.
-/
import Derived.Test.YtaagbjbgaockdaaDoorEng10
set_option linter.unusedSimpArgs false
namespace Go.D
open Go
set_option linter.unusedVariables false

/-! ### code -/
inductive Ex where
  | normal
  | exit (id : Nat)
  | ret
abbrev Post := Ex → List Value → World → Prop

def thenQ (next : List Value → World → Prop) (Q : Post) : Post
  | .normal, l, w => next l w
  | e, l, w => Q e l w
def blockQ (id : Nat) (Q : Post) : Post
  | .exit i, l, w => (match Nat.beq i id with | true => Q .normal l w | false => Q (.exit i) l w)
  | e, l, w => Q e l w

def Cur : List Sh → Type
  | [] => World → Prop
  | s :: r => s.T → Cur r
def CurN : List Sh → Type
  | [] => World → Nat
  | s :: r => s.T → CurN r

def decC : (shs : List Sh) → Cur shs → List Value → World → Prop
  | [], (J : World → Prop), _, w => J w
  | s :: r, J, vs, w => s.dec (vs.headD undef) fun x => decC r (J x) vs.tail w
def decM : (shs : List Sh) → Cur shs → CurN shs → List Value → World → Nat → Prop
  | [], (J : World → Prop), (μ : World → Nat), _, w, m => J w ∧ μ w < m
  | s :: r, J, μ, vs, w, m => s.dec (vs.headD undef) fun x => decM r (J x) (μ x) vs.tail w m
def allC : (shs : List Sh) → Cur shs → (List Value → (World → Prop) → Prop) → Prop
  | [], (J : World → Prop), K => K [] J
  | s :: r, J, K => ∀ x : s.T, allC r (J x) fun vs X => K (s.v x :: vs) X
def allM : (shs : List Sh) → Cur shs → CurN shs → (List Value → (World → Prop) → (World → Nat) → Prop) → Prop
  | [], (J : World → Prop), (μ : World → Nat), K => K [] J μ
  | s :: r, J, μ, K => ∀ x : s.T, allM r (J x) (μ x) fun vs X m => K (s.v x :: vs) X m
def allU : List Nat → (List Value → Prop) → Prop
  | [], K => K []
  | _ :: r, K => ∀ u : Value, allU r fun us => K (u :: us)

def setMany (l : List Value) : List Nat → List Value → List Value
  | [], _ => l
  | d :: ds, vs => setMany (l.set d (vs.headD undef)) ds vs.tail
def slots (l : List Value) (ds : List Nat) : List Value := ds.map fun d => l.getD d undef

inductive Ann where
  | none
  | two (x y : Ann)
  | one (x : Ann)
  | cut (live : List (Nat × Sh)) (dead : List Nat) (x y : Ann)
  | loop (live : List (Nat × Sh)) (dead : List Nat) (x : Ann)
  | reg (wr : List Nat)

def codeDsts : Code → List Nat
  | .region _ ops _ => dstsOf ops.toList
  | .seq a b => codeDsts a ++ codeDsts b
  | .cond _ a b => codeDsts a ++ codeDsts b
  | .block _ a => codeDsts a
  | .loop a => codeDsts a
  | .rangeFunc _ _ a b => codeDsts a ++ codeDsts b
  | .scope a => codeDsts a
  | _ => []

def subB (a b : List Nat) : Bool := a.all fun x => b.contains x

def regionD (P : Program) (L : Nat → Bool) (wr : List Nat) (ops : Array Oper) (dr : Bool) (Q : List Value → World → Prop) (l : List Value) (w : World) : Prop :=
  match dr with
  | false => opsK P L wr ops.toList ops.toList 0 Q l w
  | true => (match Region.noSelect ops && pairsOk ops (masks ops.toList []) with
      | true => G P L wr ops.toList (masks ops.toList []) ops.toList.length [] [] Q l w.drew
      | false => False)

def annL : Ann → Ann
  | .two x _ => x
  | .cut _ _ x _ => x
  | .one x => x
  | .loop _ _ x => x
  | _ => .none
def annR : Ann → Ann
  | .two _ y => y
  | .cut _ _ _ y => y
  | _ => .none

def den (P : Program) (L : Nat → Bool) (ann : Ann) : Code → Post → List Value → World → Prop
  | .skip, Q, l, w => Q .normal l w
  | .ret, Q, l, w => Q .ret l w
  | .exit id, Q, l, w => Q (.exit id) l w
  | .seq x y, Q, l, w =>
    (match ann with
     | .cut live dead ax ay =>
       (match subB (codeDsts x) (live.map (·.1) ++ dead) with
        | true => ∃ J : Cur (live.map (·.2)), den P L ax x (thenQ (fun l' w' => decC _ J (slots l' (live.map (·.1))) w') Q) l w ∧
            allC _ J fun vs X => ∀ w', X w' → allU dead fun us => den P L ay y Q (setMany (setMany l (live.map (·.1)) vs) dead us) w'
        | false => False)
     | _ => den P L (annL ann) x (thenQ (den P L (annR ann) y Q) Q) l w)
  | .cond c x y, Q, l, w =>
    (match ev l c with
     | .bool b => BIf b (den P L (annL ann) x Q l w) (den P L (annR ann) y Q l w)
     | _ => False)
  | .block id x, Q, l, w => den P L (annL ann) x (blockQ id Q) l w
  | .loop x, Q, l, w =>
    (match ann with
     | .loop live dead ax =>
       (match subB (codeDsts x) (live.map (·.1) ++ dead) with
        | true => ∃ (J : Cur (live.map (·.2))) (μ : CurN (live.map (·.2))), decC _ J (slots l (live.map (·.1))) w ∧
            allM _ J μ fun vs X m => ∀ w', X w' → allU dead fun us =>
              den P L ax x (thenQ (fun l2 w2 => decM _ J μ (slots l2 (live.map (·.1))) w2 (m w')) Q) (setMany (setMany l (live.map (·.1)) vs) dead us) w'
        | false => False)
     | _ => False)
  | .region _ ops dr, Q, l, w => regionD P L (match ann with | .reg wr => wr | _ => []) ops dr (Q .normal) l w
  | _, _, _, _ => False

/-- What it comes to, of frames written out. -/
def hatQ (ds : List Nat) (l0 : List Value) (Q : Post) (e : Exit) (a : Act) (w : World) : Prop :=
  ∃ l', a = ⟨⟨l'⟩, []⟩ ∧ agree ds l0 l' ∧ (match e with | .normal => Q .normal l' w | .exit id => Q (.exit id) l' w | .ret => Q .ret l' w | _ => False)

theorem hatQ_mono {ds ds' : List Nat} {l0 l1 : List Value} {Q : Post} {e : Exit} {a : Act} {w : World} (h : ∀ s ∈ ds, s ∈ ds') (ha : agree ds' l0 l1) (hh : hatQ ds l1 Q e a w) : hatQ ds' l0 Q e a w := by
  obtain ⟨l', h1, h2, h3⟩ := hh
  exact ⟨l', h1, agree_trans ha (agree_mono h h2), h3⟩

theorem subB_ok {a b : List Nat} (h : subB a b = true) : ∀ s ∈ a, s ∈ b := by
  intro s hs
  unfold subB at h
  rw [List.all_eq_true] at h
  simpa using h s hs

theorem setMany_length : ∀ (ds : List Nat) (l vs : List Value), (setMany l ds vs).length = l.length
  | [], _, _ => rfl
  | d :: ds, l, vs => by simp [setMany, setMany_length ds]

theorem setMany_slots : ∀ (ds : List Nat) (l l' : List Value), l'.length = l.length → ∀ s, (setMany l ds (slots l' ds))[s]? = if s ∈ ds then l'[s]? else l[s]?
  | [], l, l', hl, s => by simp [setMany]
  | d :: ds, l, l', hl, s => by
    simp only [setMany, slots, List.map_cons, List.headD_cons, List.tail_cons]
    have := setMany_slots ds (l.set d (l'.getD d undef)) l' (by simp [hl]) s
    rw [slots] at this
    rw [this]
    by_cases h1 : s ∈ ds
    · simp [h1]
    · simp only [h1, if_false, List.mem_cons, or_false]
      by_cases h2 : s = d
      · subst h2
        rw [if_pos rfl]
        rcases Nat.lt_or_ge s l.length with h3 | h3
        · have h4 : s < l'.length := by omega
          simp [h3, h4]
        · rw [List.getElem?_eq_none (by simpa using h3), List.getElem?_eq_none (by omega)]
      · rw [if_neg h2, List.getElem?_set_ne (Ne.symm h2)]

theorem setMany_eq {l l' : List Value} {ds d1 d2 : List Nat} (ha : agree ds l l') (hs : ∀ s ∈ ds, s ∈ d1 ++ d2) :
    setMany (setMany l d1 (slots l' d1)) d2 (slots l' d2) = l' := by
  apply List.ext_getElem?
  intro s
  rw [setMany_slots d2 _ l' (by rw [setMany_length]; exact ha.1) s]
  by_cases h2 : s ∈ d2
  · rw [if_pos h2]
  · rw [if_neg h2, setMany_slots d1 l l' ha.1 s]
    by_cases h1 : s ∈ d1
    · rw [if_pos h1]
    · rw [if_neg h1]
      exact (ha.2 s (fun h => by have := hs s h; simp [h1, h2] at this)).symm

theorem decC_all : ∀ {shs : List Sh} {J : Cur shs} {vs : List Value} {w : World} {K : List Value → (World → Prop) → Prop}, vs.length = shs.length → decC shs J vs w → allC shs J K → ∃ X, X w ∧ K vs X
  | [], J, vs, w, K, hl, h, ha => by
    have : vs = [] := by simpa using hl
    subst this
    exact ⟨J, h, ha⟩
  | s :: r, J, vs, w, K, hl, h, ha => by
    cases vs with
    | nil => simp at hl
    | cons v vs =>
      obtain ⟨x, hx, h⟩ := Sh.dec_ok h
      simp only [List.headD_cons] at hx
      obtain ⟨X, h1, h2⟩ := decC_all (by simpa using hl) h (ha x)
      exact ⟨X, h1, by rw [hx]; exact h2⟩

/-- The measure of a frame. -/
def Sh.un : (s : Sh) → Value → Option s.T
  | .int k, v => match v with | .int _ n => some n | _ => none
  | .bool, v => match v with | .bool b => some b | _ => none
  | .str, v => match v with | .string s => some s.data.toList | _ => none
  | .ptr, v => match v with | .pointer p => some p | _ => none
  | .slc, v => match v with | .slice p l c => some ⟨p, l, c⟩ | _ => none
  | .map, v => match v with | .map r => some r | _ => none
  | .any, v => some v
theorem Sh.un_v (s : Sh) (x : s.T) : s.un (s.v x) = some x := by cases s <;> rfl

def meas : (shs : List Sh) → CurN shs → List Value → World → Nat
  | [], (μ : World → Nat), _, w => μ w
  | s :: r, μ, vs, w => match s.un (vs.headD undef) with | some x => meas r (μ x) vs.tail w | none => 0

theorem decM_all : ∀ {shs : List Sh} {J : Cur shs} {μ : CurN shs} {vs : List Value} {w : World} {m : Nat}, decM shs J μ vs w m → decC shs J vs w ∧ meas shs μ vs w < m
  | [], J, μ, vs, w, m, h => h
  | s :: r, J, μ, vs, w, m, h => by
    obtain ⟨x, hx, h⟩ := Sh.dec_ok h
    obtain ⟨h1, h2⟩ := decM_all h
    simp only [decC, meas, hx, Sh.un_v]
    exact ⟨Sh.dec_v h1, h2⟩

theorem allM_all : ∀ {shs : List Sh} {J : Cur shs} {μ : CurN shs} {vs : List Value} {w : World} {K : List Value → (World → Prop) → (World → Nat) → Prop}, vs.length = shs.length → decC shs J vs w → allM shs J μ K →
    ∃ X m, X w ∧ m w = meas shs μ vs w ∧ K vs X m
  | [], J, μ, vs, w, K, hl, h, ha => by
    have : vs = [] := by simpa using hl
    subst this
    exact ⟨J, μ, h, rfl, ha⟩
  | s :: r, J, μ, vs, w, K, hl, h, ha => by
    cases vs with
    | nil => simp at hl
    | cons v vs =>
      obtain ⟨x, hx, h⟩ := Sh.dec_ok h
      simp only [List.headD_cons] at hx
      obtain ⟨X, m, h1, h2, h3⟩ := allM_all (by simpa using hl) h (ha x)
      refine ⟨X, m, h1, ?_, by rw [hx]; exact h3⟩
      simp only [meas, List.headD_cons, List.tail_cons, hx, Sh.un_v]
      exact h2

theorem allU_all : ∀ {ds : List Nat} {us : List Value} {K : List Value → Prop}, us.length = ds.length → allU ds K → K us
  | [], us, K, hl, h => by
    have : us = [] := by simpa using hl
    subst this; exact h
  | d :: ds, us, K, hl, h => by
    cases us with
    | nil => simp at hl
    | cons u us => exact allU_all (K := fun us => K (u :: us)) (by simpa using hl) (h u)

section
variable {P : Program} {L : Nat → Bool} (hL : Callable P L) (hm : P.follows .mixedOrders = true)
include hL hm

theorem regionD_ok {wr : List Nat} {id : Nat} {ops : Array Oper} {dr : Bool} {Q : Post} {l : List Value} {w : World} (h : regionD P L wr ops dr (Q .normal) l w) :
    (Code.region id ops dr).wp P (hatQ (dstsOf ops.toList) l Q) ⟨⟨l⟩, []⟩ w := by
  have hds : ∀ o ∈ ops.toList, ∀ x, o.dst = some x → x ∈ dstsOf ops.toList := fun o ho x hx => List.mem_filterMap.2 ⟨o, ho, hx⟩
  have fin : ∀ e a w, hat (dstsOf ops.toList) l (Q .normal) e a w → hatQ (dstsOf ops.toList) l Q e a w := by
    intro e a w h
    cases e with
    | normal => obtain ⟨l', h1, h2, h3⟩ := h; exact ⟨l', h1, h2, h3⟩
    | _ => exact h.elim
  unfold regionD at h
  split at h
  · exact Code.wp_mono fin (wp_region_list (opsK_ok hL ops.toList 0 l w hds (agree_refl _ _) h))
  · split at h
    · rename_i hc
      simp only [Bool.and_eq_true] at hc
      refine Code.wp_mono fin (wp_region_any hm (wpAnyP_any (anc := ancB (masks ops.toList [])) _ _ [] _ _ ?_))
      have := G_ok (P := P) (L := L) (ra := wr) (ops := ops) (ds := dstsOf ops.toList) (l0 := l) (Q := Q .normal) hL hc.1 hc.2 hds ops.toList.length [] (Array.replicate ops.size false) [] l w.drew
        ⟨by simp, fun i => by simp; rcases Nat.lt_or_ge i ops.size with h | h <;> simp [h]⟩
        (fun j oj hj hl => by
          exfalso
          rcases Nat.lt_or_ge j ops.size with h | h
          · simp [h] at hl
          · simp [Array.getElem?_eq_none (xs := Array.replicate ops.size false) (i := j) (by simpa using h)] at hl) (by simp) (agree_refl _ _) h
      simpa using this
    · exact h.elim

theorem den_ok : ∀ (c : Code) (ann : Ann) (Q : Post) (l : List Value) (w : World), den P L ann c Q l w → c.wp P (hatQ (codeDsts c) l Q) ⟨⟨l⟩, []⟩ w := by
  intro c
  induction c with
  | skip => intro ann Q l w h; exact wp_skip ⟨l, rfl, agree_refl _ _, h⟩
  | ret => intro ann Q l w h; exact wp_ret ⟨l, rfl, agree_refl _ _, h⟩
  | exit id => intro ann Q l w h; exact wp_exit ⟨l, rfl, agree_refl _ _, h⟩
  | region id ops dr => intro ann Q l w h; exact regionD_ok hL hm h
  | seq x y ihx ihy =>
    intro ann Q l w h
    simp only [den] at h
    have plain : den P L (annL ann) x (thenQ (den P L (annR ann) y Q) Q) l w → (Code.seq x y).wp P (hatQ (codeDsts (.seq x y)) l Q) ⟨⟨l⟩, []⟩ w := by
      intro h
      refine wp_seq (Code.wp_mono (fun e a w' hq => ?_) (ihx _ _ l w h))
      obtain ⟨l', rfl, ha, hq⟩ := hq
      cases e with
      | normal =>
        refine Code.wp_mono (fun e a w h => ?_) (ihy _ _ l' w' hq)
        exact hatQ_mono (fun s hs => by simp [codeDsts, hs]) (agree_mono (fun s hs => by simp [codeDsts, hs]) ha) h
      | exit id => exact ⟨l', rfl, agree_mono (fun s hs => by simp [codeDsts, hs]) ha, hq⟩
      | ret => exact ⟨l', rfl, agree_mono (fun s hs => by simp [codeDsts, hs]) ha, hq⟩
      | goto l => exact hq.elim
      | panic c => exact hq.elim
      | outgrown => exact hq.elim
    split at h
    · rename_i live dead ax ay
      split at h
      · rename_i hsub
        obtain ⟨J, h1, h2⟩ := h
        have hsub' := subB_ok hsub
        refine wp_seq (Code.wp_mono (fun e a w' hq => ?_) (ihx _ _ l w h1))
        obtain ⟨l', rfl, ha, hq⟩ := hq
        cases e with
        | normal =>
          obtain ⟨X, hX, hK⟩ := decC_all (by simp [slots]) hq h2
          have hU := allU_all (us := slots l' dead) (by simp [slots]) (hK w' hX)
          rw [setMany_eq ha hsub'] at hU
          refine Code.wp_mono (fun e a w h => ?_) (ihy _ _ l' w' hU)
          exact hatQ_mono (fun s hs => by simp [codeDsts, hs]) (agree_mono (fun s hs => by simp [codeDsts, hs]) ha) h
        | exit id => exact ⟨l', rfl, agree_mono (fun s hs => by simp [codeDsts, hs]) ha, hq⟩
        | ret => exact ⟨l', rfl, agree_mono (fun s hs => by simp [codeDsts, hs]) ha, hq⟩
        | goto l => exact hq.elim
        | panic c => exact hq.elim
        | outgrown => exact hq.elim
      · exact h.elim
    · exact plain h
  | cond c x y ihx ihy =>
    intro ann Q l w h
    simp only [den] at h
    split at h
    · rename_i b hb
      refine wp_cond (t := b) (by rw [ev_act]; exact hb) ?_
      cases b with
      | true => exact Code.wp_mono (fun e a w h => hatQ_mono (fun s hs => by simp [codeDsts, hs]) (agree_refl _ _) h) (ihx _ _ l w h)
      | false => exact Code.wp_mono (fun e a w h => hatQ_mono (fun s hs => by simp [codeDsts, hs]) (agree_refl _ _) h) (ihy _ _ l w h)
    · exact h.elim
  | block id x ihx =>
    intro ann Q l w h
    simp only [den] at h
    refine wp_block (Code.wp_mono (fun e a w' hq => ?_) (ihx _ _ l w h))
    obtain ⟨l', rfl, ha, hq⟩ := hq
    cases e with
    | normal => exact ⟨l', rfl, ha, hq⟩
    | exit i =>
      simp only [blockQ] at hq
      simp only [Exit.inBlock]
      by_cases hi : i = id
      · rw [if_pos hi]
        subst hi
        have : Nat.beq i i = true := Nat.beq_refl i
        rw [this] at hq
        exact ⟨l', rfl, ha, hq⟩
      · rw [if_neg hi]
        have : Nat.beq i id = false := by
          cases hb : Nat.beq i id with
          | false => rfl
          | true => exact absurd (Nat.eq_of_beq_eq_true hb) hi
        rw [this] at hq
        exact ⟨l', rfl, ha, hq⟩
    | ret => exact ⟨l', rfl, ha, hq⟩
    | goto l => exact hq.elim
    | panic c => exact hq.elim
    | outgrown => exact hq.elim
  | loop x ihx =>
    intro ann Q l w h
    simp only [den] at h
    split at h
    · rename_i live dead ax
      split at h
      · rename_i hsub
        have hsub' := subB_ok hsub
        obtain ⟨J, μ, h1, h2⟩ := h
        refine wp_loop (fun a w => ∃ l', a = ⟨⟨l'⟩, []⟩ ∧ agree (codeDsts x) l l' ∧ decC _ J (slots l' (live.map (·.1))) w)
          (fun a w => meas _ μ (slots a.tmps.toList (live.map (·.1))) w) ⟨l, rfl, agree_refl _ _, h1⟩ (fun a w hI => ?_)
        obtain ⟨l', rfl, ha, hJ⟩ := hI
        obtain ⟨X, m, hX, hmm, hK⟩ := allM_all (by simp [slots]) hJ h2
        have hU := allU_all (us := slots l' dead) (by simp [slots]) (hK w hX)
        rw [setMany_eq ha hsub'] at hU
        refine Code.wp_mono (fun e a w' hq => ?_) (ihx _ _ l' w hU)
        obtain ⟨l2, rfl, ha2, hq⟩ := hq
        cases e with
        | normal =>
          obtain ⟨h3, h4⟩ := decM_all hq
          refine ⟨⟨l2, rfl, agree_trans ha ha2, h3⟩, ?_⟩
          rw [hmm] at h4
          exact h4
        | exit id => exact ⟨l2, rfl, agree_trans ha ha2, hq⟩
        | ret => exact ⟨l2, rfl, agree_trans ha ha2, hq⟩
        | goto l => exact hq.elim
        | panic c => exact hq.elim
        | outgrown => exact hq.elim
      · exact h.elim
    · exact h.elim
  | rangeFunc f ps a b _ _ => intro ann Q l w h; exact h.elim
  | scope b _ => intro ann Q l w h; exact h.elim
  | label n => intro ann Q l w h; exact h.elim
  | goto n => intro ann Q l w h; exact h.elim
  | refuse s => intro ann Q l w h; exact h.elim
end

/-! ### functions -/
def resL (P : Program) : List ResultVar → List Value → World → (List Value → Prop) → Prop
  | [], l, w, K => K []
  | .tmp t :: r, l, w, K => resL P r l w fun vs => K (l.getD t undef :: vs)
  | .cell a t :: r, l, w, K => loadK P t (l.getD a undef) w fun v => resL P r l w fun vs => K (v :: vs)
def resV (vs : List Value) : Value := match vs with | [v] => v | vs => .tuple ⟨vs⟩

def retQ (P : Program) (rs : List ResultVar) (K : Value → World → Prop) : Post
  | .exit _, _, _ => False
  | _, l, w => resL P rs l w fun vs => K (resV vs) w

def repU : Nat → List Value
  | 0 => []
  | n + 1 => undef :: repU n
theorem repU_eq : ∀ n, repU n = List.replicate n undef
  | 0 => rfl
  | n + 1 => by rw [repU, repU_eq n, List.replicate_succ]

def denF (P : Program) (L : Nat → Bool) (fn : Func) (ann : Ann) (args : List Value) (w : World) (K : Value → World → Prop) : Prop :=
  match fn.body with
  | some c => den P L ann c (retQ P fn.results.toList K) (args ++ repU (fn.ntmps - args.length)) w
  | none => False

theorem resL_ok {P : Program} {l : List Value} {w : World} : ∀ {rs : List ResultVar} {K : List Value → Prop}, resL P rs l w K →
    ∃ vs, (rs.mapM (fun
      | .tmp t => pure ((⟨l⟩ : Array Value).getD t undef)
      | .cell a t => do loadVar t (← asAddr ((⟨l⟩ : Array Value).getD a undef)) : ResultVar → Sem Value)).run P w = .ok vs w ∧ K vs
  | [], K, h => ⟨[], by simp, h⟩
  | .tmp t :: r, K, h => by
    obtain ⟨vs, h1, h2⟩ := resL_ok (rs := r) h
    refine ⟨_, ?_, h2⟩
    simp only [List.mapM_cons, Sem.run_bind, Sem.run_pure, Result.andThen_ok, h1]
    simp
  | .cell a t :: r, K, h => by
    obtain ⟨v, hv, h⟩ := loadK_ok h
    obtain ⟨vs, h1, h2⟩ := resL_ok (rs := r) h
    refine ⟨_, ?_, h2⟩
    have e : (⟨l⟩ : Array Value).getD a undef = l.getD a undef := by simp
    have : (do loadVar t (← asAddr ((⟨l⟩ : Array Value).getD a undef)) : Sem Value).run P w = .ok v w := by
      rw [e]
      simp only [Instr.loadAt] at hv
      cases hp : l.getD a undef <;> rw [hp] at hv <;> try (simp [Instr.sureAddr] at hv; done)
      rename_i p
      cases p with
      | none => simp [Instr.sureAddr] at hv
      | some x => simpa [Instr.sureAddr, asAddr] using hv
    simp only [List.mapM_cons, Sem.run_bind] at this ⊢
    rw [this]
    simp only [Result.andThen_ok, h1, Sem.run_pure]

theorem run_results {P : Program} {fn : Func} {l : List Value} {w : World} {K : List Value → Prop} (h : resL P fn.results.toList l w K) :
    ∃ vs, (results fn ⟨l⟩).run P w = .ok (resV vs) w ∧ K vs := by
  obtain ⟨vs, h1, h2⟩ := resL_ok h
  refine ⟨vs, ?_, h2⟩
  unfold results
  simp only [Sem.run_bind]
  rw [Array.mapM_eq_mapM_toList]
  simp only [Sem.run_map]
  erw [h1]
  simp only [Result.andThen_ok, Sem.run_pure]
  congr 1
  cases vs with
  | nil => rfl
  | cons v r => cases r with
    | nil => rfl
    | cons u r => simp [resV]

theorem calls_of_den {P : Program} {L : Nat → Bool} (hL : Callable P L) (hm : P.follows .mixedOrders = true) {f : FuncId} {fn : Func} {ann : Ann} {args : List Value} {w : World} {R : Ending → World → Prop}
    (hf : P.funcs[f]? = some fn) (h : denF P L fn ann args w fun v w' => R (.returned v) w') : Calls P f ⟨args⟩ w R := by
  unfold denF at h
  split at h
  · rename_i c hc
    refine calls_of_wp hf hc (Code.wp_mono (Q := hatQ (codeDsts c) (args ++ repU (fn.ntmps - args.length)) (retQ P fn.results.toList fun v w' => R (.returned v) w')) (fun e a w' hq => ?_) ?_)
    · obtain ⟨l', rfl, ha, hq⟩ := hq
      cases e with
      | normal => obtain ⟨vs, h1, h2⟩ := run_results hq; exact ⟨rfl, _, h1, h2⟩
      | ret => obtain ⟨vs, h1, h2⟩ := run_results hq; exact ⟨rfl, _, h1, h2⟩
      | exit id => exact hq.elim
      | goto l => exact hq.elim
      | panic c => exact hq.elim
      | outgrown => exact hq.elim
    · have := den_ok hL hm c ann _ _ w h
      have e : ((⟨args⟩ : Array Value) ++ Array.replicate (fn.ntmps - (⟨args⟩ : Array Value).size) undef) = ⟨args ++ repU (fn.ntmps - args.length)⟩ := by
        rw [repU_eq]; simp
      rw [e]
      exact this
  · exact h.elim

end Go.D
