/-
  WHAT IS PROVED: the engine: verification conditions of the code, with their soundness. No further conditions.
-/
import Derived.Test.YtfnibbccnbmkoaaDoorEng5
set_option linter.unusedSimpArgs false
namespace Go.D
open Go
set_option linter.unusedVariables false
inductive Src where
 | slc (s : Slc)
 | str (b : List UInt8)
def Src.n : Src -> Nat
 | .slc s => s.l
 | .str b => b.length
def Src.v : Src -> Value
 | .slc s => s.v
 | .str b => aq b
def iW (w : World) (size : Nat) : Src -> List Value -> Prop
 | .slc s, cs => cs.length = s.l * size /\ cS w s.p cs
 | .str b, cs => size = 1 /\ cs = b.map ba
def lZ (size : Nat) (e : TypeId) (z : List Value) (w : World) (s : Slc) (old new : List Value) (n : Nat) (s' : Slc) (w' : World) : Prop :=
 (s.l + n <= s.c /\ s' = ⟨s.p, s.l + n, s.c⟩ /\ w' = (match s.p with | some a => setCells w (a.add (s.l * size)) 0 new | none => w)) \/
 (s.c < s.l + n /\ ∃ cap, s.l + n <= cap /\ s' = ⟨some ⟨w.heap.size, 0, none⟩, s.l + n, cap⟩ /\ w' = w.drew.alloc (.cells ⟨old ++ new ++ bt (cap - (s.l + n)) z⟩ e))
def bA (size : Nat) (e : TypeId) (z : List Value) (w : World) (s : Slc) (src : Src) (K : Slc -> World -> Prop) : Prop :=
 ∃ old new : List Value, old.length = s.l * size /\ cS w s.p old /\ iW w size src new /\ (∀ v ∈ new, v.oneCell' = true) /\ s.l + src.n <= 2 ^ 30 /\
  (s.l + src.n <= s.c -> ∀ a, s.p = some a -> aw w (a.add (s.l * size)) (src.n * size)) /\ ∀ s' w', lZ size e z w s old new src.n s' w' -> K s' w'
theorem lp (a : Addr) (i j : Nat) (h : a.spot = none) : (a.add i).add j = a.add (i + j) := by
 obtain ⟨b, o, s⟩ := a
 simp only at h; subst h
 rcases Nat.eq_zero_or_pos i with rfl | hi
 ·simp [Addr.add]
 ·rcases Nat.eq_zero_or_pos j with rfl | hj
  ·simp [Addr.add]
  ·have h1 : i ≠ 0 := by omega
   have h2 : j ≠ 0 := by omega
   have h3 : ¬ (i + j = 0) := by omega
   simp [Addr.add, h1, h2, Nat.add_assoc]
theorem dh {P : Program} {w : World} {size n : Nat} {x : Src} {cs : List Value} (h : iW w size x cs) (hn : n = x.n) : (Builtin.firstCells size n x.v).run P w = .ok ⟨cs⟩ w := by
 cases x with
 | slc s =>
  obtain ⟨hl, hc⟩ := h
  obtain ⟨p, l, c⟩ := s
  simp only at hl hc
  cases p with
  | none =>
   rcases hc with hc | ⟨a, ha, _⟩
   ·subst hc; simp [Src.v, Slc.v, Builtin.firstCells]
   ·cases ha
  | some a =>
   have hc' : ∀ j (h : j < cs.length), w.cell? (a.add j) = some cs[j] := by
    rcases hc with hc | ⟨a', ha, hc⟩
    ·subst hc; intro j hj; simp at hj
    ·cases ha; exact hc
   have h1 := gg (P := P) cs hc'
   simp only [Src.n] at hn
   simp only [Src.v, Slc.v, Builtin.firstCells, hn, <- hl, h1]
 | str b =>
  obtain ⟨h1, h2⟩ := h
  subst h2
  simp only [Src.n] at hn
  subst hn
  simp only [Src.v, aq, Builtin.firstCells, Sem.run_pure, gU]
  congr 1
  simp only [List.take_length, List.drop_zero]
  apply Array.ext'
  simp [ba]
theorem fi {P : Program} {w : World} (x : Src) : (Builtin.lenOf x.v).run P w = .ok x.n w := by
 cases x <;> rfl
theorem jF (m c : Nat) (hc : c < m) : Builtin.nextslicecap m c <= 2 * m + 1024 := by
 unfold Builtin.nextslicecap
 split
 ·omega
 ·split
  ·omega
  ·have h : ∀ (k x : Nat), x <= 2 * m -> Builtin.growBy m k x <= 2 * m + 1024 := by
    intro k
    induction k with
    | zero => intro x hx; simp [Builtin.growBy]; omega
    | succ k ih =>
     intro x hx
     simp only [Builtin.growBy]
     split
     ·omega
     ·by_cases h2 : x + (x + 768) / 4 <= 2 * m
      ·exact ih _ h2
      ·cases k with
       | zero => simp [Builtin.growBy]; omega
       | succ k =>
        simp only [Builtin.growBy]
        rw [if_pos (by omega)]
        omega
   exact h 4 c (by omega)
def sliceT (P : Program) (t : TypeId) : Option TypeId := match P.underlying t with | some (.slice e) => some e | _ => none
def sliceOrStr (P : Program) (t : TypeId) : Bool := match P.underlying t with | some (.slice _) => true | some .string => true | _ => false
def srcK (x : Value) (K : Src -> Prop) : Prop :=
 match x with
 | .slice p l c => K (.slc ⟨p, l, c⟩)
 | .string b => K (.str b.data.toList)
 | _ => False
theorem oe {x : Value} {K : Src -> Prop} (h : srcK x K) : ∃ s, x = s.v /\ K s := by
 unfold srcK at h
 split at h
 ·exact ⟨_, rfl, h⟩
 ·exact ⟨_, rfl, h⟩
 ·exact h.elim
def appendK (P : Program) (ts : List TypeId) (args : List Value) (w : World) (K : Value -> World -> Prop) : Prop :=
  match ts, args with
  | [t0, t1], [.slice p l c, x] =>
    (match sliceT P t0, sliceOrStr P t1 with
     | some e, true =>
       (match fX P e, zeroOf P e, pC P e with
        | some size, some z, some b => if size = z.length /\ b <= 2 ^ 12 /\ 0 < b then
            srcK x fun src => bA size e z w ⟨p, l, c⟩ src fun s' w' => K s'.v w'
          else False
        | _, _, _ => False)
     | _, _ => False)
  | _, _ => False
theorem nq {P : Program} {ts : Array TypeId} {ty : TypeId} {args : Array Value} {w : World} {K : Value -> World -> Prop} (h : appendK P ts.toList args.toList w K) :
  ∃ v w', (Builtin.append_ ts ty args).run P w = .ok v w' /\ K v w' := by
 obtain ⟨ts⟩ := ts
 obtain ⟨args⟩ := args
 simp only at h
 unfold appendK at h
 split at h
 ·rename_i t0 t1 p l c x
  split at h
  ·rename_i e h0 h1
   split at h
   ·rename_i size z b hsz hz hb
    split at h
    ·rename_i hcond
     obtain ⟨hc1, hc2, hc3⟩ := hcond
     obtain ⟨src, rfl, h2⟩ := oe h
     obtain ⟨old, new, ho, hoc, hnew, hone, hlen, hw, hK⟩ := h2
     simp only at ho hoc hlen hw
     have hu0 : P.underlying t0 = some (.slice e) := by
      unfold sliceT at h0
      split at h0
      ·rename_i hu; simp only [Option.some.injEq] at h0; subst h0; exact hu
      ·cases h0
     obtain ⟨d1, hu1, hd1⟩ : ∃ d, P.underlying t1 = some d /\ ((∃ e1, d = .slice e1) \/ d = .string) := by
      unfold sliceOrStr at h1
      split at h1
      ·rename_i hu; exact ⟨_, hu, .inl ⟨_, rfl⟩⟩
      ·rename_i hu; exact ⟨_, hu, .inr rfl⟩
      ·cases h1
     have hfirst : (Builtin.firstCells size src.n src.v).run P w = .ok ⟨new⟩ w := dh hnew rfl
     have hold : (Builtin.firstCells size l (.slice p l c)).run P w = .ok ⟨old⟩ w :=
      dh (x := .slc ⟨p, l, c⟩) ⟨ho, hoc⟩ rfl
     obtain ⟨i, hi, hib⟩ := gh hb w
     by_cases hfit : l + src.n <= c
     ·-- it fits
      cases p with
      | none =>
       refine ⟨_, _, ?_, hK ⟨none, l + src.n, c⟩ w (.inl ⟨hfit, rfl, rfl⟩)⟩
       simp only [Builtin.append_, List.getElem?_toArray, List.getElem?_cons_zero, List.getElem?_cons_succ, Sem.run_bind, ag hu0, Result.andThen_ok, a9 hsz]
       rcases hd1 with ⟨e1, rfl⟩ | rfl <;> simp only [ag hu1, Result.andThen_ok, Bool.false_eq_true, if_false, fi, Sem.run_pure, hfit, if_true, Sem.run_bind, Bool.not_false, hfirst] <;> rfl
      | some a =>
       refine ⟨_, _, ?_, hK ⟨some a, l + src.n, c⟩ _ (.inl ⟨hfit, rfl, rfl⟩)⟩
       have hnl : new.length = src.n * size := by
        cases src with
        | slc s => exact hnew.1
        | str b => obtain ⟨e1, e2⟩ := hnew; subst e2; rw [e1]; simp [Src.n]
       have hst : (storeCells (a.add (l * size)) new).run P w = .ok () (setCells w (a.add (l * size)) 0 new) :=
        cT new 0 w hone (fun j hj => by rw [Nat.zero_add]; exact hw hfit a rfl j (by omega))
       simp only [Builtin.append_, List.getElem?_toArray, List.getElem?_cons_zero, List.getElem?_cons_succ, Sem.run_bind, ag hu0, Result.andThen_ok, a9 hsz]
       rcases hd1 with ⟨e1, rfl⟩ | rfl <;> simp only [ag hu1, Result.andThen_ok, Bool.false_eq_true, if_false, fi, Sem.run_pure, hfit, if_true, Sem.run_bind, Bool.not_false, hfirst, hst] <;> rfl
     ·-- it grows
      let cap := (Question.appendCap (l + src.n) c e).cut (w.tape w.drawn (.appendCap (l + src.n) c e))
      have hcap : l + src.n <= cap := by
       show l + src.n <= (l + src.n) + _
       omega
      refine ⟨_, _, ?_, hK ⟨some ⟨w.heap.size, 0, none⟩, l + src.n, cap⟩ _ (.inr ⟨by simp only; omega, cap, hcap, rfl, rfl⟩)⟩
      obtain ⟨zv, hzv, hzc⟩ := cv hz w.drew
      have hold' : (Builtin.firstCells size l (.slice p l c)).run P w.drew = .ok ⟨old⟩ w.drew :=
       dh (x := .slc ⟨p, l, c⟩) (w := w.drew) ⟨ho, hoc⟩ rfl
      have hfirst' : (Builtin.firstCells size src.n src.v).run P w.drew = .ok ⟨new⟩ w.drew := by
       refine dh (w := w.drew) ?_ rfl
       cases src with
       | slc s => exact hnew
       | str b => exact hnew
      have hrest : Builtin.zeroCells ⟨z⟩ (cap - (l + src.n)) = ⟨bt (cap - (l + src.n)) z⟩ := by
       unfold Builtin.zeroCells
       exact dB _ ⟨z⟩ _ rfl
      have hc : c < l + src.n := by omega
      have hn1 := jF (l + src.n) c hc
      have hno1 : ¬ (((l + src.n : Nat) : Int) > IntKind.i64.max /\ ((false = true) \/ i.bytes = 0)) := by
       rintro ⟨_, h | h⟩
       ·cases h
       ·omega
      have hno2 : ¬ (Builtin.nextslicecap (l + src.n) c * i.bytes > 2 ^ 48) := by
       have h5 : Builtin.nextslicecap (l + src.n) c * i.bytes <= (2 * 2 ^ 30 + 1024) * 2 ^ 12 := Nat.mul_le_mul (by omega) (by omega)
       omega
      simp only [Builtin.append_, List.getElem?_toArray, List.getElem?_cons_zero, List.getElem?_cons_succ, Sem.run_bind, ag hu0, Result.andThen_ok, a9 hsz]
      have hno1' : ¬ (((l + src.n : Nat) : Int) > IntKind.i64.max /\ i.bytes = 0) := fun h => by omega
      obtain ⟨i2, hi2, hib2⟩ := gh hb w.drew
      have hq : (choose (Question.appendCap (l + src.n) c e)).run P w = .ok cap w.drew := by
       rw [run_choose]; rfl
      have e9 : (⟨old⟩ : Array Value) ++ ⟨new⟩ ++ ⟨bt (cap - (l + src.n)) z⟩ = ⟨old ++ new ++ bt (cap - (l + src.n)) z⟩ := by simp
      rcases hd1 with ⟨e1, rfl⟩ | rfl
      all_goals
       simp only [ag hu1, Result.andThen_ok, Bool.false_eq_true, if_false, fi, Sem.run_pure, hfit, Sem.run_bind, hi, Bool.not_false, if_true]
       simp only [false_or, Sem.run_ite, hno1', hno2, if_false, Sem.run_bind, hi, Result.andThen_ok, hq, hi2, run_askRoom, hold', hfirst', hzv, hzc, hrest, newRow, run_newObj, Sem.run_pure]
       rw [e9]
       rfl
    ·exact h.elim
   ·exact h.elim
  ·exact h.elim
 ·exact h.elim
def intT (P : Program) (t : TypeId) : Bool := match P.underlying t with | some (.int _) => true | _ => false
def pD (size : Nat) (e : TypeId) (z : List Value) (w : World) (s : Slc) (n : Int) (K : Slc -> World -> Prop) : Prop :=
 0 <= n /\ s.l + n.toNat <= 2 ^ 30 /\ ∃ old : List Value, old.length = s.l * size /\ cS w s.p old /\
  (s.l + n.toNat <= s.c -> ∀ a, s.p = some a -> aw w (a.add (s.l * size)) (n.toNat * size)) /\ ∀ s' w', lZ size e z w s old (bt n.toNat z) n.toNat s' w' -> K s' w'
def appendZK (P : Program) (ts : List TypeId) (args : List Value) (w : World) (K : Value -> World -> Prop) : Prop :=
  match ts, args with
  | [t0, t1], [.slice p l c, .int k n] =>
    (match sliceT P t0 with
     | some e =>
       (match fX P e, zeroOf P e, pC P e with
        | some size, some z, some b => if size = z.length /\ b <= 2 ^ 12 /\ 0 < b then
            jE z (pD size e z w ⟨p, l, c⟩ n fun s' w' => K s'.v w')
          else False
        | _, _, _ => False)
     | _ => False)
  | _, _ => False
theorem l4 {P : Program} {ts : Array TypeId} {ty : TypeId} {args : Array Value} {w : World} {K : Value -> World -> Prop} (h1 : ∀ t, ts.toList[1]? = some t -> intT P t = true) (h : appendZK P ts.toList args.toList w K) :
  ∃ v w', (Builtin.append_ ts ty args).run P w = .ok v w' /\ K v w' := by
 obtain ⟨ts⟩ := ts
 obtain ⟨args⟩ := args
 simp only at h h1
 unfold appendZK at h
 split at h
 ·rename_i t0 t1 p l c k n
  split at h
  ·rename_i e h0
   split at h
   ·rename_i size z b hsz hz hb
    split at h
    ·rename_i hcond
     obtain ⟨hc1, hc2, hc3⟩ := hcond
     obtain ⟨hone, h⟩ := gF h
     obtain ⟨hn0, hlen, old, ho, hoc, hw, hK⟩ := h
     simp only at ho hoc hlen hw
     have hu0 : P.underlying t0 = some (.slice e) := by
      unfold sliceT at h0
      split at h0
      ·rename_i hu; simp only [Option.some.injEq] at h0; subst h0; exact hu
      ·cases h0
     obtain ⟨k1, hu1⟩ : ∃ k1, P.underlying t1 = some (.int k1) := by
      have := h1 t1 rfl
      unfold intT at this
      split at this
      ·rename_i hu; exact ⟨_, hu⟩
      ·cases this
     obtain ⟨m, rfl⟩ : ∃ m : Nat, n = m := ⟨n.toNat, by omega⟩
     rw [show Int.toNat (m : Int) = m by omega] at hlen hw hK
     have hwrap : IntKind.i64.wrap (m : Int) = m := bu (by simp [inR, IntKind.min, IntKind.max, IntKind.signed, IntKind.bits]; omega)
     have hold : (Builtin.firstCells size l (.slice p l c)).run P w = .ok ⟨old⟩ w :=
      dh (x := .slc ⟨p, l, c⟩) ⟨ho, hoc⟩ rfl
     obtain ⟨i, hi, hib⟩ := gh hb w
     have hm1 : ¬ ((m : Int) < 0) := by omega
     have hm2 : ¬ ((m : Int) * (i.bytes : Int) > 2 ^ 48) := by
      have h5 : m * i.bytes <= 2 ^ 30 * 2 ^ 12 := Nat.mul_le_mul (by omega) (by omega)
      have h6 : (m : Int) * (i.bytes : Int) = ((m * i.bytes : Nat) : Int) := by push_cast; rfl
      rw [h6]; omega
     have happ : ∀ w : World, (if m * size = 0 then (pure #[] : Sem (Array Value)) else do pure (Builtin.zeroCells (<- zeroValue e).cells m)).run P w = .ok ⟨bt m z⟩ w := by
      intro w
      by_cases h0 : m * size = 0
      ·rw [if_pos h0]
       have : bt m z = [] := List.length_eq_zero_iff.1 (by rw [dM, <- hc1]; exact h0)
       rw [this]; rfl
      ·rw [if_neg h0]
       obtain ⟨zv, hzv, hzc⟩ := cv hz w
       have hrest : Builtin.zeroCells ⟨z⟩ m = ⟨bt m z⟩ := by
        unfold Builtin.zeroCells
        exact dB _ ⟨z⟩ _ rfl
       simp only [Sem.run_bind, hzv, Result.andThen_ok, hzc, hrest, Sem.run_pure]
     have hmem : ∀ v ∈ bt m z, v.oneCell' = true := by
      intro v hv
      rw [bt] at hv
      obtain ⟨y, hy, hv⟩ := List.mem_flatten.1 hv
      rw [(List.mem_replicate.1 hy).2] at hv
      exact hone v hv
     by_cases hfit : l + m <= c
     ·cases p with
      | none =>
       refine ⟨_, _, ?_, hK ⟨none, l + m, c⟩ w (.inl ⟨hfit, rfl, rfl⟩)⟩
       simp only [Builtin.append_, List.getElem?_toArray, List.getElem?_cons_zero, List.getElem?_cons_succ, Sem.run_bind, ag hu0, Result.andThen_ok, a9 hsz]
       simp only [ag hu1, Result.andThen_ok, if_true, asInt, asIntOf, Sem.run_pure, Sem.run_bind, hwrap, hm1, if_false, hi, hm2, Int.toNat_natCast, hfit, Bool.not_true, Bool.false_eq_true, happ]
       rfl
      | some a =>
       refine ⟨_, _, ?_, hK ⟨some a, l + m, c⟩ _ (.inl ⟨hfit, rfl, rfl⟩)⟩
       have hst : (storeCells (a.add (l * size)) (bt m z)).run P w = .ok () (setCells w (a.add (l * size)) 0 (bt m z)) :=
        cT _ 0 w hmem (fun j hj => by rw [Nat.zero_add]; exact hw hfit a rfl j (by rw [dM] at hj; rw [hc1]; exact hj))
       simp only [Builtin.append_, List.getElem?_toArray, List.getElem?_cons_zero, List.getElem?_cons_succ, Sem.run_bind, ag hu0, Result.andThen_ok, a9 hsz]
       simp only [ag hu1, Result.andThen_ok, if_true, asInt, asIntOf, Sem.run_pure, Sem.run_bind, hwrap, hm1, if_false, hi, hm2, Int.toNat_natCast, hfit, Bool.not_true, Bool.false_eq_true, happ, hst]
       rfl
     ·let cap := (Question.appendCap (l + m) c e).cut (w.tape w.drawn (.appendCap (l + m) c e))
      have hcap : l + m <= cap := by
       show l + m <= (l + m) + _
       omega
      refine ⟨_, _, ?_, hK ⟨some ⟨w.heap.size, 0, none⟩, l + m, cap⟩ _ (.inr ⟨by simp only; omega, cap, hcap, rfl, rfl⟩)⟩
      obtain ⟨zv, hzv, hzc⟩ := cv hz w.drew
      have hold' : (Builtin.firstCells size l (.slice p l c)).run P w.drew = .ok ⟨old⟩ w.drew :=
       dh (x := .slc ⟨p, l, c⟩) (w := w.drew) ⟨ho, hoc⟩ rfl
      have hrest : Builtin.zeroCells ⟨z⟩ (cap - (l + m)) = ⟨bt (cap - (l + m)) z⟩ := by
       unfold Builtin.zeroCells
       exact dB _ ⟨z⟩ _ rfl
      have hc : c < l + m := by omega
      have hn1 := jF (l + m) c hc
      have hno1 : ¬ (((l + m : Nat) : Int) > IntKind.i64.max) := by
       simp only [IntKind.max, IntKind.signed, IntKind.bits]; omega
      have hno2 : ¬ (Builtin.nextslicecap (l + m) c * i.bytes > 2 ^ 48) := by
       have h5 : Builtin.nextslicecap (l + m) c * i.bytes <= (2 * 2 ^ 30 + 1024) * 2 ^ 12 := Nat.mul_le_mul (by omega) (by omega)
       omega
      obtain ⟨i2, hi2, hib2⟩ := gh hb w.drew
      have hq : (choose (Question.appendCap (l + m) c e)).run P w = .ok cap w.drew := by
       rw [run_choose]; rfl
      have e9 : (⟨old⟩ : Array Value) ++ ⟨bt m z⟩ ++ ⟨bt (cap - (l + m)) z⟩ = ⟨old ++ bt m z ++ bt (cap - (l + m)) z⟩ := by simp
      simp only [Builtin.append_, List.getElem?_toArray, List.getElem?_cons_zero, List.getElem?_cons_succ, Sem.run_bind, ag hu0, Result.andThen_ok, a9 hsz]
      simp only [ag hu1, Result.andThen_ok, if_true, asInt, asIntOf, Sem.run_pure, Sem.run_bind, hwrap, hm1, if_false, hi, hm2, Int.toNat_natCast, hfit, Bool.not_true, Bool.false_eq_true, happ]
      simp only [true_or, and_true, Sem.run_ite, hno1, hno2, if_false, Sem.run_bind, hi, Result.andThen_ok, hq, hi2, run_askRoom, hold', happ, hzv, hzc, hrest, newRow, run_newObj, Sem.run_pure]
      rw [e9]
      rfl
    ·exact h.elim
   ·exact h.elim
  ·exact h.elim
 ·exact h.elim
def appendAnyK (P : Program) (ts : List TypeId) (args : List Value) (w : World) (K : Value -> World -> Prop) : Prop :=
 match ts with
 | [_, t1] => (match intT P t1 with | true => appendZK P ts args w K | false => appendK P ts args w K)
 | _ => False
theorem kA {P : Program} {ts : Array TypeId} {ty : TypeId} {args : Array Value} {w : World} {K : Value -> World -> Prop} (h : appendAnyK P ts.toList args.toList w K) :
  ∃ v w', (Builtin.append_ ts ty args).run P w = .ok v w' /\ K v w' := by
 unfold appendAnyK at h
 split at h
 ·rename_i t0 t1 hts
  split at h
  ·rename_i ht
   exact l4 (fun t ht' => by rw [hts] at ht'; cases ht'; exact ht) h
  ·exact nq h
 ·exact h.elim
end Go.D

