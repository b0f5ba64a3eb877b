/-
  WHAT IS PROVED: the engine: verification conditions of the code, with their soundness. No further conditions.
-/
import Derived.Test.YtfnibbccnbmkoaaDoorEng2
set_option linter.unusedSimpArgs false
namespace Go.D
open Go
set_option linter.unusedVariables false
def fX (P : Program) (t : TypeId) : Option Nat := (P.info? t).map (·.size)
theorem a9 {P : Program} {t : TypeId} {n : Nat} (h : fX P t = some n) (w : World) : (sizeOf t).run P w = .ok n w := by
 unfold fX at h
 cases hi : P.info? t with
 | none => simp [hi] at h
 | some i => simp [hi] at h; simp [sizeOf, typeInfo, hi, h]
def getI (v : Option Value) (d : Int) (K : Int -> Prop) : Prop :=
 match v with
 | none => K d
 | some (.int _ n) => K n
 | _ => False
theorem ib {v : Option Value} {d : Int} {K : Int -> Prop} (h : getI v d K) : ∃ n, (v = none /\ n = d \/ ∃ k, v = some (.int k n)) /\ K n := by
 unfold getI at h
 split at h
 ·exact ⟨_, .inl ⟨rfl, rfl⟩, h⟩
 ·exact ⟨_, .inr ⟨_, rfl⟩, h⟩
 ·exact h.elim
def Slc.sub (s : Slc) (size l h m : Nat) : Slc := ⟨if m = l then s.p else s.p.map (·.add (l * size)), h - l, m - l⟩
def sliceK (P : Program) (t : TypeId) (x : Value) (lo hi mx : Option Value) (K : Value -> Prop) : Prop :=
  match P.underlying t, x with
  | some (.slice e), .slice a len cap =>
    (match fX P e, !mx.isSome || hi.isSome with
     | some size, true => getI lo 0 fun l => getI hi len fun h => getI mx cap fun m =>
         0 <= l /\ l <= h /\ h <= m /\ m <= cap /\ K (Slc.v (Slc.sub ⟨a, len, cap⟩ size l.toNat h.toNat m.toNat))
     | _, _ => False)
  | some .string, .string s =>
    (match mx with
     | none => getI lo 0 fun l => getI hi (s.data.toList.length : Int) fun h =>
         0 <= l /\ l <= h /\ h <= (s.data.toList.length : Int) /\ K (aq ((s.data.toList.take h.toNat).drop l.toNat))
     | some _ => False)
  | _, _ => False
theorem np {P : Program} {v : Option Value} {d i : Int} {y : Nat} (hv : v = none /\ i = d \/ ∃ k, v = some (.int k i)) (h0 : 0 <= i) (h1 : i <= y) (x : Value) (hx : v = some x)
  (c : BoundsCode) (w : World) : (Instr.sliceBound x y c).run P w = .ok i.toNat w := by
 rcases hv with ⟨h, _⟩ | ⟨k, h⟩
 ·rw [h] at hx; cases hx
 ·rw [h] at hx; cases hx; exact run_sliceBound w k i y c h0 h1
theorem nZ {P : Program} {isS : Bool} {len cap : Nat} {lo hi mx : Option Value} {l h m : Int}
  (hl : lo = none /\ l = 0 \/ ∃ k, lo = some (.int k l)) (hh : hi = none /\ h = len \/ ∃ k, hi = some (.int k h)) (hm : mx = none /\ m = cap \/ ∃ k, mx = some (.int k m))
  (hmh : mx.isSome = true -> hi.isSome = true) (h0 : 0 <= l) (h1 : l <= h) (h2 : h <= m) (h3 : m <= cap) (w : World) :
  (Instr.sliceBounds isS len cap lo hi mx).run P w = .ok (l.toNat, h.toNat, m.toNat) w := by
 have e1 : (h.toNat : Int) = h := Int.toNat_of_nonneg (by omega)
 have e2 : (m.toNat : Int) = m := Int.toNat_of_nonneg (by omega)
 have b1 : ∀ x, mx = some x -> ∀ c, (Instr.sliceBound x cap c).run P w = .ok m.toNat w := fun x hx c => np hm (by omega) (by omega) x hx c w
 have b2 : ∀ x, hi = some x -> ∀ c, (Instr.sliceBound x m.toNat c).run P w = .ok h.toNat w := fun x hx c => np hh (by omega) (by omega) x hx c w
 have b3 : ∀ x, lo = some x -> ∀ c, (Instr.sliceBound x h.toNat c).run P w = .ok l.toNat w := fun x hx c => np hl (by omega) (by omega) x hx c w
 have m0 : mx = none -> m = cap := fun e => by rcases hm with ⟨_, h⟩ | ⟨k, h⟩; exact h; rw [h] at e; cases e
 have hh0 : hi = none -> h = len := fun e => by rcases hh with ⟨_, h⟩ | ⟨k, h⟩; exact h; rw [h] at e; cases e
 have l0 : lo = none -> l = 0 := fun e => by rcases hl with ⟨_, h⟩ | ⟨k, h⟩; exact h; rw [h] at e; cases e
 unfold Instr.sliceBounds
 cases hmx : mx with
 | some x3 =>
  cases hhi : hi with
  | none => simp [hmx, hhi] at hmh
  | some x2 =>
   cases hlo : lo with
   | none => have := l0 hlo; simp [b1 x3 hmx, b2 x2 hhi, this]
   | some x1 => simp [b1 x3 hmx, b2 x2 hhi, b3 x1 hlo]
 | none =>
  have em := m0 hmx
  have em' : m.toNat = cap := by omega
  rw [em'] at b2
  cases hhi : hi with
  | none =>
   have eh := hh0 hhi
   have eh' : h.toNat = len := by omega
   rw [eh'] at b3
   cases hlo : lo with
   | none => have := l0 hlo; simp [this, em', eh']
   | some x1 => simp [b3 x1 hlo, em', eh']
  | some x2 =>
   cases hlo : lo with
   | none => have := l0 hlo; simp [b2 x2 hhi, this, em']
   | some x1 => simp [b2 x2 hhi, b3 x1 hlo, em']
theorem gU (s : ByteArray) (l h : Nat) : s.extract l h = ⟨⟨(s.data.toList.take h).drop l⟩⟩ := by
 have e1 : (s.extract l h).data = s.data.extract l h := ByteArray.data_extract
 rw [nn (s.extract l h), e1]
 simp [Array.toList_extract, List.drop_take]
theorem oE {P : Program} {t : TypeId} {x : Value} {lo hi mx : Option Value} {K : Value -> Prop} (h : sliceK P t x lo hi mx K) :
  ∃ v, (∀ w, (Instr.sliceAt t x lo hi mx).run P w = .ok v w) /\ K v := by
 unfold sliceK at h
 split at h
 ·rename_i e a len cap hu
  split at h
  ·rename_i size hsz hmh'
   have hmh : mx.isSome = true -> hi.isSome = true := by
    intro h1; rw [h1] at hmh'; simpa using hmh'
   obtain ⟨l, hl, h⟩ := ib h
   obtain ⟨hh, hhh, h⟩ := ib h
   obtain ⟨m, hm, h0, h1, h2, h3, h⟩ := ib h
   refine ⟨_, fun w => ?_, h⟩
   simp only [Instr.sliceAt, Instr.slice, Sem.run_bind, ag hu, Result.andThen_ok, nZ hl hhh hm hmh h0 h1 h2 h3, a9 hsz, Sem.run_pure]
   rfl
  ·exact h.elim
 ·rename_i s hu
  split at h
  ·obtain ⟨l, hl, h⟩ := ib h
   obtain ⟨hh, hhh, h0, h1, h2, h⟩ := ib h
   refine ⟨_, fun w => ?_, h⟩
   have := nZ (P := P) (isS := false) (len := s.size) (cap := s.size) (mx := none) (m := s.size) hl hhh (.inl ⟨rfl, rfl⟩) (fun h => by cases h) h0 h1 h2 (Int.le_refl _) w
   simp only [Instr.sliceAt, Instr.slice, Sem.run_bind, ag hu, Result.andThen_ok, this, Sem.run_pure, Option.isSome_none, Bool.false_eq_true, if_false, gU]
   rfl
  ·exact h.elim
 ·exact h.elim
def idxK (P : Program) (t : TypeId) (x i : Value) (K : Value -> Prop) : Prop :=
  match P.underlying t, x, i with
  | some (.slice e), .slice p len _, .int _ n =>
    (match fX P e with
     | some size => needSome p fun a => 0 <= n /\ n < len /\ K (.pointer (some (a.add (n.toNat * size))))
     | none => False)
  | some (.array len e), .pointer p, .int _ n =>
    (match fX P e with
     | some size => needSome p fun a => 0 <= n /\ n < len /\ K (.pointer (some (a.add (n.toNat * size))))
     | none => False)
  | _, _, _ => False
theorem qC {P : Program} {t : TypeId} {x i : Value} {K : Value -> Prop} (h : idxK P t x i K) : ∃ v, (∀ w, (Instr.indexAt t x i).run P w = .ok v w) /\ K v := by
 unfold idxK at h
 split at h
 ·rename_i e p len cap k n hu
  split at h
  ·rename_i size hsz
   obtain ⟨a, rfl, h0, h1, h⟩ := dL h
   refine ⟨_, fun w => ?_, h⟩
   simp [Instr.indexAt, asIntOf, ag hu, h0, h1, a9 hsz]
  ·exact h.elim
 ·rename_i len e p k n hu
  split at h
  ·rename_i size hsz
   obtain ⟨a, rfl, h0, h1, h⟩ := dL h
   refine ⟨_, fun w => ?_, h⟩
   simp [Instr.indexAt, asIntOf, ag hu, h0, h1, a9 hsz, Instr.sureAddr]
  ·exact h.elim
 ·exact h.elim
def ky (P : Program) (t : TypeId) : Option Sh :=
 match P.underlying t with
 | some (.int k) => some (.int k)
 | some .bool => some .bool
 | some .string => some .str
 | some (.pointer _) => some .ptr
 | some (.slice _) => some .slc
 | some (.map _ _) => some .map
 | some (.interface _) => some .any
 | some (.func _ _ _) => some .any
 | _ => none
def isAggT (P : Program) (t : TypeId) : Bool :=
 match P.underlying t with
 | some (.struct _) => true
 | some (.array _ _) => true
 | _ => false
theorem iK {P : Program} {t : TypeId} {d : TypeDesc} (h : P.underlying t = some d) (w : World) : (isAgg t).run P w = .ok (isAggT P t) w := by
 simp only [isAgg, Sem.run_bind, ag h, Result.andThen_ok, isAggT, h]
 cases d <;> rfl
def chK (P : Program) (t : TypeId) (x i : Value) (K : Value -> Prop) : Prop :=
  match P.underlying t, x, i with
  | some .string, .string s, .int _ n => 0 <= n /\ n < (s.data.toList.length : Int) /\ K (.int .u8 ((s.data.toList.getD n.toNat 0).toNat : Int))
  | some (.array len e), .agg cs, .int k n =>
    (match isAggT P e, ky P e, fX P e with
     | false, some s, some 1 => 0 <= n /\ n < len /\ ∃ x : s.T, cs.toList[n.toNat]? = some (s.v x) /\ K (s.v x)
     | _, _, _ => nextK (pureRun P (do pure (.value (<- Instr.index t (.agg cs) (.int k n))))) K)
  | _, _, _ => False
theorem rk {P : Program} {t : TypeId} {x i : Value} {K : Value -> Prop} (h : chK P t x i K) :
  ∃ v, (∀ w, (do pure (Next.value (<- Instr.index t x i)) : Sem Next).run P w = .ok (.value v) w) /\ K v := by
 unfold chK at h
 split at h
 ·rename_i s k n hu
  obtain ⟨h0, h1, h⟩ := h
  refine ⟨_, fun w => ?_, h⟩
  have hlt : n.toNat < s.size := by
   have : s.size = s.data.toList.length := rfl
   omega
  have e : s[n.toNat]? = some (s.data.toList.getD n.toNat 0) := by
   rw [ByteArray.getElem?_lt' s _ hlt]
   have h2 : n.toNat < s.data.toList.length := hlt
   rw [List.getD_eq_getElem?_getD, List.getElem?_eq_getElem h2]
   rfl
  simp [Instr.index, asIntOf, ag hu, h0, e]
 ·rename_i len e cs k n hu
  split at h
  ·rename_i s hag hsh hsz
   obtain ⟨h0, h1, x, hx, h⟩ := h
   refine ⟨_, fun w => ?_, h⟩
   have hd : ∃ d, P.underlying e = some d := by
    cases hd : P.underlying e with
    | none => rw [ky, hd] at hsh; cases hsh
    | some d => exact ⟨d, rfl⟩
   obtain ⟨d, hd⟩ := hd
   have hx2 : cs[n.toNat]? = some (s.v x) := by rw [<- hx]; simp
   have hp : (part e cs (n.toNat * 1)).run P w = .ok (s.v x) w := by
    simp only [part, Sem.run_bind, iK hd, hag, Result.andThen_ok, Nat.mul_one, hx2]
    rfl
   simp only [Instr.index, asIntOf, Sem.run_bind, Sem.run_pure, Result.andThen_ok, ag hu, h0, h1, and_self, if_true, a9 hsz, hp]
  ·unfold nextK at h
   split at h
   ·rename_i v hv
    exact ⟨v, fun w => jA hv w, h⟩
   ·exact h.elim
 ·exact h.elim
def widens (k k' : IntKind) : Bool := decide (k'.min <= k.min) && decide (k.max <= k'.max)
def convK (P : Program) (src dst : TypeId) (x : Value) (wr : Bool) (K : Value -> Prop) : Prop :=
  match P.underlying src, P.underlying dst, x with
  | some _, some (.int k), .int k0 n =>
    (match widens k0 k && !wr with
     | true => inR k n /\ K (.int k n)
     | false => K (.int k (k.wrap n)))
  | some .string, some .string, .string s => K (.string s)
  | some .bool, some .bool, x => False
  | _, _, _ => False
theorem pB {P : Program} {src dst : TypeId} {x : Value} {wr : Bool} {K : Value -> Prop} (h : convK P src dst x wr K) : ∃ v, (∀ w, (convert src dst x).run P w = .ok v w) /\ K v := by
 unfold convK at h
 split at h
 ·rename_i d k k0 n hs hd
  split at h
  ·refine ⟨_, fun w => ?_, h.2⟩
   simp [convert, ag hs, ag hd, Conv.intToInt, bu h.1]
  ·refine ⟨_, fun w => ?_, h⟩
   simp [convert, ag hs, ag hd, Conv.intToInt]
 ·rename_i s hs hd
  refine ⟨_, fun w => ?_, h⟩
  simp [convert, ag hs, ag hd]
 ·exact h.elim
 ·exact h.elim
def negK (x : Value) (wr : Bool) (K : Value -> Prop) : Prop := match x with | .int k n => arith k wr (0 - n) K | _ => False
theorem qD {P : Program} {x : Value} {wr : Bool} {K : Value -> Prop} (h : negK x wr K) : ∃ v, (∀ w, (Op.unary .neg x).run P w = .ok v w) /\ K v := by
 unfold negK at h
 split at h
 ·refine ⟨_, fun w => ?_, jz h⟩
  simp [Op.unary, Op.intArith]
 ·exact h.elim
def rl (x : Value) (K : Value -> Prop) : Prop :=
 match x with
 | .int k n => (match k.signed with | true => False | false => 0 <= n /\ inR k n /\ K (.int k (bitsI .xor k.max n)))
 | _ => False
theorem qE {P : Program} {x : Value} {K : Value -> Prop} (h : rl x K) : ∃ v, (∀ w, (Op.unary .xor x).run P w = .ok v w) /\ K v := by
 unfold rl at h
 split at h
 ·rename_i k n
  split at h
  ·exact h.elim
  ·rename_i hs
   obtain ⟨h0, h1, h2⟩ := h
   have hm : 0 <= k.max /\ inR k k.max := by
    cases k <;> simp [IntKind.signed] at hs <;> exact ⟨by decide, by decide, by decide⟩
   obtain ⟨v, h3, h4⟩ := nX (op := .xor) (k := k) (k' := k) (a := k.max) (b := n) (wr := false) (K := fun v => v = .int k (bitsI .xor k.max n)) P 0
    (by simp only [intK, if_true]; exact ⟨hm.1, h0, hm.2, h1, trivial⟩)
   subst h4
   refine ⟨_, fun w => ?_, h2⟩
   have := h3 w
   simp only [binOp, ne_eq, not_true_eq_false, if_false] at this
   simp only [Op.unary, hs]
   exact this
 ·exact h.elim
def oneK (v : Value) (X : Prop) : Prop :=
 match v with
 | .agg _ => False
 | .tuple _ => False
 | .bool _ => X | .int _ _ => X | .string _ => X | .pointer _ => X | .slice _ _ _ => X | .map _ => X | .nilFunc => X | .func _ _ _ => X | .iface _ _ => X | .nilIface => X
 | _ => False
theorem oc {v : Value} {X : Prop} (h : oneK v X) : v.oneCell' = true /\ v.cells = #[v] /\ X := by
 cases v <;> simp only [oneK] at h <;> first | exact h.elim | exact ⟨rfl, rfl, h⟩
def cellsT (P : Program) (t : TypeId) (v : Value) (K : List Value -> Prop) : Prop :=
 match P.underlying t, fX P t with
 | some (.struct _), some n => (match v with | .agg cs => (if cs.size = n then K cs.toList else False) | _ => False)
 | some (.array _ _), some n => (match v with | .agg cs => (if cs.size = n then K cs.toList else False) | _ => False)
 | some _, some 1 => oneK v (K [v])
 | _, _ => False
theorem iL {P : Program} {t : TypeId} {v : Value} {K : List Value -> Prop} (h : cellsT P t v K) : ∃ n, fX P t = some n /\ v.cells.size = n /\ K v.cells.toList := by
 unfold cellsT at h
 split at h
 ·rename_i hn
  split at h
  ·split at h
   ·rename_i hs; exact ⟨_, hn, hs, h⟩
   ·exact h.elim
  ·exact h.elim
 ·rename_i hn
  split at h
  ·split at h
   ·rename_i hs; exact ⟨_, hn, hs, h⟩
   ·exact h.elim
  ·exact h.elim
 ·rename_i hn
  obtain ⟨h1, h2, h3⟩ := oc h
  exact ⟨1, hn, by rw [h2]; rfl, by rw [h2]; exact h3⟩
 ·exact h.elim
def setFrom (l : List Value) (off : Nat) : List Value -> List Value
 | [] => l
 | v :: r => setFrom (l.set off v) (off + 1) r
def fillK (P : Program) (place : Nat -> Option (TypeId × Nat)) : List (Nat × Value) -> List Value -> (List Value -> Prop) -> Prop
 | [], cells, K => K cells
 | (i, v) :: rest, cells, K =>
  match place i with
  | some (t, off) => cellsT P t v fun cs => if off + cs.length <= cells.length then fillK P place rest (setFrom cells off cs) K else False
  | none => False
theorem gP : ∀ (cs : List Value) (l : List Value) (off k : Nat),
  (cs.zipIdx k).foldl (fun (cs : Array Value) (x : Value × Nat) => cs.setIfInBounds (off + x.2) x.1) ⟨l⟩ = ⟨setFrom l (off + k) cs⟩
 | [], _, _, _ => rfl
 | v :: r, l, off, k => by
  simp only [List.zipIdx_cons, List.foldl_cons, setFrom]
  have : (Array.mk l).setIfInBounds (off + k) v = ⟨l.set (off + k) v⟩ := by simp
  rw [this, gP r _ off (k + 1)]
  rfl
theorem ic {P : Program} {place : Nat -> Option (TypeId × Nat)} {pl : Nat -> Option (Nat × Nat)}
  (hp : ∀ i t off n, place i = some (t, off) -> fX P t = some n -> pl i = some (off, n)) :
  ∀ {parts : List (Nat × Value)} {cells : List Value} {K : List Value -> Prop}, fillK P place parts cells K -> ∃ cs, Instr.fill pl ⟨cells⟩ parts = some ⟨cs⟩ /\ K cs
 | [], cells, K, h => ⟨cells, rfl, h⟩
 | (i, v) :: rest, cells, K, h => by
  simp only [fillK] at h
  split at h
  ·rename_i t off hi
   obtain ⟨n, hn, hs, h⟩ := iL h
   split at h
   ·rename_i hle
    obtain ⟨cs, h1, h2⟩ := ic hp h
    refine ⟨cs, ?_, h2⟩
    have hle' : ¬ (off + v.cells.size > (Array.mk cells).size) := by simp at hle ⊢; omega
    have e : v.cells.zipIdx.foldl (fun (cs : Array Value) (x : Value × Nat) => cs.setIfInBounds (off + x.2) x.1) ⟨cells⟩ = ⟨setFrom cells off v.cells.toList⟩ := by
     have := gP v.cells.toList cells off 0
     rw [<- Array.foldl_toList, Array.toList_zipIdx]
     exact this
    simp only [Instr.fill, hp i t off n hi hn, hs]
    rw [<- hs]
    rw [if_neg (by simp; simpa using hle')]
    rw [e]
    exact h1
   ·exact h.elim
  ·exact h.elim
end Go.D

