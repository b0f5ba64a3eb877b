/-
  WHAT IS PROVED: the engine: verification conditions of the code, with their soundness. No further conditions.
-/
import Derived.Test.YtfnibbccnbmkoaaDoorEng1
import Derived.Laws.StructEq
set_option linter.unusedSimpArgs false
namespace Go.D
open Go
set_option linter.unusedVariables false
def needSome (p : Option Addr) (K : Addr -> Prop) : Prop := match p with | some a => K a | none => False
theorem dL {p : Option Addr} {K : Addr -> Prop} (h : needSome p K) : ∃ a, p = some a /\ K a := by
 cases p with
 | none => exact h.elim
 | some a => exact ⟨a, rfl, h⟩
theorem ao {p : Option Addr} {K : Addr -> Prop} {a : Addr} (h : p = some a) (hk : K a) : needSome p K := by subst h; exact hk
def arith (k : IntKind) (wr : Bool) (n : Int) (K : Value -> Prop) : Prop :=
 match wr with
 | true => K (.int k (k.wrap n))
 | false => inR k n /\ K (.int k n)
theorem jz {k : IntKind} {wr : Bool} {n : Int} {K : Value -> Prop} (h : arith k wr n K) : K (.int k (k.wrap n)) := by
 cases wr with
 | true => exact h
 | false => rw [bu h.1]; exact h.2
def cmpB (op : BinOp) (a b : Int) : Bool :=
 match op with
 | .eql => decide (a = b)
 | .neq => !decide (a = b)
 | .lss => decide (a < b)
 | .leq => decide (a <= b)
 | .gtr => decide (b < a)
 | _ => decide (b <= a)
def bitsI (op : BinOp) (a b : Int) : Int :=
 match op with
 | .and => ((a.toNat &&& b.toNat : Nat) : Int)
 | .or => ((a.toNat ||| b.toNat : Nat) : Int)
 | _ => ((a.toNat ^^^ b.toNat : Nat) : Int)
def intK (op : BinOp) (k : IntKind) (a : Int) (k' : IntKind) (b : Int) (wr : Bool) (K : Value -> Prop) : Prop :=
 match op with
 | .shl => 0 <= b /\ arith k wr (a * ((2 ^ min b.toNat k.bits : Nat) : Int)) K
 | .shr => 0 <= b /\ 0 <= a /\ K (.int k (a / ((2 ^ min b.toNat k.bits : Nat) : Int)))
 | .add => if k = k' then arith k wr (a + b) K else False
 | .sub => if k = k' then arith k wr (a - b) K else False
 | .mul => if k = k' then arith k wr (a * b) K else False
 | .quo => if k = k' then (match wr with
   | true => b ≠ 0 /\ K (.int k (k.wrap (a.tdiv b)))
   | false => 0 <= a /\ 0 < b /\ inR k a /\ K (.int k (a / b))) else False
 | .rem => if k = k' then (match wr with
   | true => b ≠ 0 /\ K (.int k (a.tmod b))
   | false => 0 <= a /\ 0 < b /\ K (.int k (a % b))) else False
 | .and | .or | .xor => if k = k' then (0 <= a /\ 0 <= b /\ inR k a /\ inR k b /\ K (.int k (bitsI op a b))) else False
 | .andNot => False
 | _ => if k = k' then K (.bool (cmpB op a b)) else False
theorem toNat_ofInt {k : IntKind} {a : Int} (h0 : 0 <= a) (h : inR k a) : (BitVec.ofInt k.bits a).toNat = a.toNat := by
 obtain ⟨n, rfl⟩ := Int.eq_ofNat_of_zero_le h0
 have : n < 2 ^ k.bits := by
  obtain ⟨_, h2⟩ := h
  cases k <;> simp only [IntKind.max, IntKind.bits, IntKind.signed] at h2 ⊢ <;> simp at h2 ⊢ <;> omega
 simp [BitVec.ofInt_natCast, Nat.mod_eq_of_lt this]
theorem jr {k : IntKind} {a b r : Nat} (ha : inR k a) (hb : inR k b) (hr : ∀ n, a < 2 ^ n -> b < 2 ^ n -> r < 2 ^ n) : inR k (r : Int) := by
 obtain ⟨_, ha⟩ := ha
 obtain ⟨_, hb⟩ := hb
 have := hr (if k.signed then k.bits - 1 else k.bits)
  (by cases k <;> simp only [IntKind.max, IntKind.bits, IntKind.signed] at ha ⊢ <;> simp at ha ⊢ <;> omega)
  (by cases k <;> simp only [IntKind.max, IntKind.bits, IntKind.signed] at hb ⊢ <;> simp at hb ⊢ <;> omega)
 constructor
 ·cases k <;> simp only [IntKind.min, IntKind.bits, IntKind.signed] <;> simp <;> omega
 ·cases k <;> simp only [IntKind.max, IntKind.bits, IntKind.signed] at this ⊢ <;> simp at this ⊢ <;> omega
theorem nX {op : BinOp} {k k' : IntKind} {a b : Int} {wr : Bool} {K : Value -> Prop} (P : Program) (t : TypeId) (h : intK op k a k' b wr K) :
  ∃ v, (∀ w, (binOp op t (.int k a) (.int k' b)).run P w = .ok v w) /\ K v := by
 cases op <;> simp only [intK] at h
 case shl =>
  obtain ⟨h0, h1⟩ := h
  refine ⟨_, fun w => ?_, jz h1⟩
  simp [binOp, Op.shift, Int.not_lt.2 h0]
 case shr =>
  obtain ⟨h0, h1, h2⟩ := h
  refine ⟨_, fun w => ?_, h2⟩
  simp [binOp, Op.shift, Int.not_lt.2 h0]
  exact Int.fdiv_eq_ediv_of_nonneg _ (Int.pow_nonneg (by decide))
 case add | sub | mul =>
  split at h
  ·rename_i hk; subst hk
   refine ⟨_, fun w => ?_, jz h⟩
   simp [binOp, Op.intArith]
  ·exact h.elim
 case quo =>
  split at h
  ·rename_i hk; subst hk
   cases wr with
   | true =>
    refine ⟨_, fun w => ?_, h.2⟩
    simp [binOp, Op.intDiv, h.1]
   | false =>
    obtain ⟨h0, h1, h2, h3⟩ := h
    refine ⟨_, fun w => ?_, h3⟩
    have hb : b ≠ 0 := by omega
    have : inR k (a / b) := by
     have h4 : a / b <= a := Int.ediv_le_self b h0
     have h5 : 0 <= a / b := Int.ediv_nonneg h0 (by omega)
     refine ⟨?_, by have := h2.2; omega⟩
     have := h2.1
     cases k <;> simp only [IntKind.min, IntKind.bits, IntKind.signed] <;> simp <;> omega
    simp [binOp, Op.intDiv, hb, Int.tdiv_eq_ediv_of_nonneg h0, bu this]
  ·exact h.elim
 case rem =>
  split at h
  ·rename_i hk; subst hk
   cases wr with
   | true =>
    refine ⟨_, fun w => ?_, h.2⟩
    simp [binOp, Op.intDiv, h.1]
   | false =>
    obtain ⟨h0, h1, h3⟩ := h
    refine ⟨_, fun w => ?_, h3⟩
    have hb : b ≠ 0 := by omega
    simp [binOp, Op.intDiv, hb, Int.tmod_eq_emod_of_nonneg h0]
  ·exact h.elim
 case and | or | xor =>
  split at h
  ·rename_i hk; subst hk
   obtain ⟨h0, h1, h2, h3, h4⟩ := h
   refine ⟨_, fun w => ?_, h4⟩
   have e1 := toNat_ofInt h0 h2
   have e2 := toNat_ofInt h1 h3
   obtain ⟨m, rfl⟩ := Int.eq_ofNat_of_zero_le h0
   obtain ⟨n, rfl⟩ := Int.eq_ofNat_of_zero_le h1
   have hr1 := jr h2 h3 (r := m &&& n) (fun i ha _ => Nat.lt_of_le_of_lt Nat.and_le_left ha)
   have hr2 := jr h2 h3 (r := m ||| n) (fun i ha hb => Nat.or_lt_two_pow ha hb)
   have hr3 := jr h2 h3 (r := m ^^^ n) (fun i ha hb => Nat.xor_lt_two_pow ha hb)
   simp only [Int.toNat_natCast] at e1 e2
   simp only [binOp, Op.intBits, bitsI, Int.toNat_natCast, ne_eq, not_true_eq_false, ↓reduceIte]
   simp only [Sem.run_pure, BitVec.toNat_and, BitVec.toNat_or, BitVec.toNat_xor, e1, e2, bu hr1, bu hr2, bu hr3]
  ·exact h.elim
 case eql | neq | lss | leq | gtr | geq =>
  split at h
  ·rename_i hk; subst hk
   refine ⟨_, fun w => ?_, h⟩
   first
    | (simp [binOp, Op.intCmp, cmpB]; done)
    | (simp [binOp, Op.intCmp, cmpB]; rfl)
  ·exact h.elim
def strK (op : BinOp) (a b : List UInt8) (K : Value -> Prop) : Prop :=
 match op with
 | .add => a.length + b.length <= 2 ^ 62 /\ K (aq (a ++ b))
 | .eql => K (.bool (decide (a = b)))
 | .neq => K (.bool (!decide (a = b)))
 | .lss => K (.bool (Op.bytesLess a b))
 | .leq => K (.bool (Op.bytesLess a b || decide (a = b)))
 | .gtr => K (.bool (!(Op.bytesLess a b || decide (a = b))))
 | .geq => K (.bool (!Op.bytesLess a b))
 | _ => False
theorem nn (s : ByteArray) : s = ⟨⟨s.data.toList⟩⟩ := rfl
theorem oD (a b : ByteArray) : a ++ b = ⟨⟨a.data.toList ++ b.data.toList⟩⟩ := by
 have : (a ++ b).data = a.data ++ b.data := ByteArray.data_append
 rw [nn (a ++ b), this, Array.toList_append]
theorem lU (a b : List UInt8) : (a == b) = decide (a = b) := by
 by_cases h : a = b
 ·simp [h]
 ·simp [h]
theorem qA {op : BinOp} {a b : ByteArray} {K : Value -> Prop} (P : Program) (t : TypeId) (h : strK op a.data.toList b.data.toList K) :
  ∃ v, (∀ w, (binOp op t (.string a) (.string b)).run P w = .ok v w) /\ K v := by
 cases op <;> simp only [strK] at h <;> try exact h.elim
 case add =>
  refine ⟨_, fun w => ?_, h.2⟩
  have h1 := h.1
  have : ¬ ((a.size + b.size : Nat) : Int) > IntKind.i64.max := by
   simp [IntKind.max, IntKind.signed, IntKind.bits]
   have e1 : a.size = a.data.toList.length := rfl
   have e2 : b.size = b.data.toList.length := rfl
   omega
  simp only [binOp, Op.stringOp, this, if_false, Sem.run_pure, oD]
  rfl
 all_goals
  refine ⟨_, fun w => ?_, h⟩
  simp only [binOp, Op.stringOp, Sem.run_pure, ByteArray.toList_eq, lU]
def pureRun {α : Type} (P : Program) : Sem α -> Option α
 | .pure a => some a
 | .program k => pureRun P (k P)
 | .mark _ k => pureRun P k
 | _ => none
theorem jA {α : Type} {P : Program} : ∀ {s : Sem α} {a : α}, pureRun P s = some a -> ∀ w, s.run P w = .ok a w := by
 intro s
 induction s with
 | pure b => intro a h w; simp only [pureRun, Option.some.injEq] at h; subst h; rfl
 | program k ih => intro a h w; simp only [pureRun] at h; simp only [Sem.run]; exact ih P h w
 | mark m k ih => intro a h w; simp only [pureRun] at h; simp only [Sem.run]; exact ih h w
 | _ => intro a h; simp [pureRun] at h
def Yields (P : Program) (o : Oper) (ρ : Operand -> Value) (v : Value) : Prop := ∀ w, (execOp ρ o).run P w = .ok (.value v) w
def nextK (n : Option Next) (K : Value -> Prop) : Prop := match n with | some (.value v) => K v | _ => False
theorem jB {P : Program} {o : Oper} {ρ : Operand -> Value} {K : Value -> Prop} (h : nextK (pureRun P (execOp ρ o)) K) : ∃ v, Yields P o ρ v /\ K v := by
 unfold nextK at h
 split at h
 ·rename_i v hv
  exact ⟨v, fun w => jA hv w, h⟩
 ·exact h.elim
def isI : Value -> Prop
 | .nilIface => True
 | .iface _ _ => True
 | _ => False
def isNilI : Value -> Bool
 | .nilIface => true
 | _ => false
def eqV (neg : Bool) (b : Bool) : Value := .bool (match neg with | true => !b | false => b)
def eqCell (a b : Value) (K : Bool -> Prop) : Prop :=
 match a, b with
 | .int k x, .int k' y => if k = k' then K (decide (x = y)) else False
 | .bool x, .bool y => K (x == y)
 | .string x, .string y => K (decide (x.data.toList = y.data.toList))
 | _, _ => False
def basicT (P : Program) (t : TypeId) : Nat :=
 match P.underlying t with
 | some (.int _) => 1
 | some .bool => 2
 | some .string => 3
 | _ => 0
def nY : Value -> Nat
 | .int _ _ => 1
 | .bool _ => 2
 | .string _ => 3
 | _ => 4
def eqFlds (P : Program) : List Field -> List Value -> List Value -> (Bool -> Prop) -> Prop
 | [], _, _, K => K true
 | f :: fs, xs, ys, K =>
  match f.name != "_", xs[f.offset]?, ys[f.offset]? with
  | true, some a, some b => (match Nat.beq (basicT P f.type) (nY a) with
    | true => eqCell a b fun r => eqFlds P fs xs ys fun r' => K (r && r')
    | false => False)
  | _, _, _ => False
def aggEqK (P : Program) (op : BinOp) (t : TypeId) (xs ys : Array Value) (K : Value -> Prop) : Prop :=
 match P.underlying t with
 | some (.struct fs) => (match P.stoodInHeld t, P.eqGuardType P.depth t, op with
   | false, false, .eql => eqFlds P fs.toList xs.toList ys.toList fun r => K (eqV false r)
   | false, false, .neq => eqFlds P fs.toList xs.toList ys.toList fun r => K (eqV true r)
   | _, _, _ => False)
 | _ => False
def binK (P : Program) (op : BinOp) (t : TypeId) (ox oy : Operand) (x y : Value) (wr : Bool) (K : Value -> Prop) : Prop :=
 match oy, op with
 | .const .nilIface, .eql => (match P.underlying t with | some (.interface _) => isI x /\ K (eqV false (isNilI x)) | _ => False)
 | .const .nilIface, .neq => (match P.underlying t with | some (.interface _) => isI x /\ K (eqV true (isNilI x)) | _ => False)
 | _, _ =>
  match x, y with
  | .int k a, .int k' b => intK op k a k' b wr K
  | .string a, .string b => strK op a.data.toList b.data.toList K
  | .bool a, .bool b => (match P.underlying t, op with
    | some .bool, .eql => K (eqV false (a == b))
    | some .bool, .neq => K (eqV true (a == b))
    | _, _ => False)
  | .pointer a, .pointer none => (match P.underlying t, op with
    | some (.pointer _), .eql => K (eqV false a.isNone)
    | some (.pointer _), .neq => K (eqV true a.isNone)
    | _, _ => False)
  | .map a, .map none => (match P.underlying t, op with
    | some (.map _ _), .eql => K (eqV false a.isNone)
    | some (.map _ _), .neq => K (eqV true a.isNone)
    | _, _ => False)
  | .slice a _ _, .slice none _ _ => (match P.underlying t, op with
    | some (.slice _), .eql => K (eqV false a.isNone)
    | some (.slice _), .neq => K (eqV true a.isNone)
    | _, _ => False)
  | .agg xs, .agg ys => aggEqK P op t xs ys K
  | _, _ => False
theorem ag {P : Program} {t : TypeId} {d : TypeDesc} (h : P.underlying t = some d) (w : World) : (underlying t).run P w = .ok d w := by
 simp [underlying, h]
section
variable {P : Program} {t : TypeId}
theorem dA (x y : Value) (w : World) : (Op.equal t x y).run P w = (Op.equalIn (9999 + 1) t x y).run P w := rfl
theorem ia {ms : Array (String × TypeId)} (h : P.underlying t = some (.interface ms)) (x : Value) (hx : isI x) (w : World) : (Op.equal t x .nilIface).run P w = .ok (isNilI x) w := by
 rw [dA, Op.equalIn]
 cases x <;> simp [isI] at hx <;> simp [ag h, isNilI]
theorem jC (h : P.underlying t = some .bool) (a b : Bool) (w : World) : (Op.equal t (.bool a) (.bool b)).run P w = .ok (a == b) w := by
 rw [dA, Op.equalIn]; simp [ag h]
theorem kK {e : TypeId} (h : P.underlying t = some (.pointer e)) (a : Option Addr) (w : World) : (Op.equal t (.pointer a) (.pointer none)).run P w = .ok a.isNone w := by
 rw [dA, Op.equalIn]; cases a <;> simp [ag h]
theorem kL {k e : TypeId} (h : P.underlying t = some (.map k e)) (a : Option Nat) (w : World) : (Op.equal t (.map a) (.map none)).run P w = .ok a.isNone w := by
 rw [dA, Op.equalIn]; cases a <;> simp [ag h]
theorem iV {e : TypeId} (h : P.underlying t = some (.slice e)) (a : Option Addr) (m n m' n' : Nat) (w : World) : (Op.equal t (.slice a m n) (.slice none m' n')).run P w = .ok a.isNone w := by
 rw [dA, Op.equalIn]; cases a <;> simp [ag h]
end
theorem gT {P : Program} : ∀ (fs : List Field) (xs ys : Array Value) (K : Bool -> Prop), eqFlds P fs xs.toList ys.toList K -> ∃ r, (∀ w, (Op.eqFields 9999 xs ys fs).run P w = .ok r w) /\ K r
 | [], _, _, K, h => ⟨true, fun w => by simp [Op.eqFields], h⟩
 | f :: fs, xs, ys, K, h => by
  rw [eqFlds] at h
  split at h
  ·rename_i a b hn hx hy
   have hn : f.name ≠ "_" := by simpa using hn
   have hx : xs[f.offset]? = some a := by simpa using hx
   have hy : ys[f.offset]? = some b := by simpa using hy
   split at h
   ·rename_i hk
    have hk := Nat.eq_of_beq_eq_true hk
    have step : ∀ (r : Bool), (∀ w, (isAgg f.type).run P w = .ok false w) -> (∀ w, (Op.equalIn 9999 f.type a b).run P w = .ok r w) -> eqFlds P fs xs.toList ys.toList (fun r' => K (r && r')) -> ∃ r, (∀ w, (Op.eqFields 9999 xs ys (f :: fs)).run P w = .ok r w) /\ K r := by
     intro r ha he hh
     obtain ⟨r', h1, h2⟩ := gT fs xs ys _ hh
     refine ⟨r && r', fun w => ?_, h2⟩
     simp only [Op.eqFields, hn, ne_eq, not_false_eq_true, if_true, Sem.run_bind, part, ha, Result.andThen_ok, Bool.false_eq_true, if_false, hx, hy, Sem.run_pure, he]
     cases r with
     | false => simp
     | true => simpa using h1 w
    have e9 : ∀ x y, Op.equalIn 9999 f.type x y = Op.equalIn (9998 + 1) f.type x y := fun _ _ => rfl
    unfold eqCell at h
    split at h
    ·rename_i k x k' y
     split at h
     ·rename_i hkk; subst hkk
      unfold basicT nY at hk
      split at hk <;> first | (cases hk; done) | skip
      rename_i kk hu
      refine step _ (fun w => ?_) (fun w => ?_) h
      ·simp [isAgg, ag hu]
      ·rw [e9, Op.equalIn]; simp [ag hu]; rfl
     ·exact h.elim
    ·rename_i x y
     unfold basicT nY at hk
     split at hk <;> first | (cases hk; done) | skip
     rename_i hu
     refine step _ (fun w => ?_) (fun w => ?_) h
     ·simp [isAgg, ag hu]
     ·rw [e9, Op.equalIn]; simp [ag hu]
    ·rename_i x y
     unfold basicT nY at hk
     split at hk <;> first | (cases hk; done) | skip
     rename_i hu
     refine step _ (fun w => ?_) (fun w => ?_) h
     ·simp [isAgg, ag hu]
     ·rw [e9, Op.equalIn]; simp only [Sem.run_bind, ag hu, Result.andThen_ok, Sem.run_pure, beq_toListBytes, ByteArray.toList_eq, lU]
    ·exact h.elim
   ·exact h.elim
  ·exact h.elim
theorem qB {P : Program} {op : BinOp} {t t2 : TypeId} {ox oy : Operand} {wr : Bool} {K : Value -> Prop} {o : Oper} {ρ : Operand -> Value}
  (ho : o.op = .binOp op t ox oy t2) (hy : ∀ v, oy = .const v -> ρ oy = v) (h : binK P op t ox oy (ρ ox) (ρ oy) wr K) : ∃ v, Yields P o ρ v /\ K v := by
 have key : ∀ v, (∀ w, (eqGuard op t ox oy (ρ ox) (ρ oy)).run P w = .ok () w) -> (∀ w, (binOp op t (ρ ox) (ρ oy)).run P w = .ok v w) -> Yields P o ρ v := by
  intro v hg hv w
  simp only [execOp, ho, Sem.run_bind, hg, hv, Result.andThen_ok, Sem.run_pure]
 have hgI : ∀ w, oy = .const .nilIface -> isI (ρ ox) -> (eqGuard op t ox oy (ρ ox) (ρ oy)).run P w = .ok () w := by
  intro w h1 h2
  have h3 := hy _ h1
  rw [h3, h1]
  cases hx : ρ ox <;> simp [hx, isI] at h2
  ·rw [eqGuard_at_iface]; rfl
  ·rw [eqGuard_nil_constR]; rfl
 unfold binK at h
 split at h
 ·split at h
  ·rename_i ms hu
   obtain ⟨h1, h2⟩ := h
   have h3 := hy _ rfl
   refine ⟨_, key _ (fun w => hgI w rfl h1) (fun w => ?_), h2⟩
   rw [h3]
   have e := ia hu (ρ ox) h1 w
   cases hx : ρ ox <;> simp [hx, isI] at h1 <;> rw [hx] at e <;> simp only [binOp, Sem.run_bind, e, Result.andThen_ok, Sem.run_pure, eqV]
  ·exact h.elim
 ·split at h
  ·rename_i ms hu
   obtain ⟨h1, h2⟩ := h
   have h3 := hy _ rfl
   refine ⟨_, key _ (fun w => hgI w rfl h1) (fun w => ?_), h2⟩
   rw [h3]
   have e := ia hu (ρ ox) h1 w
   cases hx : ρ ox <;> simp [hx, isI] at h1 <;> rw [hx] at e <;> simp only [binOp, Sem.run_bind, e, Result.andThen_ok, Sem.run_pure, eqV]
  ·exact h.elim
 ·split at h
  ·rename_i hx hy'
   obtain ⟨v, h1, h2⟩ := nX P t h
   refine ⟨v, key _ (fun w => ?_) (fun w => ?_), h2⟩
   ·rw [hx, eqGuard_at_int]; rfl
   ·rw [hx, hy', h1]
  ·rename_i hx hy'
   obtain ⟨v, h1, h2⟩ := qA P t h
   refine ⟨v, key _ (fun w => ?_) (fun w => ?_), h2⟩
   ·rw [hx, eqGuard_at_string]; rfl
   ·rw [hx, hy', h1]
  ·rename_i hx hy'
   split at h
   ·have hu := ‹P.underlying t = some (.bool)›
    refine ⟨_, key _ (fun w => by rw [hx, eqGuard_at_bool]; rfl) (fun w => ?_), h⟩
    rw [hx, hy']; simp only [binOp, Sem.run_bind, jC hu, Result.andThen_ok, Sem.run_pure, eqV]
   ·have hu := ‹P.underlying t = some (.bool)›
    refine ⟨_, key _ (fun w => by rw [hx, eqGuard_at_bool]; rfl) (fun w => ?_), h⟩
    rw [hx, hy']; simp only [binOp, Sem.run_bind, jC hu, Result.andThen_ok, Sem.run_pure, eqV]
   ·exact h.elim
  ·rename_i hx hy'
   split at h
   ·have hu := ‹P.underlying t = some (.pointer _)›
    refine ⟨_, key _ (fun w => by rw [hx, eqGuard_at_pointer]; rfl) (fun w => ?_), h⟩
    rw [hx, hy']; simp only [binOp, Sem.run_bind, kK hu, Result.andThen_ok, Sem.run_pure, eqV]
   ·have hu := ‹P.underlying t = some (.pointer _)›
    refine ⟨_, key _ (fun w => by rw [hx, eqGuard_at_pointer]; rfl) (fun w => ?_), h⟩
    rw [hx, hy']; simp only [binOp, Sem.run_bind, kK hu, Result.andThen_ok, Sem.run_pure, eqV]
   ·exact h.elim
  ·rename_i hx hy'
   split at h
   ·have hu := ‹P.underlying t = some (.map _ _)›
    refine ⟨_, key _ (fun w => by rw [hx, eqGuard_at_map]; rfl) (fun w => ?_), h⟩
    rw [hx, hy']; simp only [binOp, Sem.run_bind, kL hu, Result.andThen_ok, Sem.run_pure, eqV]
   ·have hu := ‹P.underlying t = some (.map _ _)›
    refine ⟨_, key _ (fun w => by rw [hx, eqGuard_at_map]; rfl) (fun w => ?_), h⟩
    rw [hx, hy']; simp only [binOp, Sem.run_bind, kL hu, Result.andThen_ok, Sem.run_pure, eqV]
   ·exact h.elim
  ·rename_i hx hy'
   split at h
   ·have hu := ‹P.underlying t = some (.slice _)›
    refine ⟨_, key _ (fun w => by rw [hx, eqGuard_at_slice]; rfl) (fun w => ?_), h⟩
    rw [hx, hy']; simp only [binOp, Sem.run_bind, iV hu, Result.andThen_ok, Sem.run_pure, eqV]
   ·have hu := ‹P.underlying t = some (.slice _)›
    refine ⟨_, key _ (fun w => by rw [hx, eqGuard_at_slice]; rfl) (fun w => ?_), h⟩
    rw [hx, hy']; simp only [binOp, Sem.run_bind, iV hu, Result.andThen_ok, Sem.run_pure, eqV]
   ·exact h.elim
  ·rename_i xs ys hx hy'
   unfold aggEqK at h
   split at h
   ·rename_i fs hu
    have hfs : P.fieldsOf t = fs := by simp [Program.fieldsOf, hu]
    split at h
    ·have h1 := ‹P.stoodInHeld t = false›
     have h2 := ‹P.eqGuardType P.depth t = false›
     obtain ⟨r, h3, h4⟩ := gT fs.toList xs ys _ h
     have he : ∀ w, (Op.equal t (.agg xs) (.agg ys)).run P w = .ok r w := fun w => by
      rw [dA, run_equalIn_struct w 9999 t xs ys (by rw [hfs]; exact hu) h1, hfs]; exact h3 w
     refine ⟨_, key _ (fun w => ?_) (fun w => ?_), h4⟩
     ·rw [hx, hy']; simp only [eqGuard, Bool.not_true, Bool.false_eq_true, if_false, Sem.run_bind, run_program, Result.andThen_ok, h2, Bool.not_false, if_true]; rfl
     ·rw [hx, hy']; simp only [binOp, Sem.run_bind, he, Result.andThen_ok, Sem.run_pure, eqV]
    ·have h1 := ‹P.stoodInHeld t = false›
     have h2 := ‹P.eqGuardType P.depth t = false›
     obtain ⟨r, h3, h4⟩ := gT fs.toList xs ys _ h
     have he : ∀ w, (Op.equal t (.agg xs) (.agg ys)).run P w = .ok r w := fun w => by
      rw [dA, run_equalIn_struct w 9999 t xs ys (by rw [hfs]; exact hu) h1, hfs]; exact h3 w
     refine ⟨_, key _ (fun w => ?_) (fun w => ?_), h4⟩
     ·rw [hx, hy']; simp only [eqGuard, Bool.not_true, Bool.false_eq_true, if_false, Sem.run_bind, run_program, Result.andThen_ok, h2, Bool.not_false, if_true]; rfl
     ·rw [hx, hy']; simp only [binOp, Sem.run_bind, he, Result.andThen_ok, Sem.run_pure, eqV]
    ·exact h.elim
   ·exact h.elim
  ·exact h.elim
end Go.D

