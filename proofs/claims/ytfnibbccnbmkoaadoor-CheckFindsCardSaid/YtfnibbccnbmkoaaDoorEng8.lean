/-
  WHAT IS PROVED: the engine: verification conditions of the code, with their soundness. No further conditions.
-/
import Derived.Test.YtfnibbccnbmkoaaDoorEng7
set_option linter.unusedSimpArgs false
namespace Go.D
open Go
set_option linter.unusedVariables false
def cls (P : Program) : Op -> Nat
  | .load _ _ => 1
  | .lookup _ _ _ _ => 1
  | .convert s d _ =>
    (match P.underlying s, P.underlying d with
     | some (.slice _), some .string => 1
     | some .string, some (.slice _) => 2
     | some (.slice _), some (.slice _) => 2
     | _, _ => 0)
  | .call c =>
    (match c.callee with
     | .builtin .len => (match c.argTypes.toList with
        | t :: _ => (match P.underlying t with | some (.map _ _) => 1 | _ => 0)
        | [] => 0)
     | .builtin .cap => 0
     | .builtin .min => 0
     | .builtin .max => 0
     | _ => 2)
  | .alloc _ => 2
  | .box _ _ => 2
  | .buildSlice _ _ _ => 2
  | .makeSlice _ _ _ => 2
  | .makeMap _ _ => 2
  | .store _ _ _ => 2
  | .mapUpdate _ _ _ _ => 2
  | .insert _ _ _ _ => 2
  | .mapEntry _ _ _ => 2
  | .entryStore _ _ _ _ => 2
  | .range _ _ => 2
  | .next _ _ => 2
  | .entry _ => 2
  | .go _ => 2
  | .defer _ => 2
  | .panic _ => 2
  | .send _ _ => 2
  | .recv _ _ _ => 2
  | .select _ _ => 2
  | .ready _ => 2
  | .waits _ => 2
  | _ => 0
def l7 (fs : Array Field) (i : Nat) : Option (TypeId × Nat) := (fs[i]?).map fun f => (f.type, f.offset)
def lu (P : Program) (fs : List Field) : Bool := fs.all fun f => (fX P f.type).isSome
def buildK (P : Program) (t : TypeId) (parts : List (Nat × Value)) (K : Value -> Prop) : Prop :=
 match P.underlying t, zeroOf P t with
 | some (.struct fs), some z => (match lu P fs.toList with
   | true => fillK P (l7 fs) parts z fun cs => K (.agg ⟨cs⟩)
   | false => False)
 | some (.array _ e), some z => (match fX P e with
   | some n => fillK P (fun i => some (e, i * n)) parts z fun cs => K (.agg ⟨cs⟩)
   | none => False)
 | _, _ => False
theorem run_places {P : Program} : ∀ (fs : List Field), lu P fs = true -> ∃ pl : List (Nat × Nat),
  (∀ w, (fs.mapM (fun f => do pure (f.offset, <- sizeOf f.type)) : Sem (List (Nat × Nat))).run P w = .ok pl w) /\
  ∀ (i : Nat) f n, fs[i]? = some f -> fX P f.type = some n -> pl[i]? = some (f.offset, n)
 | [], _ => ⟨[], fun w => by simp, fun i f n h => by simp at h⟩
 | f :: r, h => by
  simp only [lu, List.all_cons, Bool.and_eq_true] at h
  obtain ⟨n, hn⟩ := Option.isSome_iff_exists.1 h.1
  obtain ⟨pl, h1, h2⟩ := run_places r h.2
  refine ⟨(f.offset, n) :: pl, fun w => ?_, fun i g m hg hm => ?_⟩
  ·simp only [List.mapM_cons, Sem.run_bind, a9 hn, Result.andThen_ok, Sem.run_pure]
   have := h1 w
   erw [this]
   rfl
  ·cases i with
   | zero => simp at hg; subst hg; rw [hn] at hm; cases hm; rfl
   | succ i => exact h2 i g m (by simpa using hg) hm
theorem oL {P : Program} {t : TypeId} {parts : Array (Nat × Value)} {K : Value -> Prop} (h : buildK P t parts.toList K) :
  ∃ v, (∀ w, (Instr.build t parts).run P w = .ok v w) /\ K v := by
 unfold buildK at h
 split at h
 ·rename_i fs z hu hz
  split at h
  ·rename_i hs
   obtain ⟨pl, h1, h2⟩ := run_places fs.toList hs
   obtain ⟨cs, hf, h⟩ := ic (pl := fun i => pl[i]?) (fun i t off n h3 h4 => by
    unfold l7 at h3
    cases hfi : fs[i]? with
    | none => simp [hfi] at h3
    | some f =>
     simp only [hfi, Option.map_some, Option.some.injEq, Prod.mk.injEq] at h3
     obtain ⟨rfl, rfl⟩ := h3
     exact h2 i f n (by simpa using hfi) h4) h
   refine ⟨_, fun w => ?_, h⟩
   obtain ⟨v, hv, hvc⟩ := cv hz w
   have h3 := h1 w
   have h4 : (fs.mapM (fun f => do pure (f.offset, <- sizeOf f.type)) : Sem (Array (Nat × Nat))).run P w = .ok pl.toArray w := by
    rw [Array.mapM_eq_mapM_toList]
    simp only [Sem.run_map]
    rw [h3]; rfl
   simp only [Instr.build, Sem.run_bind, hv, Result.andThen_ok, ag hu, hvc]
   erw [h4]
   simp only [Result.andThen_ok]
   have e : (fun (i : Nat) => pl.toArray[i]?) = fun i => pl[i]? := by funext i; simp
   rw [e, hf]
   rfl
  ·exact h.elim
 ·rename_i len e z hu hz
  split at h
  ·rename_i n hn
   obtain ⟨cs, hf, h⟩ := ic (pl := fun i => some (i * n, n)) (fun i t off m h3 h4 => by
    simp only [Option.some.injEq, Prod.mk.injEq] at h3
    obtain ⟨rfl, rfl⟩ := h3
    rw [hn] at h4; cases h4; rfl) h
   refine ⟨_, fun w => ?_, h⟩
   obtain ⟨v, hv, hvc⟩ := cv hz w
   simp only [Instr.build, Sem.run_bind, hv, Result.andThen_ok, ag hu, hvc, a9 hn, hf, Sem.run_pure]
  ·exact h.elim
 ·exact h.elim
def asrtK (P : Program) (x : Value) (T : TypeId) (ok : Bool) (K : Value -> Prop) : Prop :=
  match P.underlying T with
  | some (.interface _) => False
  | some _ =>
    (match ok with
     | true => exTyA P T (fun v => x = .iface T v /\ K (.tuple #[v, .bool true])) \/
         (qH x T /\ (match zeroV P T with | some z => K (.tuple #[z, .bool false]) | none => False))
     | false => exTyA P T fun v => x = .iface T v /\ K v)
  | none => False
where
 qH (x : Value) (T : TypeId) : Prop := x = .nilIface \/ ∃ t v, x = .iface t v /\ t ≠ T
 exTyA (P : Program) (t : TypeId) (K : Value -> Prop) : Prop :=
  match isAggT P t with
  | true => (match iM P 12 t with | some shs => exV shs (fun vs => K (.agg ⟨vs⟩)) | none => False)
  | false => (match ky P t with | some s => ∃ x : s.T, K (s.v x) | none => False)
theorem l8 {P : Program} {t : TypeId} {K : Value -> Prop} (h : asrtK.exTyA P t K) : ∃ v, K v := by
 unfold asrtK.exTyA at h
 split at h
 ·split at h
  ·obtain ⟨vs, h⟩ := jt h; exact ⟨_, h⟩
  ·exact h.elim
 ·split at h
  ·obtain ⟨x, h⟩ := h; exact ⟨_, h⟩
  ·exact h.elim
theorem pK {P : Program} {x : Value} {xT T : TypeId} {ok : Bool} {K : Value -> Prop} (h : asrtK P x T ok K) : ∃ v, (∀ w, (Instr.typeAssert x xT T ok).run P w = .ok v w) /\ K v := by
 unfold asrtK at h
 split at h
 ·exact h.elim
 ·rename_i d hd hu
  have hit : ∀ v w, (Instr.typeAssert (.iface T v) xT T ok).run P w = .ok (if ok then .tuple #[v, .bool true] else v) w := by
   intro v w
   simp only [Instr.typeAssert, Sem.run_bind, ag hu, Result.andThen_ok]
   cases d <;> first | (exact absurd rfl (hd _)) | simp
  split at h
  ·rcases h with h | ⟨ho, h⟩
   ·obtain ⟨v, rfl, hk⟩ := l8 h
    exact ⟨_, hit v, hk⟩
   ·split at h
    ·rename_i z hz
     refine ⟨_, fun w => ?_, h⟩
     rcases ho with rfl | ⟨t, v, rfl, hne⟩
     ·simp only [Instr.typeAssert, Sem.run_bind, ag hu, Result.andThen_ok]
      cases d <;> first | (exact absurd rfl (hd _)) | simp [er hz]
     ·simp only [Instr.typeAssert, Sem.run_bind, ag hu, Result.andThen_ok]
      cases d <;> first | (exact absurd rfl (hd _)) | simp [er hz, hne]
    ·exact h.elim
  ·obtain ⟨v, rfl, hk⟩ := l8 h
   exact ⟨_, hit v, hk⟩
 ·exact h.elim
def rP (t : Bool) (a b : Value) : Value := match t with | true => a | false => b
def rn (P : Program) (ty : TypeId) (u : Value) (K : Value -> Prop) : Prop :=
 match isAggT P ty with
 | true => K u
 | false => (match ky P ty with | some s => s.dec u (fun x => K (s.v x)) | none => K u)
def extK (P : Program) (ty : TypeId) (v : Value) (i : Nat) (K : Value -> Prop) : Prop :=
 match v with
 | .tuple vs => (match vs[i]? with | some u => rn P ty u K | none => False)
 | _ => False
theorem qI {P : Program} {ty : TypeId} {u : Value} {K : Value -> Prop} (h : rn P ty u K) : K u := by
 unfold rn at h
 split at h
 ·exact h
 ·split at h
  ·obtain ⟨x, rfl, hk⟩ := Sh.ln h; exact hk
  ·exact h
theorem qJ {P : Program} {ty : TypeId} {v : Value} {i : Nat} {K : Value -> Prop} (h : extK P ty v i K) : ∃ u, (∀ w, (Instr.extract v i).run P w = .ok u w) /\ K u := by
 unfold extK at h
 split at h
 ·rename_i vs
  split at h
  ·rename_i u hu
   exact ⟨u, fun w => by simp [Instr.extract, hu], qI h⟩
  ·exact h.elim
 ·exact h.elim
def pureK (P : Program) (wr : Bool) (o : Oper) (ρ : Operand -> Value) (K : Value -> Prop) : Prop :=
 match o.op with
 | .move x => K (ρ x)
 | .assign x => K (ρ x)
 | .pick c a b => (match ρ c with | .bool t => K (rP t (ρ a) (ρ b)) | _ => False)
 | .nilCheck x => (match ρ x with
   | .pointer p => needSome p fun a => K (.pointer (some a))
   | _ => nextK (pureRun P (execOp ρ o)) K)
 | .binOp op t x y _ => binK P op t x y (ρ x) (ρ y) wr K
 | .unOp op _ x => (match op with
   | .neg => negK (ρ x) wr K
   | .xor => rl (ρ x) K
   | .not => (match ρ x with | .bool b => K (.bool (!b)) | _ => False)
   | _ => nextK (pureRun P (execOp ρ o)) K)
 | .convert s d x => convK P s d (ρ x) wr K
 | .slice t x lo hi mx => sliceK P t (ρ x) (lo.map ρ) (hi.map ρ) (mx.map ρ) K
 | .indexAddr t x i => idxK P t (ρ x) (ρ i) K
 | .index t x i => chK P t (ρ x) (ρ i) K
 | .build t parts => buildK P t (parts.map fun (i, x) => (i, ρ x)).toList K
 | .typeAssert x _ T ok => asrtK P (ρ x) T ok K
 | .extract x i => extK P o.type (ρ x) i K
 | _ => nextK (pureRun P (execOp ρ o)) K
theorem l9 {P : Program} {wr : Bool} {o : Oper} {ρ : Operand -> Value} {K : Value -> Prop} (hρ : ∀ v, ρ (.const v) = v) (h : pureK P wr o ρ K) : ∃ v, Yields P o ρ v /\ K v := by
 unfold pureK at h
 split at h
 ·rename_i ho; exact ⟨_, fun w => by simp [execOp, ho], h⟩
 ·rename_i ho; exact ⟨_, fun w => by simp [execOp, ho], h⟩
 ·rename_i ho
  split at h
  ·rename_i t ht
   refine ⟨_, fun w => ?_, h⟩
   simp only [execOp, ho, ht, asBool, Sem.run_bind, Sem.run_pure, Result.andThen_ok]
   cases t <;> rfl
  ·exact h.elim
 ·rename_i x ho
  split at h
  ·rename_i p hp
   obtain ⟨a, rfl, h⟩ := dL h
   refine ⟨_, fun w => ?_, h⟩
   simp [execOp, ho, hp]
  ·exact jB h
 ·rename_i ho
  exact qB ho (fun v hv => by rw [hv]; exact hρ v) h
 ·rename_i op t x ho
  split at h
  ·obtain ⟨v, h1, h2⟩ := qD (P := P) h
   exact ⟨v, fun w => by simp [execOp, ho, h1], h2⟩
  ·obtain ⟨v, h1, h2⟩ := qE (P := P) h
   exact ⟨v, fun w => by simp [execOp, ho, h1], h2⟩
  ·split at h
   ·rename_i b hb
    exact ⟨_, fun w => by simp [execOp, ho, hb, Op.unary], h⟩
   ·exact h.elim
  ·exact jB h
 ·rename_i ho
  obtain ⟨v, h1, h2⟩ := pB h
  exact ⟨v, fun w => by simp [execOp, ho, h1], h2⟩
 ·rename_i ho
  obtain ⟨v, h1, h2⟩ := oE h
  exact ⟨v, fun w => by simp [execOp, ho, h1], h2⟩
 ·rename_i ho
  obtain ⟨v, h1, h2⟩ := qC h
  exact ⟨v, fun w => by simp [execOp, ho, h1], h2⟩
 ·rename_i ho
  obtain ⟨v, h1, h2⟩ := rk h
  exact ⟨v, fun w => by have := h1 w; simp only [execOp, ho]; exact this, h2⟩
 ·rename_i ho
  obtain ⟨v, h1, h2⟩ := oL h
  exact ⟨v, fun w => by simp only [execOp, ho, Sem.run_bind, h1, Result.andThen_ok, Sem.run_pure], h2⟩
 ·rename_i x xT T ok ho
  obtain ⟨v, h1, h2⟩ := pK (xT := xT) h
  exact ⟨v, fun w => by simp only [execOp, ho, Sem.run_bind, h1, Result.andThen_ok, Sem.run_pure], h2⟩
 ·rename_i x i ho
  obtain ⟨v, h1, h2⟩ := qJ h
  exact ⟨v, fun w => by simp only [execOp, ho, Sem.run_bind, h1, Result.andThen_ok, Sem.run_pure], h2⟩
 ·exact jB h
def isU8 (P : Program) (t : TypeId) : Bool :=
 match P.underlying t with
 | some (.slice e) => (match P.underlying e with | some (.int .u8) => true | _ => false)
 | _ => false
def isStr (P : Program) (t : TypeId) : Bool := match P.underlying t with | some .string => true | _ => false
def readK (P : Program) (o : Oper) (ρ : Operand -> Value) (w : World) (K : Value -> Prop) : Prop :=
 match o.op with
 | .load t a => loadK P t (ρ a) w K
 | .lookup t m k ok => lookK P t (ρ m) (ρ k) ok w K
 | .convert s d x => (match isU8 P s, isStr P d, ρ x with
   | true, true, .slice p l c => rN w ⟨p, l, c⟩ K
   | _, _, _ => False)
 | .call c => (match c.callee with
   | .builtin .len => lenMapK P c.argTypes.toList (c.args.map ρ).toList w K
   | _ => False)
 | _ => False
theorem mb {P : Program} {o : Oper} {ρ : Operand -> Value} {w : World} {K : Value -> Prop} (h : readK P o ρ w K) : ∃ v, (execOp ρ o).run P w = .ok (.value v) w /\ K v := by
 unfold readK at h
 split at h
 ·rename_i ho
  obtain ⟨v, h1, h2⟩ := lV h
  exact ⟨v, by simp [execOp, ho, h1], h2⟩
 ·rename_i ho
  obtain ⟨v, h1, h2⟩ := pH h
  exact ⟨v, by simp [execOp, ho, h1], h2⟩
 ·rename_i s d x ho
  split at h
  ·rename_i p l c h1 h2 hx
   obtain ⟨v, h3, h4⟩ := qF (P := P) h
   refine ⟨v, ?_, h4⟩
   unfold isU8 at h1
   unfold isStr at h2
   split at h1
   ·rename_i e hs
    split at h1
    ·rename_i he
     split at h2
     ·rename_i hd
      simp only [Slc.v] at h3
      simp [execOp, ho, convert, ag hs, ag hd, ag he, hx, h3]
     ·cases h2
    ·cases h1
   ·cases h1
  ·exact h.elim
 ·rename_i c ho
  split at h
  ·rename_i hc
   obtain ⟨v, h1, h2⟩ := ns (ty := o.type) h
   refine ⟨v, ?_, h2⟩
   simp only [execOp, ho, resolve, hc, Sem.run_bind, Sem.run_pure, Result.andThen_ok, invoke, builtin, h1]
  ·exact h.elim
 ·exact h.elim
def pL (P : Program) (t : TypeId) (K : Value -> Prop) : Prop :=
 match isAggT P t with
 | true => (match iM P 12 t with | some shs => exV shs (fun vs => K (.agg ⟨vs⟩)) | none => False)
 | false => (match ky P t with | some s => ∃ x : s.T, K (s.v x) | none => False)
def pM (P : Program) : List TypeId -> (List Value -> Prop) -> Prop
 | [], K => K []
 | t :: r, K => pL P t fun v => pM P r fun vs => K (v :: vs)
def exTys (P : Program) (ts : List TypeId) (K : Value -> Prop) : Prop :=
 match ts with
 | [] => K (.tuple #[])
 | [t] => pL P t K
 | ts => pM P ts fun vs => K (.tuple ⟨vs⟩)
theorem lv {P : Program} {t : TypeId} {K : Value -> Prop} (h : pL P t K) : ∃ v, K v := by
 unfold pL at h
 split at h
 ·split at h
  ·obtain ⟨vs, h⟩ := jt h; exact ⟨_, h⟩
  ·exact h.elim
 ·split at h
  ·obtain ⟨x, h⟩ := h; exact ⟨_, h⟩
  ·exact h.elim
theorem mc {P : Program} : ∀ {ts : List TypeId} {K : List Value -> Prop}, pM P ts K -> ∃ vs, K vs
 | [], _, h => ⟨[], h⟩
 | t :: r, _, h => let ⟨v, h⟩ := lv h; let ⟨vs, h⟩ := mc h; ⟨v :: vs, h⟩
theorem me {P : Program} {ts : List TypeId} {K : Value -> Prop} (h : exTys P ts K) : ∃ v, K v := by
 unfold exTys at h
 split at h
 ·exact ⟨_, h⟩
 ·exact lv h
 ·obtain ⟨vs, h⟩ := mc h; exact ⟨_, h⟩
def callK (P : Program) (L : Nat -> Bool) (g : FuncId) (args : Array Value) (w : World) (K : Value -> World -> Prop) : Prop :=
 match L g, P.funcs[g]? with
 | true, some fn => Calls P g args w fun e w' => exTys P fn.resultTypes.toList fun v => e = .returned v /\ K v w'
 | _, _ => False
def markW (w : World) (b : Nat) : World := match w.shape? b with | some (_, n) => w.freeze ⟨b, n, none⟩ 1 | none => w
theorem run_mark {P : Program} (a : Addr) (w : World) : (markStringish a).run P w = .ok () (markW w a.block) := by
 simp only [markStringish, Sem.run_bind, run_shape, Result.andThen_ok, markW]
 cases h : w.shape? a.block with
 | none => rfl
 | some x => rfl
def gi (z : List Value) (w : World) (s : Slc) (K : World -> Prop) : Prop :=
 match s.p with
 | none => ∀ w1, w1 = w -> K w1
 | some a => aw w a (s.l * z.length) /\ ∀ w1, w1 = setCells w a 0 (bt s.l z) -> K w1
def clearK (P : Program) (ts : List TypeId) (args : List Value) (w : World) (K : Value -> World -> Prop) : Prop :=
  match ts, args with
  | [t0], [.slice p l c] =>
    (match sliceT P t0 with
     | some e => (match zeroOf P e with
        | some z => jE z (gi z w ⟨p, l, c⟩ fun w' => K (.tuple #[]) w')
        | none => False)
     | none => False)
  | _, _ => False
theorem oM {P : Program} {ts : Array TypeId} {ty : TypeId} {args : Array Value} {w : World} {K : Value -> World -> Prop} (h : clearK P ts.toList args.toList w K) :
  ∃ v w', (Builtin.clear_ ts ty args).run P w = .ok v w' /\ K v w' := by
 obtain ⟨ts⟩ := ts
 obtain ⟨args⟩ := args
 simp only at h
 unfold clearK at h
 split at h
 ·rename_i t0 p l c
  split at h
  ·rename_i e h0
   split at h
   ·rename_i z hz
    obtain ⟨hone, h⟩ := gF h
    have hu0 : P.underlying t0 = some (.slice e) := by
     unfold sliceT at h0
     split at h0
     ·rename_i hu; simp only [Option.some.injEq] at h0; subst h0; exact hu
     ·cases h0
    unfold gi at h
    cases p with
    | none =>
     refine ⟨_, _, ?_, h _ rfl⟩
     simp only [Builtin.clear_, List.getElem?_toArray, List.getElem?_cons_zero, Sem.run_bind, ag hu0, Result.andThen_ok, Sem.run_pure]
    | some a =>
     obtain ⟨hw, hk⟩ := h
     refine ⟨_, _, ?_, hk _ rfl⟩
     obtain ⟨zv, hzv, hzc⟩ := cv hz w
     have hmem : ∀ v ∈ bt l z, v.oneCell' = true := by
      intro v hv
      rw [bt] at hv
      obtain ⟨y, hy, hv⟩ := List.mem_flatten.1 hv
      rw [(List.mem_replicate.1 hy).2] at hv
      exact hone v hv
     have hst : (storeCells a (bt l z)).run P w = .ok () (setCells w a 0 (bt l z)) :=
      cT (bt l z) 0 w hmem (fun j hj => by rw [Nat.zero_add]; exact hw j (by rw [dM] at hj; exact hj))
     have hrest : Builtin.zeroCells ⟨z⟩ l = ⟨bt l z⟩ := by
      unfold Builtin.zeroCells
      exact dB _ ⟨z⟩ _ rfl
     cases l with
     | zero =>
      simp only [Builtin.clear_, List.getElem?_toArray, List.getElem?_cons_zero, Sem.run_bind, ag hu0, Result.andThen_ok, Sem.run_pure]
      rfl
     | succ m =>
      simp only [Builtin.clear_, List.getElem?_toArray, List.getElem?_cons_zero, Sem.run_bind, ag hu0, Result.andThen_ok, hzv, hzc, hrest, hst, Sem.run_pure]
   ·exact h.elim
  ·exact h.elim
 ·exact h.elim
def isClone (P : Program) (g : FuncId) : Bool :=
 match P.funcs[g]? with
 | some fn => fn.body.isNone && (fn.name == "maps.clone" && (Extern.findNext fn).isNone)
 | none => false
theorem iO : (Extern.allGenericRows.lookup "maps.clone").isNone = true /\ (Extern.allTypedRows.lookup "maps.clone").isNone = true /\ Extern.allRows.lookup "maps.clone" = some Extern.MapsClone.clone := ⟨by decide +kernel, by decide +kernel, by rfl⟩
def cloneK (args : List Value) (w : World) (K : Value -> World -> Prop) : Prop :=
 match args with
 | [.iface t (.map m)] => ∃ (r : Nat) (es : Array MapEntry) (ck : Nat), m = some r /\ w.heap[r]? = some (.map es ck) /\ aK w (.map es ck) fun r' w1 => K (.iface t (.map (some r'))) w1
 | _ => False
theorem run_mapsClone {P : Program} {w : World} {r : Nat} {es : Array MapEntry} {clock : Nat} (t : TypeId) (hb : w.heap[r]? = some (.map es clock)) :
  (Extern.MapsClone.clone #[.iface t (.map (some r))]).run P w = .ok (.iface t (.map (some w.heap.size))) (w.alloc (.map es clock)) := by
 have e : Extern.MapsClone.clone #[.iface t (.map (some r))] = (getObj r >>= fun o => match o with
   | .map entries clock => (newObj (.map entries clock) >>= fun n => pure (.iface t (.map (some n))))
   | _ => stuck "maps.clone: a map expected") := rfl
 rw [e]
 have hg : (getObj r).run P w = .ok (.map es clock) w := by simp [getObj, Sem.run, hb]
 simp only [Sem.run_bind, hg, Result.andThen_ok, run_newObj, Sem.run_pure]
 rfl
theorem oN {P : Program} {g : FuncId} {args : Array Value} {w : World} {K : Value -> World -> Prop} (hg : isClone P g = true) (h : cloneK args.toList w K) :
  ∃ v w', (callFunc g args).run P w = .ok (.value v) w' /\ K v w' := by
 unfold isClone at hg
 split at hg
 ·rename_i fn hf
  simp only [Bool.and_eq_true, beq_iff_eq] at hg
  obtain ⟨hb, hn, hx⟩ := hg
  have hb' : fn.body = none := by simpa using hb
  have hx' : Extern.findNext fn = none := by simpa using hx
  have hfind : Extern.find fn = some Extern.MapsClone.clone := by
   have h1 : Extern.allGenericRows.lookup "maps.clone" = none := by simpa using iO.1
   have h2 : Extern.allTypedRows.lookup "maps.clone" = none := by simpa using iO.2.1
   unfold Extern.find
   simp only [hn, h1, h2, iO.2.2, Option.map_none]
   rfl
  obtain ⟨args⟩ := args
  simp only at h
  unfold cloneK at h
  split at h
  ·rename_i t m
   obtain ⟨r, es, ck, rfl, hw, h⟩ := h
   refine ⟨_, _, ?_, h _ _ rfl rfl⟩
   have hnn : fn.name ≠ "runtime.NumGoroutine" := by rw [hn]; decide
   have := run_mapsClone (P := P) t hw
   simp [callFunc, hf, hnn, hb', hx', hfind, mark, Sem.run, this]
  ·exact h.elim
 ·cases hg
def exTyO (P : Program) (t : TypeId) (K : Value -> Prop) : Prop :=
 match P.underlying t with
 | some (.tuple ts) => exTys P ts.toList K
 | _ => pL P t K
theorem pN {P : Program} {t : TypeId} {K : Value -> Prop} (h : exTyO P t K) : ∃ v, K v := by
 unfold exTyO at h
 split at h
 ·exact me h
 ·exact lv h
def rX (P : Program) (L : Nat -> Bool) (x : Value) (name : String) (args : List Value) (ty : TypeId) (w : World) (K : Value -> World -> Prop) : Prop :=
 ∃ (t : TypeId) (v rv : Value) (g : Nat), x = .iface t v /\ (∀ w : World, (method (P.types.size + Made.depth) t v name).run P w = .ok (g, rv) w) /\ L g = true /\
  Calls P g ⟨rv :: args⟩ w fun e w' => exTyO P ty fun u => e = .returned u /\ K u w'
def rp (b : List UInt8) (i : Nat) : Nat × Nat := Utf8.decode ⟨⟨b⟩⟩ i
def mf (w : World) (r : Nat) (K : Value -> World -> Prop) : Prop :=
 ∃ (s : List UInt8) (pos : Nat), w.heap[r]? = some (.stringIter ⟨⟨s⟩⟩ pos) /\
  rY (decide (pos < s.length)) (∀ w1 : World, w1 = aQ w r (.stringIter ⟨⟨s⟩⟩ (pos + (rp s pos).2)) -> K (.tuple #[.bool true, .int .i64 (pos : Int), .int .i32 ((rp s pos).1 : Int)]) w1)
   (K (.tuple #[.bool false]) w)
where rY (b : Bool) (X Y : Prop) : Prop := match b with | true => X | false => Y
theorem mh {P : Program} {w : World} {r : Nat} {sp : _} {ty : TypeId} {K : Value -> World -> Prop} (h : mf w r K) :
  ∃ v w', (Instr.next (.pointer (some ⟨r, 0, sp⟩)) true ty).run P w = .ok v w' /\ K v w' := by
 obtain ⟨s, pos, hr, h⟩ := h
 have hg : (getObj r).run P w = .ok (.stringIter ⟨⟨s⟩⟩ pos) w := by simp [getObj, Sem.run, hr]
 have hs : ∀ o, (setObj r o).run P w = .ok () (aQ w r o) := fun o => by simp [setObj, Sem.run, hr, aQ]
 have hsz : (ByteArray.mk ⟨s⟩).size = s.length := rfl
 by_cases hp : pos < s.length
 ·rw [decide_eq_true hp] at h
  refine ⟨_, _, ?_, h _ rfl⟩
  simp only [Instr.next, Sem.run_bind, hg, Result.andThen_ok, hsz, hp, if_true, hs, Sem.run_pure, goInt, rp]
 ·rw [decide_eq_false hp] at h
  refine ⟨_, _, ?_, h⟩
  simp only [Instr.next, Sem.run_bind, hg, Result.andThen_ok, hsz, hp, if_false, Sem.run_pure]
theorem jI {P : Program} (n : Nat) (h : 0 < n) (w : World) : ∃ (i : Nat) (w0 : World), (choose (.mapNext n)).run P w = .ok i w0 /\ (w0 = w \/ w0 = w.drew) /\ i < n := by
 by_cases hf : n <= 1
 ·refine ⟨0, w, ?_, .inl rfl, h⟩
  simp [choose, Sem.run, Question.forced, hf]
 ·refine ⟨w.tape w.drawn (.mapNext n) % n, w.drew, ?_, .inr rfl, Nat.mod_lt _ h⟩
  simp only [choose, Sem.run, Question.forced, hf, decide_false, Bool.false_eq_true, if_false, Question.cut]
  rfl
def oh (w : World) (r : Nat) (KT : Value -> Value -> World -> Prop) (KF : Prop) : Prop :=
 (∃ a b c, w.heap[r]? = some (.mapIter none a b c) /\ KF) \/
 ∃ (m since : Nat) (seen : Array Nat) (last : Nat) (es : Array MapEntry) (clock : Nat), w.heap[r]? = some (.mapIter (some m) since seen last) /\ w.heap[m]? = some (.map es clock) /\ since <= last /\ (∀ e ∈ es.toList, e.born < since) /\
  ((∀ e ∈ es.toList, seen.contains e.born = true) -> KF) /\
  (∀ e ∈ es.toList, seen.contains e.born = false -> ∀ w0 w1 : World, (w0 = w \/ w0 = w.drew) -> w1 = aQ w0 r (.mapIter (some m) since (seen.push e.born) clock) -> KT e.key e.val w1)
theorem pO {P : Program} {w : World} {r : Nat} {sp : _} {ty : TypeId} {K : Value -> World -> Prop} (h : oh w r (fun k v w1 => K (.tuple #[.bool true, k, v]) w1) (K (.tuple #[.bool false]) w)) :
  ∃ v w', (Instr.next (.pointer (some ⟨r, 0, sp⟩)) false ty).run P w = .ok v w' /\ K v w' := by
 rcases h with ⟨a, b, c, hr, hk⟩ | ⟨m, since, seen, last, es, clock, hr, hm, hsl, hall, hF, hT⟩
 ·have hg : (getObj r).run P w = .ok (.mapIter none a b c) w := by simp [getObj, Sem.run, hr]
  exact ⟨_, _, by simp only [Instr.next, Sem.run_bind, hg, Result.andThen_ok, Sem.run_pure], hk⟩
 ·have hg : (getObj r).run P w = .ok (.mapIter (some m) since seen last) w := by simp [getObj, Sem.run, hr]
  have hgm : (getObj m).run P w = .ok (.map es clock) w := by simp [getObj, Sem.run, hm]
  have hguard : (!seen.isEmpty && !es.isEmpty && es.all (fun e => decide (e.born ≥ last))) = false := by
   by_cases he : es.isEmpty = true
   ·simp [he]
   ·have hp : 0 < es.size := by
     rcases Nat.eq_zero_or_pos es.size with h0 | h0
     ·exact absurd (by simpa using h0) he
     ·exact h0
    have : es.all (fun e => decide (e.born ≥ last)) = false := by
     rw [Array.all_eq_false]
     refine ⟨0, hp, ?_⟩
     have := hall es[0] (by simp)
     simp; omega
    simp [this]
  have hold : (es.filter fun e => !seen.contains e.born).filter (fun e => decide (e.born < since)) = es.filter fun e => !seen.contains e.born := by
   rw [Array.filter_eq_self]
   intro e he
   have := hall e (by rw [Array.mem_filter] at he; simpa using he.1)
   simp [this]
  have hnew : (es.filter fun e => !seen.contains e.born).filter (fun e => decide (e.born ≥ since)) = #[] := by
   rw [Array.filter_eq_empty_iff]
   intro e he
   have := hall e (by rw [Array.mem_filter] at he; simpa using he.1)
   simp; omega
  generalize hleft : (es.filter fun e => !seen.contains e.born) = left at hold hnew
  have hs : ∀ w0 : World, (w0 = w \/ w0 = w.drew) -> ∀ o, (setObj r o).run P w0 = .ok () (aQ w0 r o) := fun w0 h0 o => by
   have hr0 : w0.heap[r]? = some (.mapIter (some m) since seen last) := by rcases h0 with rfl | rfl <;> exact hr
   simp [setObj, Sem.run, hr0, aQ]
  by_cases hl : left.isEmpty = true
  ·have hl0 : left = #[] := by simpa using hl
   have hseen : ∀ e ∈ es.toList, seen.contains e.born = true := by
    intro e he
    cases hc : seen.contains e.born with
    | true => rfl
    | false =>
     have : e ∈ left := by rw [<- hleft, Array.mem_filter]; exact ⟨by simpa using he, by rw [hc]; rfl⟩
     rw [hl0] at this; simp at this
   refine ⟨_, _, ?_, hF hseen⟩
   simp only [Instr.next, Sem.run_bind, hg, hgm, Result.andThen_ok, hguard, hleft, hold, hnew, hl0]
   simp [choose, Sem.run, Question.forced]
  ·have hp : 0 < left.size := by
    rcases Nat.eq_zero_or_pos left.size with h0 | h0
    ·exact absurd (by simpa using h0) hl
    ·exact h0
   have hcand : ((if left.isEmpty = true then #[none] else #[]) ++ (left ++ #[]).map some : Array (Option MapEntry)) = left.map some := by
    rw [if_neg hl]; simp
   obtain ⟨i, w0, hc, hw0, hi⟩ := jI (P := P) left.size hp w
   have hmem' : ∀ e ∈ left, e ∈ es.toList /\ seen.contains e.born = false := by
    intro e he
    rw [<- hleft, Array.mem_filter] at he
    exact ⟨by simpa using he.1, by simpa using he.2⟩
   have hmem := hmem' left[i] (by simp)
   refine ⟨_, _, ?_, hT left[i] hmem.1 hmem.2 w0 _ hw0 rfl⟩
   simp only [Instr.next, Sem.run_bind, hg, hgm, Result.andThen_ok, hguard, hleft, hold, hnew, hcand, Bool.false_eq_true, if_false, Sem.run_pure, Array.size_map, hc]
   simp [hs w0 hw0, hi]
def ju (w : World) (r : Nat) (u : Value) : Prop :=
 ∃ (m since : Nat) (seen : Array Nat) (es : Array MapEntry) (clock stamp : Nat) (e : MapEntry), w.heap[r]? = some (.mapIter (some m) since seen clock) /\ w.heap[m]? = some (.map es clock) /\ seen.back? = some stamp /\
  es.find? (fun e => e.born == stamp) = some e /\ u = .tuple #[e.key, e.val]
theorem nt {P : Program} {w : World} {r : Nat} {sp : _} {u : Value} (h : ju w r u) : (Instr.entry (.pointer (some ⟨r, 0, sp⟩))).run P w = .ok u w := by
 obtain ⟨m, since, seen, es, clock, stamp, e, hr, hm, hb, hf, rfl⟩ := h
 have hg : (getObj r).run P w = .ok (.mapIter (some m) since seen clock) w := by simp [getObj, Sem.run, hr]
 have hgm : (getObj m).run P w = .ok (.map es clock) w := by simp [getObj, Sem.run, hm]
 simp [Instr.entry, Sem.run_bind, hg, hgm, hb, hf]
def rq (w : World) (r : Nat) (K : Value -> World -> Prop) : Prop := ∃ k v : Value, ju w r (.tuple #[k, v]) /\ K (.tuple #[k, v]) w
def ly (w : World) (q : Option Nat) (it : Obj) : Prop :=
 (q = none /\ it = .mapIter none 0 #[] 0) \/ ∃ (m : Nat) (es : Array MapEntry) (clock : Nat), q = some m /\ w.heap[m]? = some (.map es clock) /\ it = .mapIter (some m) clock #[] clock
def rangeK (P : Program) (t : TypeId) (x : Value) (w : World) (K : Value -> World -> Prop) : Prop :=
 match P.underlying t, x with
 | some .string, .string s => aK w (.stringIter s 0) fun r w1 => K (.pointer (some ⟨r, 0, none⟩)) w1
 | some (.map _ _), .map q => ∃ it : Obj, ly w q it /\ aK w it fun r w1 => K (.pointer (some ⟨r, 0, none⟩)) w1
 | _, _ => False
theorem oO {P : Program} {t : TypeId} {x : Value} {w : World} {K : Value -> World -> Prop} (h : rangeK P t x w K) : ∃ v w', (Instr.range t x).run P w = .ok v w' /\ K v w' := by
 unfold rangeK at h
 split at h
 ·rename_i s hu
  refine ⟨_, _, ?_, h _ _ rfl rfl⟩
  simp only [Instr.range, Sem.run_bind, ag hu, Result.andThen_ok, Sem.run_pure, run_newObj]
  rfl
 ·rename_i q hu
  obtain ⟨it, ⟨rfl, rfl⟩ | ⟨m, es, clock, rfl, hm, rfl⟩, h⟩ := h
  ·refine ⟨_, _, ?_, h _ _ rfl rfl⟩
   simp only [Instr.range, Sem.run_bind, ag hu, Result.andThen_ok, Sem.run_pure, run_newObj]
   rfl
  ·have hgm : (getObj m).run P w = .ok (.map es clock) w := by simp [getObj, Sem.run, hm]
   refine ⟨_, _, ?_, h _ _ rfl rfl⟩
   simp only [Instr.range, Sem.run_bind, ag hu, hgm, Result.andThen_ok, Sem.run_pure, run_newObj]
   rfl
 ·exact h.elim
def effK (P : Program) (L : Nat -> Bool) (o : Oper) (ρ : Operand -> Value) (w : World) (K : Value -> World -> Prop) : Prop :=
 match o.op with
 | .alloc t => allocK P t w K
 | .box t x => rO P t (ρ x) w K
 | .buildSlice t n parts => buildSliceK P t n (parts.map fun (i, x) => (i, ρ x)).toList w K
 | .makeSlice t l c => makeSliceK P t (ρ l) (ρ c) w K
 | .makeMap t r => (match r with | none => lX P t w K | some _ => False)
 | .store t a x => storeK P t (ρ a) (ρ x) w fun w' => K undef w'
 | .mapUpdate t m k x => mapPutK P t (ρ m) (ρ k) (ρ x) w fun w' => K undef w'
 | .insert t m k x => mapPutK P t (ρ m) (ρ k) (ρ x) w fun w' => K undef w'
 | .convert s d x => (match (P.underlying s).isSome, isU8 P d, sliceT P d, ρ x with
   | true, true, some e, .string b => pE P e b.data.toList w fun s w' => K s.v w'
   | true, true, some e, .slice (some a) l c => (match Nat.beq s d with
     | true => ∀ w1, w1 = markW w a.block -> K (.slice (some a) l c) w1
     | false => False)
   | _, _, _, _ => False)
 | .call c => (match c.callee with
   | .builtin .append => appendAnyK P c.argTypes.toList (c.args.map ρ).toList w K
   | .builtin .copy => copyK P c.argTypes.toList (c.args.map ρ).toList w K
   | .builtin .clear => clearK P c.argTypes.toList (c.args.map ρ).toList w K
   | .builtin .delete => mapDelK P c.argTypes.toList (c.args.map ρ).toList w K
   | .value f => (match ρ f with
     | .func (.func g) first captured => (match isClone P g with
       | true => cloneK (first ++ c.args.map ρ ++ captured).toList w K
       | false => callK P L g (first ++ c.args.map ρ ++ captured) w K)
     | _ => False)
   | .invoke recv name => rX P L (ρ recv) name (c.args.map ρ).toList o.type w K
   | _ => False)
 | .range t x => rangeK P t (ρ x) w K
 | .next it isS => (match isS, ρ it with
   | true, .pointer (some ⟨r, 0, _⟩) => mf w r K
   | false, .pointer (some ⟨r, 0, _⟩) => oh w r (fun k v w1 => K (.tuple #[.bool true, k, v]) w1) (K (.tuple #[.bool false]) w)
   | _, _ => False)
 | .entry it => (match ρ it with
   | .pointer (some ⟨r, 0, _⟩) => rq w r K
   | _ => False)
 | _ => False
def bO (P : Program) (L : Nat -> Bool) : Prop := ∀ f args w, L f = true -> (callFunc f args).run P w = .ok (.enter f args) w
theorem om {P : Program} {L : Nat -> Bool} (hL : bO P L) {o : Oper} {a : Act} {w : World} {K : Value -> World -> Prop} {next : Act -> World -> Prop} {Q : Exit -> Act -> World -> Prop}
  (hn : ∀ v w', K v w' -> next (a.put o.dst v) w') (h : effK P L o a.eval w K) : o.wp P a w next Q := by
 unfold effK at h
 unfold Oper.wp
 split at h
 ·rename_i ho
  obtain ⟨v, w', h1, h2⟩ := oH h
  simp only [execOp, ho, Sem.run_bind, h1, Result.andThen_ok, Sem.run_pure, Oper.upon]; exact hn _ _ h2
 ·rename_i ho
  obtain ⟨v, w', h1, h2⟩ := qG h
  simp only [execOp, ho, Sem.run_bind, h1, Result.andThen_ok, Sem.run_pure, Oper.upon]; exact hn _ _ h2
 ·rename_i ho
  obtain ⟨v, w', h1, h2⟩ := jD h
  simp only [execOp, ho, Sem.run_bind, h1, Result.andThen_ok, Sem.run_pure, Oper.upon]; exact hn _ _ h2
 ·rename_i ho
  obtain ⟨v, w', h1, h2⟩ := kz h
  simp only [execOp, ho, Sem.run_bind, h1, Result.andThen_ok, Sem.run_pure, Oper.upon]; exact hn _ _ h2
 ·rename_i ho
  split at h
  ·obtain ⟨v, w', h1, h2⟩ := lY (P := P) h
   simp only [execOp, ho, Option.map_none, Sem.run_bind, h1, Result.andThen_ok, Sem.run_pure, Oper.upon]; exact hn _ _ h2
  ·exact h.elim
 ·rename_i ho
  obtain ⟨w', h1, h2⟩ := oI h
  simp only [execOp, ho, Sem.run_bind, h1, Result.andThen_ok, Sem.run_pure, Oper.upon]; exact hn _ _ h2
 ·rename_i ho
  obtain ⟨w', h1, h2⟩ := jH h
  simp only [execOp, ho, Sem.run_bind, h1, Result.andThen_ok, Sem.run_pure, Oper.upon]; exact hn _ _ h2
 ·rename_i ho
  obtain ⟨w', h1, h2⟩ := jH h
  simp only [execOp, ho, Sem.run_bind, h1, Result.andThen_ok, Sem.run_pure, Oper.upon]; exact hn _ _ h2
 ·rename_i s d x ho
  split at h
  ·rename_i e b h1 h2 h3 hx
   obtain ⟨sl, w', h4, h5⟩ := oJ h
   have : (convert s d (a.eval x)).run P w = .ok sl.v w' := by
    unfold isU8 at h2
    unfold sliceT at h3
    obtain ⟨ds, hs⟩ := Option.isSome_iff_exists.1 h1
    split at h2
    ·rename_i e' hd
     split at h2
     ·rename_i he
      simp only [hd, Option.some.injEq] at h3; subst h3
      simp only [convert, Sem.run_bind, ag hs, ag hd, ag he, hx, Result.andThen_ok, h4]
     ·cases h2
    ·cases h2
   simp only [execOp, ho, Sem.run_bind, this, Result.andThen_ok, Sem.run_pure, Oper.upon]; exact hn _ _ h5
  ·rename_i e ad l c h1 h2 h3 hx
   split at h
   ·rename_i hsd
    have hsd' : s = d := Nat.eq_of_beq_eq_true hsd
    subst hsd'
    have : (convert s s (a.eval x)).run P w = .ok (.slice (some ad) l c) (markW w ad.block) := by
     unfold isU8 at h2
     split at h2
     ·rename_i e' hd
      split at h2
      ·rename_i he
       simp only [convert, Sem.run_bind, ag hd, ag he, hx, Result.andThen_ok]
       simp [run_mark]
      ·cases h2
     ·cases h2
    simp only [execOp, ho, Sem.run_bind, this, Result.andThen_ok, Sem.run_pure, Oper.upon]; exact hn _ _ (h _ rfl)
   ·exact h.elim
  ·exact h.elim
 ·rename_i c ho
  split at h
  ·rename_i hc
   obtain ⟨v, w', h1, h2⟩ := kA (ty := o.type) h
   simp only [execOp, ho, resolve, hc, Sem.run_bind, Sem.run_pure, Result.andThen_ok, invoke, builtin, h1, Oper.upon]; exact hn _ _ h2
  ·rename_i hc
   obtain ⟨v, w', h1, h2⟩ := pF (ty := o.type) h
   simp only [execOp, ho, resolve, hc, Sem.run_bind, Sem.run_pure, Result.andThen_ok, invoke, builtin, h1, Oper.upon]; exact hn _ _ h2
  ·rename_i hc
   obtain ⟨v, w', h1, h2⟩ := oM (ty := o.type) h
   simp only [execOp, ho, resolve, hc, Sem.run_bind, Sem.run_pure, Result.andThen_ok, invoke, builtin, h1, Oper.upon]; exact hn _ _ h2
  ·rename_i hc
   obtain ⟨v, w', h1, h2⟩ := nr (ty := o.type) h
   simp only [execOp, ho, resolve, hc, Sem.run_bind, Sem.run_pure, Result.andThen_ok, invoke, builtin, h1, Oper.upon]; exact hn _ _ h2
  ·rename_i f hc
   split at h
   ·rename_i g first captured hf
    split at h
    ·rename_i hcl
     obtain ⟨v, w', h1, h2⟩ := oN hcl h
     simp only [execOp, ho, resolve, hc, hf, Deferred.ofValue, Sem.run_bind, Sem.run_pure, Result.andThen_ok, invoke, h1, Oper.upon]; exact hn _ _ h2
    unfold callK at h
    split at h
    ·rename_i fn hLg hfn
     have hcall := hL g (first ++ c.args.map a.eval ++ captured) w hLg
     simp only [execOp, ho, resolve, hc, hf, Deferred.ofValue, Sem.run_bind, Sem.run_pure, Result.andThen_ok, invoke, hcall, Oper.upon]
     refine h.mono fun e w' he => ?_
     obtain ⟨v, rfl, hk⟩ := me he
     exact hn _ _ hk
    ·exact h.elim
   ·exact h.elim
  ·rename_i recv name hc
   obtain ⟨t, v, rv, g, hx, hmeth, hLg, h⟩ := h
   have hcall := hL g (#[rv] ++ c.args.map a.eval) w hLg
   have e1 : (#[a.eval recv] ++ c.args.map a.eval : Array Value)[0]? = some (.iface t v) := by
    rw [hx, Array.getElem?_append_left (by simp)]; rfl
   have e2 : (#[a.eval recv] ++ c.args.map a.eval : Array Value).extract 1 (#[a.eval recv] ++ c.args.map a.eval : Array Value).size = c.args.map a.eval := by simp
   have e3 : (⟨rv :: (c.args.map a.eval).toList⟩ : Array Value) = #[rv] ++ c.args.map a.eval := by simp
   rw [e3] at h
   simp only [execOp, ho, resolve, hc, Sem.run_bind, Sem.run_pure, Result.andThen_ok, invoke, e1, callMethod, run_program, hmeth, e2, hcall, Oper.upon]
   refine h.mono fun e w' he => ?_
   obtain ⟨u, rfl, hk⟩ := pN he
   exact hn _ _ hk
  ·exact h.elim
 ·rename_i t x ho
  obtain ⟨v, w', h1, h2⟩ := oO (P := P) h
  simp only [execOp, ho, Sem.run_bind, h1, Result.andThen_ok, Sem.run_pure, Oper.upon]; exact hn _ _ h2
 ·rename_i it isS ho
  split at h
  ·rename_i r sp hit
   obtain ⟨v, w', h1, h2⟩ := mh (P := P) (sp := sp) (ty := o.type) h
   simp only [execOp, ho, hit, Sem.run_bind, h1, Result.andThen_ok, Sem.run_pure, Oper.upon]; exact hn _ _ h2
  ·rename_i r sp hit
   obtain ⟨v, w', h1, h2⟩ := pO (P := P) (sp := sp) (ty := o.type) h
   simp only [execOp, ho, hit, Sem.run_bind, h1, Result.andThen_ok, Sem.run_pure, Oper.upon]; exact hn _ _ h2
  ·exact h.elim
 ·rename_i it ho
  split at h
  ·rename_i r sp hit
   obtain ⟨k, v, h1, h2⟩ := h
   have h3 := nt (P := P) (sp := sp) h1
   simp only [execOp, ho, hit, Sem.run_bind, h3, Result.andThen_ok, Sem.run_pure, Oper.upon]; exact hn _ _ h2
  ·exact h.elim
 ·exact h.elim
def opK (P : Program) (L : Nat -> Bool) (wr : Bool) (o : Oper) (ρ : Operand -> Value) (w : World) (K : Value -> World -> Prop) : Prop :=
 match cls P o.op with
 | 0 => pureK P wr o ρ fun v => K v w
 | 1 => readK P o ρ w fun v => K v w
 | _ => effK P L o ρ w K
theorem pP {P : Program} {L : Nat -> Bool} (hL : bO P L) {wr : Bool} {o : Oper} {a : Act} {w : World} {K : Value -> World -> Prop} {next : Act -> World -> Prop} {Q : Exit -> Act -> World -> Prop}
  (hn : ∀ v w', K v w' -> next (a.put o.dst v) w') (h : opK P L wr o a.eval w K) : o.wp P a w next Q := by
 unfold opK at h
 split at h
 ·obtain ⟨v, h1, h2⟩ := l9 (fun v => rfl) h
  unfold Oper.wp; rw [h1 w]; exact hn _ _ h2
 ·obtain ⟨v, h1, h2⟩ := mb h
  unfold Oper.wp; rw [h1]; exact hn _ _ h2
 ·exact om hL hn h
end Go.D

