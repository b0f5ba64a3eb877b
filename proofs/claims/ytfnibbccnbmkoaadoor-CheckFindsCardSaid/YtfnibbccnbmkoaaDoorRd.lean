/-
  WHAT IS PROVED: contracts of functions, and the plain law, for this proof. No further conditions.
-/
import Derived.Test.YtfnibbccnbmkoaaDoorArgs
import Derived.Test.YtfnibbccnbmkoaaDoorObjM
set_option linter.unusedSimpArgs false
set_option linter.unusedVariables false
namespace Go.D
open Go Go.ChangeShapes Go.Deep
theorem rC {w : World} {zs cs : List Value} {T : TypeId} {n : Nat} {K : Nat -> World -> Prop} (hz : zs.length = n) (hc : cs.length = n)
  (h : ∀ r w2, r = w.heap.size -> ab w2 r cs -> av w w2 -> w2.heap.size = r + 1 -> K r w2) :
  aK w (.cells ⟨zs⟩ T) fun r w1 => aw w1 (⟨r, 0, none⟩ : Addr) n /\ ∀ w2 : World, w2 = setCells w1 (⟨r, 0, none⟩ : Addr) 0 cs -> K r w2 := by
 refine ai (fun r w1 hr hb hk hs => ⟨fG hb (.inl (by simp)) 0 n (by omega), ?_⟩)
 rintro w2 rfl
 have h1 := bR cs w1 zs 0 0 hb
 have h2 := cM cs [] zs (by omega)
 simp only [List.nil_append, List.length_nil] at h2
 rw [show 0 + 0 = 0 from rfl, h2, List.drop_of_length_le (by omega), List.append_nil] at h1
 have h3 : Ext (fun x => x = r) w1 (setCells w1 (⟨r, 0, none⟩ : Addr) 0 cs) := Ext.setCells (M := fun x => x = r) (a := ⟨r, 0, none⟩) rfl cs 0 w1
 refine h r _ hr ⟨T, (0, 0), h1, .inl (by simp)⟩ (hk.step (by omega) h3) ?_
 have : ∀ (vs : List Value) (i : Nat) (w : World), (setCells w (⟨r, 0, none⟩ : Addr) i vs).heap.size = w.heap.size := by
  intro vs
  induction vs with
  | nil => intro i w; rfl
  | cons v vs ih => intro i w; simp only [setCells]; rw [ih]; simp [World.setCell]
 rw [this, hs]
theorem fj {w : World} {a : Addr} : ∀ {cs : List Value} {i : Nat}, (∀ j (h : j < cs.length), w.cell? (a.add (i + j)) = some cs[j]) -> rowAt w a i cs
 | [], _, _ => trivial
 | v :: r, i, h => by
  refine ⟨h 0 (by simp), fj (fun j hj => ?_)⟩
  have := h (j + 1) (by simp; omega)
  rw [show i + 1 + j = i + (j + 1) by omega]
  exact this
theorem dE {w : World} {a : Addr} : ∀ {cs : List Value} {i : Nat}, rowAt w a i cs -> ∀ j (h : j < cs.length), w.cell? (a.add (i + j)) = some cs[j]
 | [], _, _, j, hj => by simp at hj
 | v :: r, i, h, 0, hj => h.1
 | v :: r, i, h, j + 1, hj => by
  have := dE h.2 j (by simpa using hj)
  rw [show i + (j + 1) = i + 1 + j by omega]
  exact this
theorem oX {M : Nat -> Prop} {w w' : World} {a : Addr} {cs : List Value} {i : Nat} (h : rowAt w a i cs) (he : Ext M w w') (hm : ¬ M a.block) : rowAt w' a i cs :=
 fj fun j hj => he.cell (dE h j hj) (by rw [cD]; exact hm)
theorem gW {w w' : World} {a : Addr} {cs : List Value} {i : Nat} (h : rowAt w a i cs) (he : av w w') : rowAt w' a i cs := oX h he (fun h => h)
structure Rd (α : Type) where
 n : Nat
 R : World -> α -> List Value -> Prop
 ah : ∀ {w w' : World} {x : α} {cs : List Value}, av w w' -> R w x cs -> R w' x cs
def Rd.int (k : IntKind) : Rd Int where
 n := 1
 R _ x cs := cs = [.int k x] /\ inR k x
 ah _ h := h
def Rd.bool : Rd Bool where
 n := 1
 R _ x cs := cs = [.bool x]
 ah _ h := h
def Rd.str : Rd (List UInt8) where
 n := 1
 R _ x cs := cs = [aq x] /\ x.length <= maxLen
 ah _ h := h
def Rd.bytes : Rd (Slc × List UInt8) where
 n := 1
 R w x cs := cs = [x.1.v] /\ ar w x.1 x.2 /\ x.1.l <= x.1.c /\ x.1.c <= maxLen
 ah k h := ⟨h.1, az h.2.1 k, h.2.2⟩
def Rd.pair {α β : Type} (a : Rd α) (b : Rd β) : Rd (α × β) where
 n := a.n + b.n
 R w x cs := ∃ c1 c2, cs = c1 ++ c2 /\ a.R w x.1 c1 /\ b.R w x.2 c2
 ah k := fun ⟨c1, c2, h, h1, h2⟩ => ⟨c1, c2, h, a.ah k h1, b.ah k h2⟩
def jW {α : Type} (e : Rd α) (w : World) (s : Slc) (xs : List α) : Prop :=
 s.l = xs.length /\ s.l <= s.c /\ s.c <= maxLen /\ ∀ i (h : i < xs.length), ∃ a cs, s.p = some a /\ e.R w xs[i] cs /\ rowAt w (a.add (i * e.n)) 0 cs
theorem jX {α : Type} {e : Rd α} {w w' : World} {s : Slc} {xs : List α} (h : jW e w s xs) (k : av w w') : jW e w' s xs :=
 ⟨h.1, h.2.1, h.2.2.1, fun i hi => let ⟨a, cs, h1, h2, h3⟩ := h.2.2.2 i hi; ⟨a, cs, h1, e.ah k h2, gW h3 k⟩⟩
def Rd.slice {α : Type} (e : Rd α) : Rd (Slc × List α) where
 n := 1
 R w x cs := cs = [x.1.v] /\ jW e w x.1 x.2
 ah k h := ⟨h.1, jX h.2 k⟩
def Reads {α : Type} (P : Program) (t : TypeId) (R : Rd α) : Prop :=
 P.cellsOf t = R.n /\ ∀ (H : Type) (enc : TypeId × Value -> H) (w : World) (base : Nat) (spare : Nat -> Bool) (held : Bool) (fuel : Nat) (cs : List Value) (x : DataW H × List MemPlace),
  DataW.trod enc P w base spare held fuel t cs = some x -> ∃ a, R.R w a cs
theorem oY {k : IntKind} {n : Int} (h : (Lit.int k n).wf = true) : inR k n := by
 simpa [Lit.wf, inR] using h
theorem Reads.int {P : Program} {t : TypeId} {k : IntKind} (ht : P.underlying t = some (.int k)) (hc : P.cellsOf t = 1) : Reads P t (Rd.int k) :=
 ⟨hc, fun H enc w base spare held fuel cs x h => by
  obtain ⟨m, rfl, _, hw⟩ := DataW.trod_int ht h
  exact ⟨m, rfl, oY hw⟩⟩
theorem Reads.bool {P : Program} {t : TypeId} (ht : P.underlying t = some .bool) (hc : P.cellsOf t = 1) : Reads P t Rd.bool :=
 ⟨hc, fun H enc w base spare held fuel cs x h => by
  cases fuel with
  | zero => simp [DataW.trod] at h
  | succ m =>
   unfold DataW.trod at h
   rw [ht] at h
   split at h <;> simp_all [Rd.bool]⟩
theorem Reads.str {P : Program} {t : TypeId} (ht : P.underlying t = some .string) (hc : P.cellsOf t = 1) : Reads P t Rd.str :=
 ⟨hc, fun H enc w base spare held fuel cs x h => by
  cases fuel with
  | zero => simp [DataW.trod] at h
  | succ m =>
   unfold DataW.trod at h
   rw [ht] at h
   split at h <;> simp_all
   obtain ⟨hs, _⟩ := h
   exact ⟨_, rfl, hs⟩⟩
theorem Reads.bytes {P : Program} {t e : TypeId} (ht : P.underlying t = some (.slice e)) (he : P.underlying e = some (.int .u8)) (hc1 : P.cellsOf t = 1) (hc : P.cellsOf e = 1) : Reads P t Rd.bytes :=
 ⟨hc1, fun H enc w base spare held fuel cs x h => by
  rcases open_ints ht he hc h with ⟨hcs, _⟩ | ⟨a, l, c, zs, hcs, _⟩ <;> subst hcs <;> (obtain ⟨s, b, h1, h2⟩ := nA ht he hc h; exact ⟨(s, b), by rw [h1], h2⟩)⟩
theorem Reads.slice {α : Type} {P : Program} {t e : TypeId} {R : Rd α} (ht : P.underlying t = some (.slice e)) (hc1 : P.cellsOf t = 1) (he : Reads P e R) : Reads P t (Rd.slice R) :=
 ⟨hc1, fun H enc w base spare held fuel cs x h => by
  rcases DataW.trod_slice ht h with ⟨hcs, _⟩ | ⟨a, len, cap, elems, rest, n, _, rfl, rfl, hb, hl, hm, hlen, hel, hsp, hns⟩
  ·exact ⟨(⟨none, 0, 0⟩, []), hcs, rfl, Nat.le_refl _, Nat.zero_le _, fun i h => by simp at h⟩
  ·obtain ⟨hn, hR⟩ := he
   obtain ⟨xs, hxl, hxs⟩ := gp (α := α) (p := fun i y => ∃ cs, R.R w y cs /\ rowAt w (a.add (i * R.n)) 0 cs) len (fun i hi => by
    have h1 := hel i hi
    rw [List.getElem?_eq_getElem (by omega), Option.bind_eq_some_iff] at h1
    obtain ⟨cs', hcs, hy⟩ := h1
    obtain ⟨z, hz⟩ := hR _ _ _ _ _ _ _ _ _ hy
    obtain ⟨_, hcl, hcc⟩ := World.cells?_some hcs
    refine ⟨z, cs', hz, fj fun j hj => ?_⟩
    rw [<- hn, Nat.zero_add, hcc j (by omega)]
    exact List.getElem?_eq_getElem hj)
   exact ⟨(⟨some a, len, cap⟩, xs), rfl, hxl.symm, hl, hm, fun i hi => let ⟨cs', h1, h2⟩ := hxs i hi; ⟨a, cs', rfl, h1, h2⟩⟩⟩
def bx {α : Type} (P : Program) (fs : List Field) (off : Nat) (R : Rd α) : Prop :=
 ∀ (H : Type) (enc : TypeId × Value -> H) (w : World) (base : Nat) (spare : Nat -> Bool) (held : Bool) (cs : List Value),
  (∀ f ∈ fs, ∃ (m : Nat) (x : DataW H × List MemPlace), DataW.trod enc P w base spare held m f.type ((cs.drop f.offset).take (P.cellsOf f.type)) = some x) -> ∃ a, R.R w a ((cs.drop off).take R.n)
theorem bx.one {α : Type} {P : Program} {f : Field} {off : Nat} {R : Rd α} (ho : f.offset = off) (h : Reads P f.type R) : bx P [f] off R :=
 fun H enc w base spare held cs hx => by
  obtain ⟨m, x, h1⟩ := hx f (by simp)
  rw [ho, h.1] at h1
  exact h.2 _ _ _ _ _ _ _ _ _ h1
theorem bx.cons {α β : Type} {P : Program} {f : Field} {fs : List Field} {off off' : Nat} {R : Rd α} {S : Rd β} (ho : f.offset = off) (h : Reads P f.type R) (ho' : off' = off + R.n) (hs : bx P fs off' S) :
  bx P (f :: fs) off (Rd.pair R S) :=
 fun H enc w base spare held cs hx => by
  obtain ⟨m, x, h1⟩ := hx f (by simp)
  rw [ho, h.1] at h1
  obtain ⟨a, ha⟩ := h.2 _ _ _ _ _ _ _ _ _ h1
  obtain ⟨b, hb⟩ := hs H enc w base spare held cs (fun g hg => hx g (by simp [hg]))
  refine ⟨(a, b), _, _, ?_, ha, hb⟩
  show (cs.drop off).take (R.n + S.n) = _
  rw [List.take_add, List.drop_drop, ho']
theorem Reads.struct {α : Type} {P : Program} {t : TypeId} {fs : Array Field} {R : Rd α} (ht : P.underlying t = some (.struct fs)) (hc : P.cellsOf t = R.n) (h : bx P fs.toList 0 R) : Reads P t R :=
 ⟨hc, fun H enc w base spare held fuel cs x hx => by
  obtain ⟨xs, n, _, rfl, hl, hlen, hf⟩ := DataW.trod_struct ht hx
  obtain ⟨a, ha⟩ := h H enc w base spare held cs (fun f hf' => by
   obtain ⟨i, hi, he⟩ := List.getElem_of_mem hf'
   have hi2 : i < fs.size := by simpa using hi
   have h1 := hf i f (by rw [<- he]; simp [hi2])
   rw [List.getElem?_eq_getElem (by omega)] at h1
   exact ⟨n, _, h1⟩)
  refine ⟨a, ?_⟩
  rw [List.drop_zero, <- hc, <- hl, List.take_length] at ha
  exact ha⟩
theorem ab.row {w : World} {r : Nat} {cs : List Value} (h : ab w r cs) : rowAt w (⟨r, 0, none⟩ : Addr) 0 cs :=
 fj fun j hj => by rw [add_lit, Nat.zero_add, Nat.zero_add]; exact h.cell j hj
theorem dI (a : Addr) : ∀ (vs : List Value) (i : Nat) (w : World), (setCells w a i vs).heap.size = w.heap.size := by
 intro vs
 induction vs with
 | nil => intro i w; rfl
 | cons v vs ih => intro i w; simp only [setCells]; rw [ih]; simp [World.setCell]
theorem ab.bh {w : World} {r : Nat} {zs cs : List Value} {n : Nat} (h : ab w r zs) (hn : zs.length = n) (hl : cs.length = n) :
  aw w (⟨r, 0, none⟩ : Addr) n /\ ∀ w2 : World, w2 = setCells w (⟨r, 0, none⟩ : Addr) 0 cs -> ab w2 r cs /\ Ext (fun x => x = r) w w2 /\ w2.heap.size = w.heap.size := by
 obtain ⟨T, f, hb, hf⟩ := h
 refine ⟨fG hb hf 0 n (by omega), ?_⟩
 rintro w2 rfl
 have h1 := bR cs w zs 0 0 hb
 have h2 := cM cs [] zs (by omega)
 simp only [List.nil_append, List.length_nil] at h2
 rw [show 0 + 0 = 0 from rfl, h2, List.drop_of_length_le (by omega), List.append_nil] at h1
 refine ⟨⟨T, f, h1, by rw [hl, <- hn]; exact hf⟩, Ext.setCells (M := fun x => x = r) (a := ⟨r, 0, none⟩) rfl cs 0 w, dI _ _ _ _⟩
theorem ab.cN {w : World} {r : Nat} {cs : List Value} (h : ab w r cs) (k : Nat) (hk : k < cs.length) (v : Value) :
  aw w (⟨r, k, none⟩ : Addr) 1 /\ ∀ w2 : World, w2 = w.setCell (⟨r, k, none⟩ : Addr) v -> ab w2 r (cs.set k v) /\ Ext (fun x => x = r) w w2 /\ w2.heap.size = w.heap.size := by
 obtain ⟨h1, h2, h3⟩ := h.set k hk v
 exact ⟨h1, fun w2 e => by subst e; exact ⟨h2, h3, by simp [World.setCell]⟩⟩
theorem ab.bS {w : World} {r : Nat} {c : List Value} {T : TypeId} (h : w.heap[r]? = some (.cells ⟨c⟩ T)) : ab w r c := ⟨T, (0, 0), h, pY _⟩
end Go.D

