/-
  WHAT IS PROVED: contracts of functions, and the plain law, for this proof. No further conditions.
-/
import Derived.Test.YtkklojleebkngaaDoorAll1
import Derived.Test.YtkklojleebkngaaDoorVClaw08
import Derived.Test.YtkklojleebkngaaDoorVCref08
import Derived.Test.YtkklojleebkngaaDoorVCints
import Derived.Test.YtkklojleebkngaaDoorRd
import Derived.Test.YtkklojleebkngaaDoorVClaw08b
set_option linter.unusedVariables false
set_option linter.unusedSimpArgs false
namespace Go.D
open Go Go.Proofs

/-- Chunk, of a body that may stop. -/
theorem Chunk_1_specX (s : Slc) (B : List UInt8) (n lr b1 b2 : Nat) (J : Nat → World → Prop) (X : World → Prop) (hn : 0 < n) (hnl : n ≤ 2 ^ 20) (hl : B.length ≤ 2 ^ 30) (hsc : s.l ≤ s.c)
    (hJ : ∀ k w, J k w → w.cell? ⟨b1, 0, none⟩ = some s.v ∧ w.cell? ⟨b2, 0, none⟩ = some (.int .i64 (n : Int)) ∧ bytesAt w s B)
    (hd : ∀ k w, J k w → J k w.drew)
    (hstep : ∀ k (hk : k * n < B.length) (w : World) (sd : Slc), J k w → bytesAt w sd (chunkB B n k) →
      YieldC Tryd.prog lr ⟨[sd.v]⟩ w fun e w' => (e = .returned (.bool true) ∧ J (k + 1) w') ∨ (e = .returned (.bool false) ∧ X w'))
    (w : World) (h0 : J 0 w) :
    Calls Tryd.prog fn_slices_Chunk_byte_1 ⟨[.func (.yield lr) ⟨[]⟩ ⟨[]⟩, ptrR' b1, ptrR' b2]⟩ w fun e w' => e = .returned (.tuple #[]) ∧ ((∃ k, B.length ≤ k * n ∧ (k = 0 ∨ (k - 1) * n < B.length) ∧ J k w') ∨ X w') := by
  refine slices_Chunk_byte_1_ok _ _ _ ?_
  unfold slices_Chunk_byte_1
  refine ⟨fun i w2 => ∃ k : Nat, i = ((k * n : Nat) : Int) ∧ (k = 0 ∨ (k - 1) * n < B.length) ∧ J k w2, fun i _ => ((B.length : Int) - i).toNat, ⟨0, by simp, .inl rfl, h0⟩, ?_⟩
  rintro i w7 ⟨k, rfl, hk, h7⟩
  intros
  obtain ⟨hc1, hc2, hB⟩ := hJ _ _ h7
  have hsl := hB.1
  have h7d := hd _ _ h7
  obtain ⟨hd1, hd2, hBd⟩ := hJ _ _ h7d
  refine needSome_mk rfl ⟨s, hc1, BIf_dec (fun h1 => ?_) (fun h1 => ⟨rfl, .inl ⟨k, by omega, hk, h7⟩⟩)⟩
  have hkl : k * n < B.length := by omega
  have hknn : (k + 1) * n = k * n + n := by rw [Nat.add_mul, Nat.one_mul]
  have hsubl : (Slc.sub s 1 (Int.toNat ((k * n : Nat) : Int)) s.l s.c).l = s.l - k * n := by simp only [Slc.sub]; omega
  obtain ⟨m, hm⟩ : ∃ m : Nat, (m : Int) = if ((s.l - k * n : Nat) : Int) < (n : Int) then ((s.l - k * n : Nat) : Int) else (n : Int) := by split; exact ⟨_, rfl⟩; exact ⟨_, rfl⟩
  have hmn : m = min n (B.length - k * n) := by split at hm <;> omega
  refine needSome_mk rfl ⟨_, hd2, needSome_mk rfl ⟨s, hd1, by omega, by omega, by omega, by omega, needSome_mk rfl ⟨s, hd1, ?_⟩⟩⟩
  rw [hsubl, ← hm]
  refine ⟨inR64 (by omega), inR64 (by omega), by omega, by omega, by omega, by omega, ?_⟩
  have e1 : Int.toNat ((k * n : Nat) : Int) = k * n := by omega
  have e2 : Int.toNat (((k * n : Nat) : Int) + (m : Int)) = k * n + m := by omega
  rw [e1, e2]
  have hsd : bytesAt w7.drew (Slc.sub s 1 (k * n) (k * n + m) (k * n + m)) (chunkB B n k) := by
    have := bytesAt_sub hBd (lo := k * n) (hi := k * n + m) (c := k * n + m) (by omega) (by omega) (by omega)
    have e3 : chunkB B n k = (B.take (k * n + m)).drop (k * n) := by
      unfold chunkB
      rw [List.drop_take, show k * n + m - k * n = m by omega]
      by_cases hmm : m = n
      · rw [hmm]
      · rw [List.take_of_length_le (by simp; omega), List.take_of_length_le (by simp; omega)]
    rw [e3]; exact this
  refine (hstep k hkl _ _ h7d hsd).mono ?_
  rintro e w45 (⟨rfl, h45⟩ | ⟨rfl, h45⟩)
  · obtain ⟨hf1, hf2, _⟩ := hJ _ _ h45
    refine ⟨true, rfl, BIf_mk (fun h => by cases h) (fun _ => needSome_mk rfl ⟨_, hf2, inR64 (by omega), ⟨k + 1, by omega, .inr (by rw [Nat.add_sub_cancel]; exact hkl), h45⟩, by first | (dsimp only; omega) | omega⟩)⟩
  · exact ⟨false, rfl, BIf_mk (fun _ => ⟨rfl, .inr h45⟩) (fun h => by cases h)⟩

/-! ### the sectors of a record -/
def padC (b : List UInt8) (j : Nat) : List UInt8 := chunkB b 64 j ++ List.replicate (64 - (chunkB b 64 j).length) 0
theorem chunk_len (b : List UInt8) (j : Nat) : (chunkB b 64 j).length = min 64 (b.length - j * 64) := by simp [chunkB]
theorem padC_len (b : List UInt8) (j : Nat) : (padC b j).length = 64 := by
  unfold padC
  rw [List.length_append, List.length_replicate, chunk_len]; omega
def datS (b : List UInt8) (j : Nat) : List UInt8 := if j < secs b.length then padC b j else zeroS
theorem datS_len (b : List UInt8) (j : Nat) : (datS b j).length = 64 := by
  unfold datS; split
  · exact padC_len b j
  · rfl
theorem catT_pad {T : Nat → List UInt8} {b : List UInt8} {at_ : Nat} (h : ∀ j, j < secs b.length → T (at_ + j) = padC b j) : (catT T at_ (secs b.length)).take b.length = b := by
  have key : ∀ n, n ≤ secs b.length → (catT T at_ n).take b.length = b.take (n * 64) ∧ (catT T at_ n).length = n * 64 := by
    intro n
    induction n with
    | zero => intro _; simp [catT]
    | succ n ih =>
      intro hn
      obtain ⟨h1, h2⟩ := ih (by omega)
      have hb : n * 64 < b.length := by unfold secs at hn; omega
      rw [catT_succ, h n (by omega)]
      refine ⟨?_, by rw [List.length_append, h2, padC_len]; omega⟩
      rw [List.take_append, h1, h2, show (n + 1) * 64 = n * 64 + 64 by omega, List.take_add]
      congr 1
      unfold padC
      have hcl := chunk_len b n
      rw [List.take_append]
      have e1 : (chunkB b 64 n).take (b.length - n * 64) = chunkB b 64 n := List.take_of_length_le (by omega)
      rw [e1]
      by_cases h3 : b.length - n * 64 ≤ 64
      · rw [show b.length - n * 64 - (chunkB b 64 n).length = 0 by omega, List.take_zero, List.append_nil]
        rfl
      · rw [show 64 - (chunkB b 64 n).length = 0 by omega]
        simp [chunkB]
  have := (key (secs b.length) (Nat.le_refl _)).1
  rw [this, List.take_of_length_le (by unfold secs; omega)]

section
variable {k : Nat} {L M : List SegS} {g : SegS} {img : List UInt8}
/-- Behind a segment's records something is written. -/
theorem cr_data {pend : List Wr} (hk : 64 * k ≤ img.length / 64) (h : ImgOk (secI img) k L) (hg : g ∈ L) {f : Nat → List UInt8} (hfl : ∀ j, (f j).length = 64) {c : Nat} (hc : g.fin + 1 + c ≤ 64) (hpe : pend = wrL (64 * g.place + g.fin + 1) f c) (kept torn cut : Int) :
    ImgOk (secI (crashL kept torn cut 0 pend img)) k L := by
  subst hpe
  have hpl := h.pl g hg
  have q2 : ∀ x ∈ wrL (64 * g.place + g.fin + 1) f c, 0 ≤ x.1 ∧ x.1 < ((img.length / 64 : Nat) : Int) ∧ x.2.length = 64 := by
    intro x hx
    obtain ⟨m, hm, rfl⟩ := wrL_mem hx
    exact ⟨by simp only; omega, by simp only; omega, hfl m⟩
  have q3 : ∀ x ∈ wrL (64 * g.place + g.fin + 1) f c, ∀ c', c' ≤ 64 → ∀ s : List UInt8, s.length = 64 → (¬ (64 * g.place + g.fin < x.1.toNat ∧ x.1.toNat < 64 * g.place + 64) → s = secI img x.1.toNat) →
      (¬ (64 * g.place + g.fin < x.1.toNat ∧ x.1.toNat < 64 * g.place + 64) → x.2.take c' ++ s.drop c' = secI img x.1.toNat) := by
    intro x hx c' hc' s hs hq hno
    obtain ⟨m, hm, rfl⟩ := wrL_mem hx
    exfalso
    apply hno
    simp only [Int.toNat_natCast]; omega
  obtain ⟨_, gg⟩ := crash_inv (Q := fun i s => ¬ (64 * g.place + g.fin < i ∧ i < 64 * g.place + 64) → s = secI img i) (n := img.length / 64) kept torn cut _ 0 img rfl (fun i _ _ => rfl) q2 q3
  refine h.tail hg (fun i hi hno => gg i (by omega) (by omega)) (fun hf => ?_)
  rw [gg _ (by omega) (by omega)]
  exact recsOn_last (h.on g hg).2 hf
theorem done_data {f : Nat → List UInt8} (hfl : ∀ j, (f j).length = 64) {base c : Nat} (hb : base + c ≤ img.length / 64) :
    (applyL (wrL base f c) img).length / 64 = img.length / 64 ∧ ∀ i, i < img.length / 64 → secI (applyL (wrL base f c) img) i = if base ≤ i ∧ i < base + c then f (i - base) else secI img i := by
  obtain ⟨g1, g2⟩ := apply_sec (n := img.length / 64) (wrL base f c) img rfl (fun x hx => by
    obtain ⟨m, hm, rfl⟩ := wrL_mem hx
    exact ⟨by simp only; omega, by simp only; omega, hfl m⟩)
  refine ⟨g1, fun i hi => ?_⟩
  rw [g2 i hi, wrL_last]
  split <;> rfl
/-- How many sectors are written behind the head. -/
def cntS (e n : Nat) : Nat := if e + 1 + secs n < 64 then secs n + 1 else secs n
/-- The sectors of a record, made durable, and its head. -/
theorem rec_img {S : Nat → List UInt8} {b : List UInt8} (h : ImgOk (secI img) k (M ++ [g])) (hb0 : 0 < b.length) (hfit : g.fin + need b.length ≤ 64)
    (hS : ∀ i, i < 64 * k → S i = if i = 64 * g.place + g.fin then headB b.length 1 else if 64 * g.place + g.fin + 1 ≤ i ∧ i < 64 * g.place + g.fin + 1 + cntS g.fin b.length then datS b (i - (64 * g.place + g.fin + 1)) else secI img i) :
    ImgOk S k (M ++ [{ g with recs := g.recs ++ [b] }]) := by
  have hg : g ∈ M ++ [g] := by simp
  have hpl := h.pl g hg
  have hn : need b.length = 1 + secs b.length := rfl
  have hcn : g.fin + 1 + cntS g.fin b.length ≤ 64 := by unfold cntS; split <;> omega
  refine h.add (fun i hi hno => ?_) ⟨hfit, hb0, ?_, ?_, fun hlt => ?_⟩
  · rw [hS i hi, if_neg (by omega), if_neg (by omega)]
  · show S (64 * g.place + g.fin) = _
    rw [hS _ (by omega), if_pos rfl]
  · refine catT_pad (fun j hj => ?_)
    have hcs : secs b.length ≤ cntS g.fin b.length := by unfold cntS; split <;> omega
    show S (64 * g.place + (g.fin + 1 + j)) = _
    rw [hS _ (by omega), if_neg (by omega), if_pos (by omega)]
    unfold datS
    rw [show 64 * g.place + (g.fin + 1 + j) - (64 * g.place + g.fin + 1) = j by omega, if_pos hj]
  · have hcs : cntS g.fin b.length = secs b.length + 1 := by unfold cntS; rw [if_pos (by omega)]
    show mkS (S (64 * g.place + (g.fin + need b.length))) ≠ 1
    rw [hS _ (by omega), if_neg (by omega), if_pos (by omega)]
    unfold datS
    rw [if_neg (by omega), zeroS_mk]; decide
theorem old_img {S : Nat → List UInt8} {b : List UInt8} (h : ImgOk (secI img) k (M ++ [g])) (hfit : g.fin + need b.length ≤ 64)
    (hS : ∀ i, i < 64 * k → i ≠ 64 * g.place + g.fin → S i = if 64 * g.place + g.fin + 1 ≤ i ∧ i < 64 * g.place + g.fin + 1 + cntS g.fin b.length then datS b (i - (64 * g.place + g.fin + 1)) else secI img i) (hm : mkS (S (64 * g.place + g.fin)) ≠ 1) :
    ImgOk S k (M ++ [g]) := by
  have hg : g ∈ M ++ [g] := by simp
  have hpl := h.pl g hg
  have hn : need b.length = 1 + secs b.length := rfl
  have hcn : g.fin + 1 + cntS g.fin b.length ≤ 64 := by unfold cntS; split <;> omega
  refine h.tail hg (fun i hi hno => ?_) (fun _ => hm)
  rw [hS i hi (by omega), if_neg (by omega)]
end

/-! ### what Append answers -/
def fitsL (L : List SegS) (n : Nat) : Bool := match L.getLast? with | none => false | some g => decide (g.fin + need n ≤ 64)
def baseL (k : Nat) (L : List SegS) (n : Nat) : Option (List SegS) := if fitsL L n then some L else (freeP k L).map fun p => takeL p L
def addRec : List SegS → List UInt8 → List SegS
  | [], _ => []
  | [g], b => [{ g with recs := g.recs ++ [b] }]
  | g :: h :: L, b => g :: addRec (h :: L) b
theorem addRec_snoc (M : List SegS) (g : SegS) (b : List UInt8) : addRec (M ++ [g]) b = M ++ [{ g with recs := g.recs ++ [b] }] := by
  induction M with
  | nil => rfl
  | cons a M ih =>
    cases M with
    | nil => rfl
    | cons c M => simp only [List.cons_append, addRec] at ih ⊢; rw [ih]
def appR (k : Nat) (L : List SegS) (b : List UInt8) : Option Nat × Int × List SegS :=
  if b.length = 0 ∨ 3968 < b.length then (some 3, 0, L)
  else match baseL k L b.length with
    | none => (some 12, 0, L)
    | some L0 => (none, lastN L0, addRec L0 b)
theorem lastN_snoc (M : List SegS) (g : SegS) : lastN (M ++ [g]) = g.num := by unfold lastN; simp
theorem fitsL_snoc (M : List SegS) (g : SegS) (n : Nat) : fitsL (M ++ [g]) n = decide (g.fin + need n ≤ 64) := by unfold fitsL; simp
/-- An error is laid down, and the result's nought. -/
theorem err_set {w : World} {r5 r7 : Nat} {v5 v7 : Value} (h5 : ObjAt w r5 [v5]) (h7 : ObjAt w r7 [v7]) (hne : r5 ≠ r7) (A : Nat → Addr) (e' : Option Nat) {X : World → Prop}
    (hX : ∀ w4, ObjAt w4 r5 [.int .i64 0] → ObjAt w4 r7 [errO A e'] → Ext (fun k => k = r5 ∨ k = r7) w w4 → X w4) :
    canW w (⟨r5, 0, none⟩ : Addr) 1 ∧ ∀ w40 : World, w40 = w.setCell (⟨r5, 0, none⟩ : Addr) (.int .i64 0) → oneK (errO A e') (oneK (errO A e') (canW w40 (⟨r7, 0, none⟩ : Addr) 1 ∧ ∀ w41 : World, w41 = w40.setCell (⟨r7, 0, none⟩ : Addr) (errO A e') → X w41)) := by
  obtain ⟨c1, c2⟩ := h5.setOne 0 (by simp) (.int .i64 0)
  refine ⟨c1, fun w40 hw => errO_one A _ _ (errO_one A _ _ ?_)⟩
  obtain ⟨g1, g2, g3⟩ := c2 w40 hw
  obtain ⟨c3, c4⟩ := (h7.ext g2 (fun hh => hne hh.symm)).setOne 0 (by simp) (errO A e')
  refine ⟨c3, fun w41 hw2 => ?_⟩
  obtain ⟨g4, g5, g6⟩ := c4 w41 hw2
  exact hX w41 (g1.ext g5 (fun hh => hne hh)) g4 ((g2.mono (fun k hk => .inl hk)).trans g5 (fun _ h => h) (fun k hk => .inl (.inr hk)))
end Go.D

set_option linter.unusedVariables false
set_option linter.unusedSimpArgs false
namespace Go.D
open Go Go.Proofs

/-- What an Append comes to. -/
def AppPost (A : Nat → Addr) (w : World) (n0 r rd : Nat) (u : StP) (q : DevP) (d : DevS) (L : List SegS) (m : Nat) (b : List UInt8) (n : Int) (e' : Option Nat) (w' : World) : Prop :=
  ∃ (q' : DevP) (d' : DevS), DevAt w' rd q' d' ∧ d'.n = d.n ∧ d'.stops = d.stops ∧
    ((appR (d.n / 64) L b).1 ≠ none ∧ e' = (appR (d.n / 64) L b).1 ∧ n = 0 ∧ q' = q ∧ d' = d ∧ Keep w w' ∨
     (appR (d.n / 64) L b).1 = none ∧ e' = none ∧ n = (appR (d.n / 64) L b).2.1 ∧ (∃ u', Sys w' n0 r rd u' q' d' (appR (d.n / 64) L b).2.2 (m + 1) ∧ Foot (SysB r u rd q) (SysB r u' rd q') w w') ∨
     (appR (d.n / 64) L b).1 = none ∧ e' = some 11 ∧ d.stops = true ∧ CrOk d' (d.n / 64) [L, (baseL (d.n / 64) L b.length).getD L, (appR (d.n / 64) L b).2.2] ∧ Foot (SysB r u rd q) (DevB rd q') w w')

/-- A store whose last segment takes the record. -/
def AppMid (w8 : World) (n0 r rd : Nat) (u : StP) (q : DevP) (d : DevS) (L : List SegS) (m : Nat) (b : List UInt8) (w2 : World) : Prop :=
  ∃ (M : List SegS) (g : SegS) (u2 : StP) (q2 : DevP) (d2 : DevS), baseL (d.n / 64) L b.length = some (M ++ [g]) ∧ g.fin + need b.length ≤ 64 ∧ Sys w2 n0 r rd u2 q2 d2 (M ++ [g]) (m + 1) ∧ Foot (SysB r u rd q) (SysB r u2 rd q2) w8 w2 ∧ d2.n = d.n ∧ d2.stops = d.stops

theorem app_take {A : Nat → Addr} {w w8 w2 : World} {n0 r rd m r5 r7 : Nat} {u : StP} {q : DevP} {d : DevS} {L : List SegS} {b : List UInt8} {K : Value → World → Prop} (h : Sys w n0 r rd u q d L m) (hE : ErrsG segG A n0 w) (hm : m ≤ 2 ^ 60)
    (hK : ∀ n e' w', AppPost A w n0 r rd u q d L m b n e' w' → K (.tuple ⟨[.int .i64 n, errO A e']⟩) w') (hb0 : 0 < b.length) (hb1 : b.length ≤ 3968) (k8 : Keep w w8) (o5 : ObjAt w8 r5 [.int .i64 0]) (o7 : ObjAt w8 r7 [.nilIface]) (h57 : r5 ≠ r7) (h5 : w.heap.size ≤ r5) (h7 : w.heap.size ≤ r7)
    (k2 : Keep w8 w2) (hnf : fitsL L b.length = false) :
    Calls Tryd.prog fn_segs_Store_take ⟨[ptrR' r]⟩ w2 fun e37 w38 => ∃ e39 : Value, e37 = .returned e39 ∧ isI e39 ∧
      BIf (!isNilI e39) (canW w38 (⟨r5, 0, none⟩ : Addr) 1 ∧ ∀ w40 : World, w40 = World.setCell w38 (⟨r5, 0, none⟩ : Addr) (Value.int .i64 (0 : Int)) →
        oneK e39 (oneK e39 (canW w40 (⟨r7, 0, none⟩ : Addr) 1 ∧ ∀ w41 : World, w41 = World.setCell w40 (⟨r7, 0, none⟩ : Addr) e39 →
          ∃ n42 : Int, World.cell? w41 (⟨r5, 0, none⟩ : Addr) = some (Value.int .i64 n42) ∧ ∃ v43 : Value, World.cell? w41 (⟨r7, 0, none⟩ : Addr) = some v43 ∧ K (Value.tuple ⟨[(Value.int .i64 n42), v43]⟩) w41)))
      (AppMid w8 n0 r rd u q d L m b w38) := by
  have k2' := k8.trans k2
  have z2 := k2'.size
  have z8 := k8.size
  have hbase : baseL (d.n / 64) L b.length = (freeP (d.n / 64) L).map fun p => takeL p L := by unfold baseL; rw [hnf]; rfl
  have happ : appR (d.n / 64) L b = match baseL (d.n / 64) L b.length with | none => (some 12, 0, L) | some L0 => (none, lastN L0, addRec L0 b) := by unfold appR; rw [if_neg (by omega)]; try rfl
  have h5l := o5.lt
  have h7l := o7.lt
  refine (take_spec8 A (h.keep k2') (hE.keep k2') hm).mono ?_
  rintro e w38 ⟨e', q', d', rfl, hD', hn', hst', hcase⟩
  refine ⟨_, rfl, errO_isI A _, BIf_mk (fun h0 => ?_) (fun h0 => ?_)⟩
  · rcases hcase with ⟨rfl, hf, rfl, rfl, k38⟩ | ⟨rfl, _⟩ | ⟨rfl, hs, p, hf, hcr, ft⟩
    · have e1 : appR (d'.n / 64) L b = (some 12, 0, L) := by rw [happ, hbase, hf]; rfl
      refine err_set ((o5.keep k2).keep k38) ((o7.keep k2).keep k38) h57 A _ (fun w4 g5 g7 x4 => ⟨(0 : Int), g5.cell 0 (by simp), errO A (some 12), g7.cell 0 (by simp), hK 0 (some 12) w4 ?_⟩)
      refine ⟨q', d', hD'.ext x4 (fun k hk hh => ?_), rfl, rfl, .inl ⟨by rw [e1]; simp, by rw [e1], rfl, rfl, rfl, (k2'.trans k38).ext x4 (fun k hk => by omega)⟩⟩
      have := h.B.D.lt k hk
      omega
    · cases h0
    · have e1 : appR (d.n / 64) L b = (none, lastN (takeL p L), addRec (takeL p L) b) := by rw [happ, hbase, hf]; rfl
      have e2 : baseL (d.n / 64) L b.length = some (takeL p L) := by rw [hbase, hf]; rfl
      have hsb : ∀ k, SysB r u rd q k → k < w.heap.size := h.B.lt
      have ne5 : ¬ SysB r u rd q r5 := fun hh => by have := hsb _ hh; omega
      have ne7 : ¬ SysB r u rd q r7 := fun hh => by have := hsb _ hh; omega
      have zz := ft.1.size
      refine err_set ((o5.keep k2).ext ft.1 ne5) ((o7.keep k2).ext ft.1 ne7) h57 A _ (fun w4 g5 g7 x4 => ⟨(0 : Int), g5.cell 0 (by simp), errO A (some 11), g7.cell 0 (by simp), hK 0 (some 11) w4 ?_⟩)
      have k28 := k2.size
      refine ⟨q', d', hD'.ext x4 (fun k hk hh => ?_), hn', hst', .inr (.inr ⟨by rw [e1], rfl, hs, ?_, ?_, ?_⟩)⟩
      · rcases ft.2 k hk with h2 | h2
        · have := hsb k h2; omega
        · omega
      · rw [e1, e2]
        exact hcr.mono (fun L' hL' => by simp at hL' ⊢; rcases hL' with rfl | rfl <;> simp)
      · exact ((k2'.foot ft).1.trans x4 (fun _ h => h) (fun k hk => .inr (by omega)))
      · exact fun k hk => (k2'.foot ft).2 k hk
  · rcases hcase with ⟨rfl, _⟩ | ⟨rfl, p, u', hf, hS', ft⟩ | ⟨rfl, _⟩
    · cases h0
    · refine ⟨L, ⟨p, nextN L, []⟩, u', q', d', by rw [hbase, hf]; rfl, ?_, hS', ?_, hn', hst'⟩
      · unfold SegS.fin need secs sumN; omega
      · exact k2.foot ft
    · cases h0
end Go.D

set_option linter.unusedVariables false
set_option linter.unusedSimpArgs false
namespace Go.D
open Go Go.Proofs

/-- Where the writes of a record stand. -/
structure ApSt (wb w2 : World) (rd r113 lr D : Nat) (q0 : DevP) (d0 : DevS) (q2 : DevP) (d2 : DevS) (a : Int) : Prop where
  dv : DevAt w2 rd q2 d2
  im : d2.img = d0.img
  st : d2.stops = d0.stops
  nb : ∀ k, DevB rd q2 k → DevB rd q0 k ∨ wb.heap.size ≤ k
  e : Ext (fun k => DevB rd q0 k ∨ k = r113 ∨ k = lr) wb w2
  o : ObjAt w2 r113 [.int .i64 a]
  h : w2.heap[D]? = some (.deferred (some []))
/-- The blocks of the call. -/
structure ApF (wb : World) (rd r113 lr D : Nat) (q0 : DevP) : Prop where
  a : r113 < wb.heap.size ∧ lr < wb.heap.size ∧ D < wb.heap.size
  b : ¬ DevB rd q0 r113 ∧ ¬ DevB rd q0 lr ∧ ¬ DevB rd q0 D
  c : r113 ≠ lr ∧ D ≠ lr ∧ D ≠ r113
section
variable {wb w2 w3 w4 : World} {rd r113 lr D : Nat} {q0 q2 q3 : DevP} {d0 d2 d3 : DevS} {a : Int}
theorem ApSt.not (hF : ApF wb rd r113 lr D q0) (h : ApSt wb w2 rd r113 lr D q0 d0 q2 d2 a) : ¬ DevB rd q2 r113 ∧ ¬ DevB rd q2 lr ∧ ¬ DevB rd q2 D := by
  obtain ⟨a1, a2, a3⟩ := hF.a
  refine ⟨fun hh => ?_, fun hh => ?_, fun hh => ?_⟩
  · rcases h.nb _ hh with g | g
    · exact hF.b.1 g
    · omega
  · rcases h.nb _ hh with g | g
    · exact hF.b.2.1 g
    · omega
  · rcases h.nb _ hh with g | g
    · exact hF.b.2.2 g
    · omega
theorem ApSt.keep (h : ApSt wb w2 rd r113 lr D q0 d0 q2 d2 a) (hk : Keep w2 w3) : ApSt wb w3 rd r113 lr D q0 d0 q2 d2 a :=
  ⟨h.dv.keep hk, h.im, h.st, h.nb, h.e.trans hk (fun _ h => h) (fun _ h => h.elim), h.o.keep hk, hk.heap h.h⟩
theorem ApSt.dev (hF : ApF wb rd r113 lr D q0) (h : ApSt wb w2 rd r113 lr D q0 d0 q2 d2 a) (hd : DevAt w3 rd q3 d3) (hf : Foot (DevB rd q2) (DevB rd q3) w2 w3) (hi : d3.img = d2.img) (hs : d3.stops = d2.stops) : ApSt wb w3 rd r113 lr D q0 d0 q3 d3 a := by
  obtain ⟨n1, n2, n3⟩ := h.not hF
  have z := h.e.size
  exact ⟨hd, by rw [hi, h.im], by rw [hs, h.st], fun k hk => (hf.2 k hk).elim (h.nb k) (fun h2 => .inr (by omega)), h.e.trans hf.1 (fun _ h => h) (fun k hk => (h.nb k hk).elim (fun h2 => .inl (.inl h2)) (fun h2 => .inr h2)),
    h.o.ext hf.1 n1, hf.1.heap h.h n3⟩
theorem ApSt.dev2 (hF : ApF wb rd r113 lr D q0) (h : ApSt wb w2 rd r113 lr D q0 d0 q2 d2 a) (hd : DevAt w3 rd q3 d3) (hf : Foot (DevB rd q2) (DevB rd q3) w2 w3) : ApSt wb w3 rd r113 lr D q0 d3 q3 d3 a := by
  obtain ⟨n1, n2, n3⟩ := h.not hF
  have z := h.e.size
  exact ⟨hd, rfl, rfl, fun k hk => (hf.2 k hk).elim (h.nb k) (fun h2 => .inr (by omega)), h.e.trans hf.1 (fun _ h => h) (fun k hk => (h.nb k hk).elim (fun h2 => .inl (.inl h2)) (fun h2 => .inr h2)),
    h.o.ext hf.1 n1, hf.1.heap h.h n3⟩
theorem ApSt.put (hF : ApF wb rd r113 lr D q0) (h : ApSt wb w2 rd r113 lr D q0 d0 q2 d2 a) {o : Obj} (hw : w3 = w2.putObj lr o) : ApSt wb w3 rd r113 lr D q0 d0 q2 d2 a := by
  obtain ⟨n1, n2, n3⟩ := h.not hF
  have e3 : Ext (fun j => j = lr) w2 w3 := by rw [hw]; exact Ext.putObj _ _ _
  exact ⟨h.dv.ext e3 (fun k hk hh => n2 (hh ▸ hk)), h.im, h.st, h.nb, h.e.trans e3 (fun _ h => h) (fun k hk => .inl (.inr (.inr hk))), h.o.ext e3 (fun hh => hF.c.1 hh), e3.heap h.h (fun hh => hF.c.2.1 hh)⟩
theorem ApSt.set (hF : ApF wb rd r113 lr D q0) (h : ApSt wb w2 rd r113 lr D q0 d0 q2 d2 a) (v : Int) :
    canW w2 (⟨r113, 0, none⟩ : Addr) 1 ∧ ∀ w3 : World, w3 = w2.setCell (⟨r113, 0, none⟩ : Addr) (.int .i64 v) → ApSt wb w3 rd r113 lr D q0 d0 q2 d2 v ∧ Ext (fun k => k = r113) w2 w3 := by
  obtain ⟨n1, n2, n3⟩ := h.not hF
  obtain ⟨c1, c2⟩ := h.o.setOne 0 (by simp) (.int .i64 v)
  refine ⟨c1, fun w3 hw => ?_⟩
  obtain ⟨g1, g2, g3⟩ := c2 w3 hw
  exact ⟨⟨h.dv.ext g2 (fun k hk hh => n1 (by rw [← show k = r113 from hh]; exact hk)), h.im, h.st, h.nb, h.e.trans g2 (fun _ h => h) (fun k hk => .inl (.inr (.inl hk))), g1, g2.heap h.h (fun hh => hF.c.2.2 hh)⟩, g2⟩
end

/-- The last segment is another. -/
theorem StAt.upd {w w' : World} {r rd : Nat} {u : StP} {M : List SegS} {g g' : SegS} {x' : SegP} (h : StAt w r rd u (M ++ [g])) {x : SegP} (hxi : M.length < u.xs.length) (hxe : u.xs[M.length] = x) (he : Ext (SegB x) w w') (hx : SegAt w' x' g') (hB : ∀ k, SegB x' k → SegB x k ∨ w.heap.size ≤ k) (ho : x'.o = x.o) :
    StAt w' r rd ⟨u.sp, u.xs.take M.length ++ [x']⟩ (M ++ [g']) ∧ ∀ k, StB r ⟨u.sp, u.xs.take M.length ++ [x']⟩ k → StB r u k ∨ w.heap.size ≤ k := by
  have hlen := h.len
  rw [List.length_append, List.length_singleton] at hlen
  have hxs : u.xs = u.xs.take M.length ++ [x] := by
    conv => lhs; rw [← List.take_append_drop M.length u.xs, List.drop_eq_getElem_cons hxi, hxe]
    rw [List.drop_of_length_le (by omega)]
  have hxm : x ∈ u.xs := by rw [← hxe]; exact List.getElem_mem hxi
  have hds := h.ds x hxm
  have hsep := h.sep
  rw [hxs] at hsep
  obtain ⟨p1, _, p3⟩ := List.pairwise_append.1 hsep
  have lt := h.lt
  have hlen2 : (u.xs.take M.length).length = M.length := by rw [List.length_take]; omega
  have hym : ∀ y ∈ u.xs.take M.length, y ∈ u.xs := fun y hy => List.mem_of_mem_take hy
  have hx'd : ∀ k, SegB x' k → k ≠ r ∧ ¬ ownB u.sp k := fun k hk => by
    rcases hB k hk with h1 | h1
    · exact hds k h1
    · exact ⟨fun hh => by have := lt r (.inl rfl); omega, fun hh => by have := lt k (.inr (.inl hh)); omega⟩
  refine ⟨⟨h.o.ext he (fun hh => (hds r hh).1 rfl), ?_, by simp [hlen2], fun i hi hi' => ?_, ?_, h.sr, ?_⟩, ?_⟩
  · have h1 := h.s.ext he (fun k hk hh => (hds k hh).2 hk)
    have h2 : u.xs.map (fun x => ptrR' x.o) = (u.xs.take M.length ++ [x']).map fun x => ptrR' x.o := by
      conv => lhs; rw [hxs]
      rw [List.map_append, List.map_append, List.map_singleton, List.map_singleton, ho]
    rw [h2] at h1
    exact h1
  · by_cases hik : i < M.length
    · have e1 : (u.xs.take M.length ++ [x'])[i]'hi = u.xs[i]'(by omega) := by
        rw [List.getElem_append_left (by omega), List.getElem_take]
      have e2 : (M ++ [g'])[i]'hi' = M[i] := List.getElem_append_left hik
      have h1 := h.g i (by omega) (by simp; omega)
      rw [List.getElem_append_left hik] at h1
      simp only [e1, e2]
      refine h1.ext he (fun k hk hh => ?_)
      have h5 : u.xs[i]'(by omega) ∈ u.xs.take M.length := by
        rw [List.mem_take_iff_getElem]
        exact ⟨i, by omega, rfl⟩
      exact p3 _ h5 x (by simp) k hk hh
    · have hie : i = M.length := by
        have : (M ++ [g']).length = M.length + 1 := by simp
        omega
      subst hie
      have e1 : (u.xs.take M.length ++ [x'])[M.length]'hi = x' := by
        rw [List.getElem_append_right (by omega)]
        simp [hlen2]
      have e2 : (M ++ [g'])[M.length]'hi' = g' := by simp
      simp only [e1, e2]
      exact hx
  · refine List.pairwise_append.2 ⟨p1, List.pairwise_singleton _ _, fun y hy z hz k hk hh => ?_⟩
    rw [List.mem_singleton] at hz; subst hz
    rcases hB k hh with h1 | h1
    · exact p3 y hy x (by simp) k hk h1
    · have := lt k (.inr (.inr ⟨y, hym y hy, hk⟩)); omega
  · intro y hy k hk
    rcases List.mem_append.1 hy with h1 | h1
    · exact h.ds y (hym y h1) k hk
    · rw [List.mem_singleton] at h1; subst h1; exact hx'd k hk
  · rintro k (hk | hk | ⟨y, hy, hk⟩)
    · exact .inl (.inl hk)
    · exact .inl (.inr (.inl hk))
    · rcases List.mem_append.1 hy with h1 | h1
      · exact .inl (.inr (.inr ⟨y, hym y h1, hk⟩))
      · rw [List.mem_singleton] at h1; subst h1
        rcases hB k hk with h2 | h2
        · exact .inl (.inr (.inr ⟨x, hxm, h2⟩))
        · exact .inr h2

theorem Append_gen8 {A : Nat → Addr} {w : World} {n0 r rd m : Nat} {u : StP} {q : DevP} {d : DevS} {L : List SegS} {b : List UInt8} {s : Slc} {K : Value → World → Prop} (h : Sys w n0 r rd u q d L m) (hE : ErrsG segG A n0 w) (hm : m ≤ 2 ^ 60)
    (hb : bytesAt w s b) (hsc : s.l ≤ s.c) (hbl : b.length ≤ 2 ^ 20) (hbs : 0 < s.l → ∀ k, ownB s k → ¬ SysB r u rd q k)
    (hK : ∀ n e' w', AppPost A w n0 r rd u q d L m b n e' w' → K (.tuple ⟨[.int .i64 n, errO A e']⟩) w') : segs_Store_Append (some ⟨r, 0, none⟩) s w K := by
  unfold segs_Store_Append
  refine newS_mk (fun r3 w4 hr3 hb3 k3 hs3 => newS_mk (fun r5 w6 hr5 hb5 k5 hs5 => newS_mk (fun r7 w8 hr7 hb7 k7 hs7 => ?_)))
  have k8 : Keep w w8 := (k3.trans k5).trans k7
  have o3 : ObjAt w8 r3 [ptrR' r] := ((ObjAt.new' hb3).keep k5).keep k7
  have o5 : ObjAt w8 r5 [.int .i64 0] := (ObjAt.new' hb5).keep k7
  have o7 : ObjAt w8 r7 [.nilIface] := ObjAt.new' hb7
  have hsl := hb.1
  have kd8 : Keep w8 (World.drew w8) := Ext.drew _ _
  have hsys := h.B.lt
  have formE : b.length = 0 ∨ 3968 < b.length → ∃ v10 : Value, World.cell? (World.drew w8) (⟨gl_ErrForm, 0, none⟩ : Addr) = some v10 ∧
      canW (World.drew w8) (⟨r5, 0, none⟩ : Addr) 1 ∧ ∀ w11 : World, w11 = World.setCell (World.drew w8) (⟨r5, 0, none⟩ : Addr) (Value.int .i64 (0 : Int)) →
      (∃ v12 : Value, World.cell? w11 (⟨gl_ErrForm, 0, none⟩ : Addr) = some v12 ∧ v12 = v10) ∧
      oneK v10 (oneK v10 (canW w11 (⟨r7, 0, none⟩ : Addr) 1 ∧ ∀ w13 : World, w13 = World.setCell w11 (⟨r7, 0, none⟩ : Addr) v10 →
      ∃ n14 : Int, World.cell? w13 (⟨r5, 0, none⟩ : Addr) = some (Value.int .i64 n14) ∧ ∃ v15 : Value, World.cell? w13 (⟨r7, 0, none⟩ : Addr) = some v15 ∧ K (Value.tuple ⟨[(Value.int .i64 n14), v15]⟩) w13)) := by
    intro hlen
    have hg := errG_at ((hE.keep k8).keep kd8) 3 gl_ErrForm rfl (by decide)
    have hgl := hE.lt (g := gl_ErrForm) (by decide)
    have hz := h.B.z
    obtain ⟨c1, c2⟩ := err_set (o5.keep kd8) (o7.keep kd8) (by omega) A (some 3) (X := fun w13 => ∃ n14 : Int, World.cell? w13 (⟨r5, 0, none⟩ : Addr) = some (Value.int .i64 n14) ∧ ∃ v15 : Value, World.cell? w13 (⟨r7, 0, none⟩ : Addr) = some v15 ∧ K (Value.tuple ⟨[(Value.int .i64 n14), v15]⟩) w13)
      (fun w4 g5 g7 x4 => ⟨(0 : Int), g5.cell 0 (by simp), errO A (some 3), g7.cell 0 (by simp), hK 0 (some 3) w4 (by
        have e1 : appR (d.n / 64) L b = (some 3, 0, L) := by unfold appR; rw [if_pos hlen]
        refine ⟨q, d, (h.B.D.keep (k8.trans kd8)).ext x4 (fun k hk hh => ?_), rfl, rfl, .inl ⟨by rw [e1]; simp, by rw [e1], rfl, rfl, rfl, (k8.trans kd8).ext x4 (fun k hk => by omega)⟩⟩
        have := h.B.D.lt k hk; omega)⟩)
    refine ⟨_, hg, c1, fun w11 hw => ⟨⟨_, ?_, rfl⟩, c2 w11 hw⟩⟩
    obtain ⟨_, c4⟩ := (o5.keep kd8).setOne 0 (by simp) (.int .i64 0)
    exact (c4 w11 hw).2.1.cell hg (fun hh => by have : gl_ErrForm = r5 := hh; omega)
  refine ⟨fun w2 => Keep w8 w2 ∧ 0 < b.length ∧ b.length ≤ 3968, BIf_dec (fun h0 => formE (by omega)) (fun h0 => BIf_dec (fun h1 => formE (by omega)) (fun h1 => ⟨Ext.refl _ _, by omega, by omega⟩)), ?_⟩
  rintro w22 ⟨k22, hb0, hb1⟩
  intros
  have h22 := h.keep (k8.trans k22)
  have kd22 : Keep w22 (World.drew w22) := Ext.drew _ _
  have hLlen := h.len
  have hk := h.k
  have hSl := h.B.S.sl
  have hnn : d.n = d.img.length / 64 := rfl
  have happ : appR (d.n / 64) L b = match baseL (d.n / 64) L b.length with | none => (some 12, 0, L) | some L0 => (none, lastN L0, addRec L0 b) := by unfold appR; rw [if_neg (by omega)]; try rfl
  refine ⟨_, (o3.keep k22).cell 0 (by simp), needSome_mk rfl ⟨_, h22.B.S.c1, fun w2 => AppMid w8 n0 r rd u q d L m b w2, BIf_dec (fun h2 => ?_) (fun h2 => ?_), ?_⟩⟩
  · have hL0 : L = [] := List.length_eq_zero_iff.1 (by omega)
    refine ⟨_, ((o3.keep k22).keep kd22).cell 0 (by simp), app_take h hE hm hK hb0 hb1 k8 o5 o7 (by omega) (by have := k3.size; have := k5.size; omega) (by have := k3.size; have := k5.size; omega) (k22.trans kd22) ?_⟩
    subst hL0; rfl
  · have hd22 := h22.keep kd22
    obtain ⟨M, g, hLM⟩ : ∃ M g, L = M ++ [g] := ⟨L.dropLast, L.getLast (fun e => by rw [e] at hSl; exact h2 (by simp at hSl; omega)), (List.dropLast_concat_getLast _).symm⟩
    have hML : L.length = M.length + 1 := by rw [hLM]; simp
    obtain ⟨a, x, ha, hc, hx, _⟩ := hd22.B.S.at (i := M.length) (by omega)
    have hgx : L[M.length]'(by omega) = g := by simp [hLM]
    rw [hgx] at hx
    have e1 : Int.toNat (((u.sp.l : Nat) : Int) - 1) = M.length := by omega
    have hfin : g.fin ≤ 64 := (h.I.on g (by rw [hLM]; simp)).fin
    refine ⟨_, ((o3.keep k22).keep kd22).cell 0 (by simp), needSome_mk rfl ⟨_, hd22.B.S.c1, inR64 (by omega), needSome_mk ha ⟨by omega, by omega, _, by rw [e1]; exact hc, needSome_mk rfl ⟨_, (seg_c _ hx).2.2.2, inR64 (by omega), ?_⟩⟩⟩⟩
    rw [hsl]
    refine (sectors_spec8 b.length (by omega) _).mono ?_
    rintro e w52 ⟨rfl, rfl⟩
    have hsec : secs b.length ≤ 62 := by unfold secs; omega
    refine ⟨_, rfl, ⟨_, (seg_c _ hx).2.2.2, rfl⟩, ⟨_, by rw [e1]; exact hc, rfl⟩, ⟨_, hd22.B.S.c1, rfl⟩, ⟨_, ((o3.keep k22).keep kd22).cell 0 (by simp), rfl⟩, inR64 (by omega), BIf_dec (fun h3 => ?_) (fun h3 => ?_)⟩
    · refine ⟨_, ((o3.keep k22).keep kd22).cell 0 (by simp), app_take h hE hm hK hb0 hb1 k8 o5 o7 (by omega) (by have := k3.size; have := k5.size; omega) (by have := k3.size; have := k5.size; omega) (k22.trans kd22) ?_⟩
      rw [hLM, fitsL_snoc]
      exact decide_eq_false (by unfold need; omega)
    · have hf : fitsL L b.length = true := by
        rw [hLM, fitsL_snoc]
        exact decide_eq_true (by unfold need; omega)
      refine ⟨M, g, u, q, d, by unfold baseL; rw [hf, if_pos rfl, hLM], by unfold need; omega, by rw [← hLM]; exact hd22.up (by omega), ?_, rfl, rfl⟩
      exact (k22.trans kd22).foot (Foot.refl _ _)
  · rintro w66 ⟨M, g, u0, q0, d0, hbase, hfit, h66, f66, hn0, hst0⟩
    intros
    have kd66 : Keep w66 (World.drew w66) := Ext.drew _ _
    have zA := k3.size
    have zB := k5.size
    have zC := k7.size
    have n3 : ¬ SysB r u rd q r3 := fun hh => by have := hsys _ hh; omega
    have n5 : ¬ SysB r u rd q r5 := fun hh => by have := hsys _ hh; omega
    have n7 : ¬ SysB r u rd q r7 := fun hh => by have := hsys _ hh; omega
    have o3l := o3.lt
    have o5l := o5.lt
    have o7l := o7.lt
    have o3' := (o3.ext f66.1 n3).keep kd66
    have o5' := (o5.ext f66.1 n5).keep kd66
    have o7' := (o7.ext f66.1 n7).keep kd66
    have hd66 := h66.keep kd66
    have hsub : ∀ k, SysB r u0 rd q0 k → SysB r u rd q k ∨ w8.heap.size ≤ k := f66.2
    have ns : ∀ j, j < w8.heap.size → ¬ SysB r u rd q j → ¬ SysB r u0 rd q0 j := fun j h1 h2 hh => (hsub j hh).elim h2 (fun h3 => by omega)
    have hb66 : bytesAt (World.drew w66) s b := bytesAt_keep (bytesAt_stayX (bytesAt_keep hb k8) f66.1 hbs) kd66
    have hbl66 : 0 < s.l → ∀ k, ownB s k → k < w8.heap.size := fun h0 k hk => bytesAt_ltX (bytesAt_keep hb k8) h0 k hk
    have hbs0 : 0 < s.l → ∀ k, ownB s k → ¬ SysB r u0 rd q0 k := fun h0 k hk => ns k (hbl66 h0 k hk) (hbs h0 k hk)
    have hE66 : ErrsG segG A n0 (World.drew w66) := ((hE.keep k8).ext f66.1 (fun k hk => hk.elim (h.B.sn k) (h.B.dn k))).keep kd66
    have hSl0 := hd66.B.S.sl
    have hML : (M ++ [g]).length = M.length + 1 := by simp
    obtain ⟨a, x, ha, hc, hx, hxi, hxe⟩ := hd66.B.S.at (i := M.length) (by omega)
    have hgx : (M ++ [g])[M.length]'(by omega) = g := by simp
    rw [hgx] at hx
    have e1 : Int.toNat (((u0.sp.l : Nat) : Int) - 1) = M.length := by omega
    have hon := h66.I.on g (by simp)
    have hfin : g.fin ≤ 64 := hon.fin
    have hL0len := h66.len
    have hxB : ∀ k, SegB x k → StB r u0 k := fun k hk => .inr (.inr ⟨x, by rw [← hxe]; exact List.getElem_mem hxi, hk⟩)
    refine ⟨_, o3'.cell 0 (by simp), needSome_mk rfl ⟨_, hd66.B.S.c1, _, o3'.cell 0 (by simp), needSome_mk rfl ⟨_, hd66.B.S.c1, inR64 (by omega), needSome_mk ha ⟨by omega, by omega, _, by rw [e1]; exact hc, newS_mk (fun r102 w103 hr102 hb102 k103 hs103 => ?_)⟩⟩⟩⟩
    have h103 := hd66.keep k103
    have kc := k103
    refine ⟨⟨_, by rw [e1]; exact k103.cell hc, rfl⟩, ⟨_, h103.B.S.c1, rfl⟩, ⟨_, (o3'.keep k103).cell 0 (by simp), rfl⟩, ⟨_, h103.B.S.c1, rfl⟩, ⟨_, (o3'.keep k103).cell 0 (by simp), rfl⟩, ?_⟩
    obtain ⟨c1, c2⟩ := (ObjAt.new' hb102).setOne 0 (by simp) (ptrR' x.o)
    refine ⟨c1, fun w109 hw109 => ?_⟩
    obtain ⟨o102, e109, z109⟩ := c2 w109 hw109
    have k109 : Keep (World.drew w66) w109 := k103.ext e109 (fun k hk => by omega)
    have hx109 := hx.keep k109
    refine ⟨_, o102.cell 0 (by simp), needSome_mk rfl ⟨_, (seg_c _ hx109).2.2.2, inR64 (by omega), var1_mk (fun r113 w115 hr113 o113 k115 hs115 => ?_)⟩⟩
    have hmul : ((64 : Int)) = ((64 : Nat) : Int) := rfl
    refine (Chunk_spec s 64 (by omega) w115).mono ?_
    rintro e w117 ⟨b1, b2, rfl, ob1, ob2, k117, hb1l, hb2l⟩
    refine ⟨_, rfl, fn_slices_Chunk_byte_1, [], [ptrR' b1, ptrR' b2], rfl, by rfl, ?_⟩
    intro D lr rc wb hD hlr hwb hY
    have N := newRange hD hlr hwb
    have hdl := N.dl
    have hwbs := N.s
    have hdw := N.dw
    have kb : Keep (World.drew w66) wb := ((k109.trans k115).trans k117).trans N.k
    have z115 := k115.size
    have z117 := k117.size
    have z66 : (World.drew w66).heap.size = w66.heap.size := rfl
    have zf66 := f66.1.size
    have hBb := hd66.B.keep kb
    have o3b := o3'.keep kb
    have o5b := o5'.keep kb
    have o7b := o7'.keep kb
    have o102b := ((o102.keep k115).keep k117).keep N.k
    have o113b := (o113.keep k117).keep N.k
    have ob1b := ob1.keep N.k
    have ob2b := ob2.keep N.k
    have hbb : bytesAt wb s b := bytesAt_keep hb66 kb
    have hEb := hE66.keep kb
    have hxb := hx.keep kb
    have hsl66 : ∀ k, SysB r u0 rd q0 k → k < w66.heap.size := h66.B.lt
    have hr102l := o102.lt
    have hr113l := o113.lt
    have hb1l2 := ob1.lt
    have hb2l2 := ob2.lt
    have nD : ∀ j, w66.heap.size ≤ j → ¬ SysB r u0 rd q0 j := fun j hj hh => by have := hsl66 j hh; omega
    have hF : ApF wb rd r113 lr D q0 := ⟨⟨by omega, by omega, by omega⟩, ⟨fun hh => nD r113 (by omega) (.inr hh), fun hh => nD lr (by omega) (.inr hh), fun hh => nD D (by omega) (.inr hh)⟩, by omega, by omega, by omega⟩
    have nS : ∀ k, StB r u0 k → ¬ (DevB rd q0 k ∨ k = r113 ∨ k = lr) := fun k hk hh => by
      have h1 := hsl66 k (.inl hk)
      rcases hh with hh | hh | hh
      · exact h66.B.sep k hk hh
      · omega
      · omega
    -- what stands at a state of the writes
    have at_ : ∀ {w2 dd q2 d2 a}, ApSt wb w2 rd r113 lr D q0 dd q2 d2 a → StAt w2 r rd u0 (M ++ [g]) ∧ ObjAt w2 r3 [ptrR' r] ∧ ObjAt w2 r5 [.int .i64 0] ∧ ObjAt w2 r7 [.nilIface] ∧ ObjAt w2 r102 [ptrR' x.o] ∧ bytesAt w2 s b ∧ ErrsG segG A n0 w2 ∧ SegAt w2 x g := by
      intro w2 dd q2 d2 a hs
      have no : ∀ j, ¬ SysB r u0 rd q0 j → j ≠ r113 → j ≠ lr → ¬ (DevB rd q0 j ∨ j = r113 ∨ j = lr) := fun j h1 h2 h3 hh => by
        rcases hh with hh | hh | hh
        · exact h1 (.inr hh)
        · exact h2 hh
        · exact h3 hh
      refine ⟨hBb.S.ext hs.e nS, o3b.ext hs.e (no _ (ns _ o3l n3) (by omega) (by omega)), o5b.ext hs.e (no _ (ns _ o5l n5) (by omega) (by omega)), o7b.ext hs.e (no _ (ns _ o7l n7) (by omega) (by omega)),
        o102b.ext hs.e (no _ (nD _ (by omega)) (by omega) (by omega)), ?_, hEb.ext hs.e (fun k hk => ?_), hxb.ext hs.e (fun k hk => nS k (hxB k hk))⟩
      · exact bytesAt_stayX hbb hs.e (fun h0 k hk => no k (hbs0 h0 k hk) (by have := hbl66 h0 k hk; omega) (by have := hbl66 h0 k hk; omega))
      · have hz := h66.B.z
        rcases hk with hk | hk | hk
        · exact h66.B.dn k hk
        · omega
        · omega
    have atn : ∀ {w2 q2 d2 a}, ApSt wb w2 rd r113 lr D q0 d0 q2 d2 a → d2.n = d0.n := fun hs => by unfold DevS.n; rw [hs.im]
    -- the way out, when the device is down
    have down : ∀ {w' q' d'}, DevAt w' rd q' d' → d'.n = d0.n → d'.stops = d0.stops → d0.stops = true → CrOk d' (d.n / 64) [M ++ [g], addRec (M ++ [g]) b] → Ext (fun k => SysB r u0 rd q0 k ∨ k = r113 ∨ k = lr ∨ k = D ∨ k = r5 ∨ k = r7) wb w' → (∀ k, DevB rd q' k → DevB rd q0 k ∨ wb.heap.size ≤ k) →
        K (.tuple ⟨[.int .i64 0, errO A (some 11)]⟩) w' := by
      intro w' q' d' hD' hn' hs' hst hcr hext hnb
      refine hK 0 (some 11) w' ⟨q', d', hD', by rw [hn', hn0], by rw [hs', hst0], .inr (.inr ⟨by rw [happ, hbase], rfl, by rw [← hst0]; exact hst, ?_, ?_, fun k hk => ?_⟩)⟩
      · rw [happ, hbase]
        exact hcr.mono (fun L' hL' => by simp at hL' ⊢; rcases hL' with rfl | rfl <;> simp)
      · refine (((k8.foot f66).1.trans kd66 (fun _ h => h) (fun _ h => h.elim)).trans kb (fun _ h => h) (fun _ h => h.elim)).trans hext (fun _ h => h) (fun k hk => ?_)
        rcases hk with hk | hk
        · rcases hsub k hk with h1 | h1
          · exact .inl h1
          · exact .inr (by omega)
        · right; omega
      · rcases hnb k hk with h1 | h1
        · rcases hsub k (.inr h1) with h2 | h2
          · exact .inl h2
          · exact .inr (by omega)
        · exact .inr (by have := kb.size; omega)
    have tail : ∀ {w2 q2 d2}, DevAt w2 rd q2 d2 → d2.n = d0.n → d2.stops = d0.stops → d0.stops = true → CrOk d2 (d.n / 64) [M ++ [g], addRec (M ++ [g]) b] → Ext (fun k => SysB r u0 rd q0 k ∨ k = r113 ∨ k = lr ∨ k = D ∨ k = r5 ∨ k = r7) wb w2 → (∀ k, DevB rd q2 k → DevB rd q0 k ∨ wb.heap.size ≤ k) →
        w2.heap[D]? = some (.deferred (some [])) → ObjAt w2 r5 [.int .i64 0] → ObjAt w2 r7 [errO A (some 11)] →
        (World.heap w2)[D]? = some (.deferred (some [])) ∧ ∀ w173 : World, w173 = World.putObj w2 D (.deferred none) →
          ∃ n174 : Int, World.cell? w173 (⟨r5, 0, none⟩ : Addr) = some (Value.int .i64 n174) ∧ ∃ v175 : Value, World.cell? w173 (⟨r7, 0, none⟩ : Addr) = some v175 ∧ K (Value.tuple ⟨[(Value.int .i64 n174), v175]⟩) w173 := by
      intro w2 q2 d2 x1 x2 x3 x4 x5 x6 x7 x9 x10 x11
      refine ⟨x9, fun w151 hw151 => ?_⟩
      have e151 : Ext (fun j => j = D) w2 w151 := by rw [hw151]; exact Ext.putObj _ _ _
      have y5 := x10.ext e151 (fun hh => by omega)
      have y7 := x11.ext e151 (fun hh => by omega)
      have nlr : ∀ j, DevB rd q2 j → j ≠ D := fun j hj => by
        obtain ⟨f1, f2, f3⟩ := hF.a
        rcases x7 j hj with h1 | h1
        · exact fun hh => hF.b.2.2 (hh ▸ h1)
        · omega
      refine ⟨_, y5.cell 0 (by simp), _, y7.cell 0 (by simp), down (x1.ext e151 (fun j hj hh => nlr j hj hh)) x2 x3 x4 x5 ?_ x7⟩
      exact x6.trans e151 (fun _ h => h) (fun j hj => .inl (.inr (.inr (.inr (.inl hj)))))
    have errT : ∀ {w2 dd q2 d2 a}, ApSt wb w2 rd r113 lr D q0 dd q2 d2 a → d2.n = d0.n → d2.stops = d0.stops → d0.stops = true → CrOk d2 (d.n / 64) [M ++ [g], addRec (M ++ [g]) b] →
        canW w2 (⟨r5, 0, none⟩ : Addr) 1 ∧ ∀ w40 : World, w40 = w2.setCell (⟨r5, 0, none⟩ : Addr) (.int .i64 0) → oneK (errO A (some 11)) (oneK (errO A (some 11)) (canW w40 (⟨r7, 0, none⟩ : Addr) 1 ∧ ∀ w41 : World, w41 = w40.setCell (⟨r7, 0, none⟩ : Addr) (errO A (some 11)) →
          (World.heap w41)[D]? = some (.deferred (some [])) ∧ ∀ w173 : World, w173 = World.putObj w41 D (.deferred none) →
          ∃ n174 : Int, World.cell? w173 (⟨r5, 0, none⟩ : Addr) = some (Value.int .i64 n174) ∧ ∃ v175 : Value, World.cell? w173 (⟨r7, 0, none⟩ : Addr) = some v175 ∧ K (Value.tuple ⟨[(Value.int .i64 n174), v175]⟩) w173)) := by
      intro w2 dd q2 d2 a hs x2 x3 x4 x5
      obtain ⟨_, _, z3, z4, _⟩ := at_ hs
      refine err_set z3 z4 (by omega) A _ (fun w140 t5 t7 x140 => ?_)
      have m5 : ∀ j, DevB rd q2 j → j ≠ r5 ∧ j ≠ r7 := fun j hj => by
        rcases hs.nb j hj with h1 | h1
        · exact ⟨fun hh => ns r5 o5l n5 (by rw [← hh]; exact .inr h1), fun hh => ns r7 o7l n7 (by rw [← hh]; exact .inr h1)⟩
        · exact ⟨by omega, by omega⟩
      refine tail (hs.dv.ext x140 (fun j hj hh => hh.elim (m5 j hj).1 (m5 j hj).2)) x2 x3 x4 x5 ?_ hs.nb (x140.heap hs.h (fun hh => by omega)) t5 t7
      exact (hs.e.mono (fun j hj => by rcases hj with hj | hj | hj; exact .inl (.inr hj); exact .inr (.inl hj); exact .inr (.inr (.inl hj)))).trans x140 (fun _ h => h) (fun j hj => .inl (.inr (.inr (.inr (.inr hj)))))
    have hbl64 : b.length ≤ 3968 := hb1
    have hsecs : secs b.length ≤ 62 := by unfold secs; omega
    have hcn : g.fin + 1 + cntS g.fin b.length ≤ 64 := by unfold need at hfit; unfold cntS; split <;> omega
    have hcs : secs b.length ≤ cntS g.fin b.length := by unfold cntS; split <;> omega
    have hpl := h66.I.pl g (by simp)
    have hkn : d0.n / 64 = d.n / 64 := by rw [hn0]
    have hI0 : ImgOk (secI d0.img) (d.n / 64) (M ++ [g]) := by rw [← hkn]; exact h66.I
    have hd0n : d0.n = d0.img.length / 64 := rfl
    have crd : ∀ {d' : DevS} {c : Nat}, d'.img = d0.img → c ≤ cntS g.fin b.length → d'.pend = wrL (64 * g.place + g.fin + 1) (datS b) c → CrOk d' (d.n / 64) [M ++ [g], addRec (M ++ [g]) b] := by
      intro d' c h1 h2 h3
      refine ⟨by rw [h3, wrL_len]; omega, fun kept torn cut => ?_⟩
      refine ⟨M ++ [g], by simp, ?_⟩
      rw [h1]
      exact cr_data (by omega) hI0 (by simp) (datS_len b) (by omega) h3 _ _ _
    let J : Nat → World → Prop := fun k w2 => ∃ q2 d2, ApSt wb w2 rd r113 lr D q0 d0 q2 d2 ((g.fin + 1 + k : Nat) : Int) ∧ w2.heap[lr]? = some (.loop (rc .ready none)) ∧ d2.pend = wrL (64 * g.place + g.fin + 1) (datS b) k ∧ k ≤ secs b.length
    let X : World → Prop := fun w2 => ∃ q2 d2, DevAt w2 rd q2 d2 ∧ d2.n = d0.n ∧ d2.stops = d0.stops ∧ d0.stops = true ∧ CrOk d2 (d.n / 64) [M ++ [g], addRec (M ++ [g]) b] ∧ Ext (fun k => SysB r u0 rd q0 k ∨ k = r113 ∨ k = lr ∨ k = D ∨ k = r5 ∨ k = r7) wb w2 ∧ (∀ k, DevB rd q2 k → DevB rd q0 k ∨ wb.heap.size ≤ k) ∧
      w2.heap[lr]? = some (.loop (rc .done (some Code.ret))) ∧ w2.heap[D]? = some (.deferred (some [])) ∧ ObjAt w2 r5 [.int .i64 0] ∧ ObjAt w2 r7 [errO A (some 11)]
    have hJ0 : J 0 wb := ⟨q0, d0, ⟨hBb.D, rfl, rfl, fun k hk => .inl hk, Ext.refl _ _, by have := o113b; rw [show ((g.fin : Int) + 1) = ((g.fin + 1 + 0 : Nat) : Int) by omega] at this; exact this, N.d⟩, N.l, h66.p, by omega⟩
    have step : ∀ k (hk : k * 64 < b.length) (w28 : World) (sd : Slc), J k w28 → bytesAt w28 sd (chunkB b 64 k) →
        YieldC Tryd.prog lr ⟨[sd.v]⟩ w28 fun e w' => (e = .returned (.bool true) ∧ J (k + 1) w') ∨ (e = .returned (.bool false) ∧ X w') := by
      rintro k hk w28 sd ⟨q2, d2, hs, hl, hp, hks⟩ hsd
      have hk1 : k < secs b.length := by unfold secs; omega
      refine hY sd w28 _ hl ⟨hl, fun w36 hw36 => ?_⟩
      have hs36 := hs.put hF hw36
      have hl36 : w36.heap[lr]? = some (.loop (rc .busy none)) := by rw [hw36]; exact putObj_new hl
      have e36 : Ext (fun j => j = lr) w28 w36 := by rw [hw36]; exact Ext.putObj _ _ _
      have hsd36 : bytesAt w36 sd (chunkB b 64 k) := bytesAt_stayX hsd e36 (fun h0 j hj2 hh => by
        subst hh
        obtain ⟨a, ha, rfl⟩ := hj2
        obtain ⟨a', ha', hc'⟩ := cellsAt_get hsd.2 (i := 0) (by rw [List.length_map, ← hsd.1]; exact h0)
        rw [ha] at ha'; cases ha'
        have : w28.cell? (a.add 0) = none := by
          unfold World.cell?
          rw [add_block, hl]
        rw [this] at hc'; cases hc')
      refine ⟨by omega, by omega, by omega, newS_mk (fun r127 w128 hr127 hb127 k128 hs128 => ?_)⟩
      have hz := Own.zeros hb127
      have hcl := chunk_len b k
      have hcp := fun (K : Int → World → Prop) => copy_own (K := K) (sz := 1) (lo := 0) (d := (⟨some ⟨r127, 0, none⟩, 64, 64⟩ : Slc)) (src := sd) (new := (chunkB b 64 k).map byteV) hz (by have := hsd.1; show 0 + sd.l ≤ 64; omega) (Nat.le_refl _) (by rw [List.length_map, hsd.1]; omega) (bytesAt_keep hsd36 k128).2 (one_bytes _)
      have esub : Slc.sub (⟨some ⟨r127, 0, none⟩, 64, 64⟩ : Slc) 1 0 64 64 = ⟨some ⟨r127, 0, none⟩, 64, 64⟩ := by simp [Slc.sub, Addr.add]
      simp only [esub] at hcp
      refine hcp _ (fun w130 g1 g2 g3 => ?_)
      have epad : ((List.replicate 64 (0 : UInt8)).map byteV).take (0 * 1) ++ (chunkB b 64 k).map byteV ++ ((List.replicate 64 (0 : UInt8)).map byteV).drop (0 * 1 + ((chunkB b 64 k).map byteV).length) = (datS b k).map byteV := by
        unfold datS
        rw [if_pos hk1]
        unfold padC
        simp only [Nat.zero_mul, List.take_zero, List.nil_append, Nat.zero_add, List.length_map, List.map_append, ← List.map_drop, List.drop_replicate]
      rw [epad] at g1
      have kd : Keep w130 (World.drew w130) := Ext.drew _ _
      have k130 : Keep w36 (World.drew w130) := (k128.ext g2 (fun j hj => by
        obtain ⟨a, ha, rfl⟩ := hj
        cases ha
        show w36.heap.size ≤ r127; omega)).trans kd
      have hs130 := hs36.keep k130
      obtain ⟨a1, a2, a3, a4, a5, a6, a7, a8⟩ := at_ hs130
      have a9 := atn hs130
      have gD := g1.keep kd
      refine ⟨_, a2.cell 0 (by simp), _, a5.cell 0 (by simp), needSome_mk rfl ⟨_, (seg_c _ a8).1, _, hs130.o.cell 0 (by simp), ?_⟩⟩
      refine (write_spec8 A a1.c0 hs130.dv g.place (g.fin + 1 + k) (by omega) _ (datS b k) gD.bytes (datS_len b k) (a7.sub segG_dsk) (h66.B.dn rd (.inl rfl)) (fun j hj hh => ?_) (by rw [hp, wrL_len]; omega)).mono ?_
      · obtain ⟨a, ha, rfl⟩ := hj
        cases ha
        have h9 := hs36.dv.lt rd (.inl rfl)
        have : r127 = rd := hh
        omega
      rintro e w137 ⟨e', q3, d3, rfl, hD3, f3, hi3, hst3, hcase⟩
      have hs137 := hs130.dev hF hD3 f3 hi3 hst3
      obtain ⟨_, y2, y3⟩ := hs130.not hF
      have hl137 := f3.1.heap (k130.heap hl36) y2
      obtain ⟨z1, z2, z3, z4, z5, z6, z7, z8⟩ := at_ hs137
      have z9 := atn hs137
      have ebase : ((64 * g.place + (g.fin + 1 + k) : Nat) : Int) = ((64 * g.place + g.fin + 1 + k : Nat) : Int) := by congr 1; omega
      refine ⟨_, rfl, errO_isI A _, BIf_mk (fun h0 => ?_) (fun h0 => ?_)⟩
      · rcases hcase with ⟨rfl, _⟩ | ⟨rfl, hst, hp3⟩
        · cases h0
        · refine err_set z3 z4 (by omega) A _ (fun w140 t5 t7 x140 => ?_)
          have hl140 := x140.heap hl137 (fun hh => by omega)
          have hD140 := x140.heap hs137.h (fun hh => by omega)
          refine ⟨hl140, fun w141 hw141 => .inr ⟨rfl, ?_⟩⟩
          have e141 : Ext (fun j => j = lr) w140 w141 := by rw [hw141]; exact Ext.putObj _ _ _
          obtain ⟨m1, m2, m3⟩ := hs137.not hF
          have m5 : ∀ j, DevB rd q3 j → j ≠ r5 ∧ j ≠ r7 := fun j hj => by
            rcases hs137.nb j hj with h1 | h1
            · exact ⟨fun hh => ns r5 o5l n5 (by rw [← hh]; exact .inr h1), fun hh => ns r7 o7l n7 (by rw [← hh]; exact .inr h1)⟩
            · exact ⟨by omega, by omega⟩
          refine ⟨q3, d3, (hD3.ext x140 (fun j hj hh => hh.elim (m5 j hj).1 (m5 j hj).2)).ext e141 (fun j hj hh => m2 (hh ▸ hj)), z9, hs137.st, by rw [← hs130.st]; exact hst, crd (c := k) (by rw [hs137.im]) (by omega) (by rw [hp3, hp]), ?_, hs137.nb, ?_, ?_, ?_, ?_⟩
          · exact ((hs137.e.mono (fun j hj => by rcases hj with hj | hj | hj; exact .inl (.inr hj); exact .inr (.inl hj); exact .inr (.inr (.inl hj)))).trans x140 (fun _ h => h) (fun j hj => .inl (.inr (.inr (.inr (.inr hj)))))).trans e141 (fun _ h => h) (fun j hj => .inl (.inr (.inr (.inl hj))))
          · rw [hw141]; exact putObj_new hl140
          · exact e141.heap hD140 (fun hh => by omega)
          · exact t5.ext e141 (fun hh => by omega)
          · exact t7.ext e141 (fun hh => by omega)
      · rcases hcase with ⟨rfl, hp3⟩ | ⟨rfl, _⟩
        · obtain ⟨s1, s2⟩ := hs137.set hF (((g.fin + 1 + k : Nat) : Int) + 1)
          refine ⟨_, hs137.o.cell 0 (by simp), inR64 (by omega), s1, fun w143 hw143 => ?_⟩
          obtain ⟨hs143, x143⟩ := s2 w143 hw143
          have hl143 := x143.heap hl137 (fun hh => by omega)
          refine ⟨hl143, fun w144 hw144 => .inl ⟨rfl, q3, d3, ?_, by rw [hw144]; exact putObj_new hl143, by rw [hp3, hp, wrL_succ, ebase], by omega⟩⟩
          have := hs143.put hF hw144
          rw [show (((g.fin + 1 + k : Nat) : Int) + 1) = ((g.fin + 1 + (k + 1) : Nat) : Int) by omega] at this
          exact this
        · cases h0
    have hcall := Chunk_1_specX s b 64 lr b1 b2 J X (by omega) (by omega) (by omega) hsc (fun k w2 hj => ?_) (fun k w2 hj => ?_) step wb hJ0
    refine Calls.mono (show Calls Tryd.prog fn_slices_Chunk_byte_1 _ wb _ from hcall) ?_
    · rintro e w149 ⟨rfl, ⟨k, hk1, hk2, hj⟩ | hx9⟩
      · obtain ⟨q2, d2, hs149, hl149, hp149, hks⟩ := hj
        have hke : k = secs b.length := by unfold secs at hks ⊢; omega
        subst hke
        refine ⟨⟨_, rfl⟩, .inr ⟨hl149, fun w154 hw154 => ?_⟩⟩
        have hs154 := hs149.put hF hw154
        refine ⟨fun w2 => ∃ q2 d2, ApSt wb w2 rd r113 lr D q0 d0 q2 d2 ((g.fin + 1 + secs b.length : Nat) : Int) ∧ d2.pend = wrL (64 * g.place + g.fin + 1) (datS b) (cntS g.fin b.length), ⟨_, hs154.o.cell 0 (by simp), BIf_dec (fun h5 => ?_) (fun h5 => ?_)⟩, ?_⟩
        · have hcn1 : cntS g.fin b.length = secs b.length + 1 := by unfold cntS; rw [if_pos (by omega)]
          have kd : Keep w154 (World.drew w154) := Ext.drew _ _
          have hsd := hs154.keep kd
          obtain ⟨a1, a2, a3, a4, a5, a6, a7, a8⟩ := at_ hsd
          refine ⟨_, a2.cell 0 (by simp), _, a5.cell 0 (by simp), needSome_mk rfl ⟨_, (seg_c _ a8).1, _, hsd.o.cell 0 (by simp), by omega, by omega, by omega, newS_mk (fun r162 w163 hr162 hb162 k163 hs163 => ?_)⟩⟩
          have hs163' := hsd.keep k163
          have hz := Own.zeros hb162
          obtain ⟨b1', b2', b3', b4', b5', b6', b7', b8'⟩ := at_ hs163'
          refine ⟨⟨_, hs163'.o.cell 0 (by simp), rfl⟩, ⟨_, (seg_c _ b8').1, rfl⟩, ⟨_, b5'.cell 0 (by simp), rfl⟩, ⟨_, b2'.cell 0 (by simp), rfl⟩, ?_⟩
          have hzz : datS b (secs b.length) = zeroS := by unfold datS; rw [if_neg (by omega)]
          have hn9 := atn hs163'
          refine (write_spec8 A b1'.c0 hs163'.dv g.place (g.fin + 1 + secs b.length) (by omega) _ zeroS hz.bytes rfl (b7'.sub segG_dsk) (h66.B.dn rd (.inl rfl)) (fun j hj hh => ?_) (by rw [hp149, wrL_len]; omega)).mono ?_
          · obtain ⟨a, ha, rfl⟩ := hj
            cases ha
            have h9 := hsd.dv.lt rd (.inl rfl)
            have : r162 = rd := hh
            omega
          rintro e w169 ⟨e', q3, d3, rfl, hD3, f3, hi3, hst3, hcase⟩
          have hs169 := hs163'.dev hF hD3 f3 hi3 hst3
          refine ⟨_, rfl, errO_isI A _, BIf_mk (fun h0 => ?_) (fun h0 => ?_)⟩
          · rcases hcase with ⟨rfl, _⟩ | ⟨rfl, hst, hp3⟩
            · cases h0
            · exact errT hs169 (atn hs169) hs169.st (by rw [← hs163'.st]; exact hst) (crd (c := secs b.length) hs169.im hcs (by rw [hp3, hp149]))
          · rcases hcase with ⟨rfl, hp3⟩ | ⟨rfl, _⟩
            · refine ⟨q3, d3, hs169, ?_⟩
              rw [hp3, hp149, hcn1, wrL_succ, hzz]
              rw [show ((64 * g.place + (g.fin + 1 + secs b.length) : Nat) : Int) = ((64 * g.place + g.fin + 1 + secs b.length : Nat) : Int) by congr 1; omega]
            · cases h0
        · have hcn1 : cntS g.fin b.length = secs b.length := by unfold cntS; rw [if_neg (by omega)]
          exact ⟨q2, d2, hs154, by rw [hcn1]; exact hp149⟩
        · rintro w176 ⟨q2, d2, hs176, hp176⟩
          intros
          obtain ⟨a1, a2, a3, a4, a5, a6, a7, a8⟩ := at_ hs176
          have n9 := atn hs176
          refine ⟨_, a2.cell 0 (by simp), needSome_mk rfl ⟨_, a1.c0, (flush_spec8 A hs176.dv (a7.sub segG_dsk) (h66.B.dn rd (.inl rfl)) (by rw [hp176, wrL_len]; omega)).mono ?_⟩⟩
          rintro e w195 ⟨e', q3, d3, rfl, hD3, f3, hst3, hcase⟩
          refine ⟨_, rfl, errO_isI A _, BIf_mk (fun h0 => ?_) (fun h0 => ?_)⟩
          · rcases hcase with ⟨rfl, _⟩ | ⟨rfl, hst, hi3, hp3⟩
            · cases h0
            · have hs195 := hs176.dev hF hD3 f3 hi3 hst3
              exact errT hs195 (atn hs195) hs195.st (by rw [← hs176.st]; exact hst) (crd (c := cntS g.fin b.length) hs195.im (Nat.le_refl _) (by rw [hp3, hp176]))
          · rcases hcase.symm with ⟨rfl, _⟩ | ⟨rfl, hi3, hp3⟩
            · cases h0
            rw [hp176, hs176.im] at hi3
            obtain ⟨c1', c2'⟩ := done_data (img := d0.img) (datS_len b) (base := 64 * g.place + g.fin + 1) (c := cntS g.fin b.length) (by omega)
            rw [← hi3] at c1' c2'
            have hs195 := hs176.dev2 hF hD3 f3
            have hst30 : d3.stops = d0.stops := by rw [hst3, hs176.st]
            have kd : Keep w195 (World.drew w195) := Ext.drew _ _
            have hsd := hs195.keep kd
            obtain ⟨z1, z2, z3, z4, z5, z6, z7, z8⟩ := at_ hsd
            rw [hsl]
            refine ⟨_, z2.cell 0 (by simp), _, z5.cell 0 (by simp), needSome_mk rfl ⟨_, (seg_c _ z8).1, _, z5.cell 0 (by simp), needSome_mk rfl ⟨_, (seg_c _ z8).2.2.2, (head_spec8 b.length 1 (by omega) _).mono ?_⟩⟩⟩
            rintro e w210 ⟨t, rfl, ht, htf, k210⟩
            have hs210 := hsd.keep k210
            obtain ⟨y1, y2, y3, y4, y5, y6, y7, y8⟩ := at_ hs210
            refine ⟨t, rfl, ⟨_, (seg_c _ y8).2.2.2, rfl⟩, ⟨_, y5.cell 0 (by simp), rfl⟩, ⟨_, (seg_c _ y8).1, rfl⟩, ⟨_, y5.cell 0 (by simp), rfl⟩, ⟨_, y2.cell 0 (by simp), rfl⟩, ?_⟩
            have hn3 : d3.n = d0.n := c1'
            have hz66 := h66.B.z
            have hnr : ¬ DevB rd q3 r := fun hh => by
              rcases hs210.nb r hh with h1 | h1
              · exact h66.B.nr h1
              · have := hsl66 r (.inl (.inl rfl)); omega
            have hdn3 : ∀ k, DevB rd q3 k → n0 ≤ k := fun k hk => (hs210.nb k hk).elim (h66.B.dn k) (fun h1 => by omega)
            have zz210 := hs210.e.size
            refine (sure_spec8 A y1.c0 hnr hs210.dv hp3 g.place g.fin (by unfold need at hfit; omega) t _ ht.bytes (headB_len _ _) (y7.sub segG_dsk) hdn3 (by omega) (DevB_sep hsd.dv htf)).mono ?_
            rintro e w218 ⟨e', q4, d4, rfl, hD4, f4, hst4, hcase4⟩
            have hs218 := hs210.dev2 hF hD4 f4
            have ha3 : 64 * g.place + g.fin < d3.img.length / 64 := by unfold need at hfit; omega
            refine ⟨_, rfl, errO_isI A _, BIf_mk (fun h0 => ?_) (fun h0 => ?_)⟩
            · rcases hcase4 with ⟨rfl, _⟩ | ⟨rfl, hst', hi4, hp4⟩
              · cases h0
              · refine errT hs218 (by unfold DevS.n; rw [hi4]; exact hn3) (by rw [hst4, hst30]) (by rw [← hst30]; exact hst') ⟨by rcases hp4 with h9 | h9 <;> rw [h9] <;> simp, fun kept torn cut => ?_⟩
                rw [hi4]
                obtain ⟨v1, v2⟩ := cr_one (a := 64 * g.place + g.fin) (img := d3.img) ha3 (headB_len b.length 1) hp4 kept torn cut
                have hS : ∀ i, i < 64 * (d.n / 64) → i ≠ 64 * g.place + g.fin → secI (crashL kept torn cut 0 d4.pend d3.img) i = if 64 * g.place + g.fin + 1 ≤ i ∧ i < 64 * g.place + g.fin + 1 + cntS g.fin b.length then datS b (i - (64 * g.place + g.fin + 1)) else secI d0.img i := by
                  intro i hi hne
                  rw [v1 i (by omega) hne, c2' i (by omega)]
                rcases v2 with v2 | ⟨c', hc', v2⟩
                · refine ⟨addRec (M ++ [g]) b, by simp, ?_⟩
                  rw [addRec_snoc]
                  refine rec_img hI0 hb0 hfit (fun i hi => ?_)
                  by_cases hne : i = 64 * g.place + g.fin
                  · rw [if_pos hne, hne, v2]
                  · rw [if_neg hne]; exact hS i hi hne
                · refine ⟨M ++ [g], by simp, ?_⟩
                  refine old_img hI0 hfit hS ?_
                  rw [v2, mk_torn (headB_len _ _) hc' (secI_len ha3), c2' _ (by omega), if_neg (by omega)]
                  exact recsOn_last hon.2 (by unfold need at hfit; show g.fin < 64; omega)
            · rcases hcase4.symm with ⟨rfl, _⟩ | ⟨rfl, hi4, hp4⟩
              · cases h0
              have hn4 : d4.n = d0.n := by
                show d4.img.length / 64 = _
                rw [hi4, putSec_len ha3 (headB_len _ _) (Nat.le_refl _)]; exact hn3
              have hI4 : ImgOk (secI d4.img) (d.n / 64) (M ++ [{ g with recs := g.recs ++ [b] }]) := by
                refine rec_img hI0 hb0 hfit (fun i hi => ?_)
                rw [hi4, secI_put64 ha3 (headB_len _ _) (by omega)]
                by_cases hne : i = 64 * g.place + g.fin
                · rw [if_pos hne, if_pos hne]
                · rw [if_neg hne, if_neg hne, c2' i (by omega)]
              have kd2 : Keep w218 (World.drew w218) := Ext.drew _ _
              have hs2 := hs218.keep kd2
              obtain ⟨m1, m2, m3, m4, m5, m6, m7, m8⟩ := at_ hs2
              have r102c : ∀ {w2 : World}, Keep (World.drew w218) w2 → w2.cell? (⟨r102, 0, none⟩ : Addr) = some (ptrR' x.o) := fun hk => (m5.keep hk).cell 0 (by simp)
              refine ⟨_, r102c (Ext.refl _ _), _, r102c (Ext.refl _ _), _, r102c (Ext.refl _ _), needSome_mk rfl ⟨_, (seg_c _ m8).2.2.1, _, hs2.o.cell 0 (by simp), (CloneB_own s b _ m6 (by omega)).mono ?_⟩⟩
              rintro e w232 ⟨t2, rfl, ht2, htf2, k232⟩
              refine ⟨t2, rfl, ⟨_, (hs2.keep k232).o.cell 0 (by simp), rfl⟩, ⟨_, (seg_c _ (m8.keep k232)).2.2.1, rfl⟩, ⟨_, r102c k232, rfl⟩, ⟨_, r102c k232, rfl⟩, ⟨_, r102c k232, rfl⟩, newS_mk (fun r239 w240 hr239 hb239 k239 hs239 => ?_)⟩
              have k240 := k232.trans k239
              have hs240 := hs2.keep k240
              have x240 := m8.keep k240
              refine ⟨⟨_, hs240.o.cell 0 (by simp), rfl⟩, ⟨_, (seg_c _ x240).2.2.1, rfl⟩, ⟨_, r102c k240, rfl⟩, ⟨_, r102c k240, rfl⟩, ⟨_, r102c k240, rfl⟩, ?_⟩
              have hrl := sumN_ge g.recs
              have hfd : g.fin = 1 + sumN g.recs := rfl
              have zdr : (World.drew w218).heap.size = w218.heap.size := rfl
              refine x240.r.snoc (cs := [t2.v]) (x := b) (z := [(⟨none, 0, 0⟩ : Slc).v]) rfl ⟨t2, rfl, (ht2.keep k239).bytes⟩ (fun k hk hh => ?_) hb239 (.inl (by simp)) (by omega) (fun s' w247 g1 g2 g3 => ?_)
              · have h5 := htf2 k (foot_byt hk).2
                have h6 := m8.r.lt k hh
                omega
              · have nx : ∀ j, SegB x j → j < w66.heap.size ∧ ¬ DevB rd q0 j ∧ j ≠ r5 ∧ j ≠ r7 := fun j hj => ⟨hsl66 j (.inl (hxB j hj)), h66.B.sep j (hxB j hj), fun hh => ns r5 o5l n5 (by rw [← hh]; exact .inl (hxB j hj)), fun hh => ns r7 o7l n7 (by rw [← hh]; exact .inl (hxB j hj))⟩
                have zwb := hs240.e.size
                have zD4 : ∀ j, DevB rd q4 j → ¬ SegB x j := fun j hj hh => by
                  rcases hs240.nb j hj with h1 | h1
                  · exact (nx j hh).2.1 h1
                  · have := (nx j hh).1; omega
                have m240 := m1.keep k240
                have o247 := x240.o.ext g2 x240.n1
                have hs' : ¬ ownB s' x.o := fun hh => by
                  rcases g3 _ hh with h5 | h5
                  · exact x240.n1 h5
                  · have := x240.o.lt; omega
                have hxo := x240.o.lt
                -- what is left alone by the segment's cells
                have far : ∀ {w3 : World}, Ext (SegB x) w240 w3 → w3.cell? (⟨r102, 0, none⟩ : Addr) = some (ptrR' x.o) ∧ ObjAt w3 r113 [.int .i64 ((g.fin + 1 + secs b.length : Nat) : Int)] ∧ ObjAt w3 r5 [.int .i64 0] ∧ ObjAt w3 r7 [.nilIface] ∧ w3.heap[D]? = some (.deferred (some [])) ∧ DevAt w3 rd q4 d4 := by
                  intro w3 hex
                  have nn : ∀ j, w66.heap.size ≤ j → ¬ SegB x j := fun j hj hh => by have := (nx j hh).1; omega
                  exact ⟨((m5.keep k240).ext hex (nn _ (by omega))).cell 0 (by simp), hs240.o.ext hex (nn _ (by omega)), (m3.keep k240).ext hex (fun hh => (nx _ hh).2.2.1 rfl), (m4.keep k240).ext hex (fun hh => (nx _ hh).2.2.2 rfl),
                    hex.heap hs240.h (nn _ (by omega)), hs240.dv.ext hex (fun k hk hh => zD4 k hk hh)⟩
                have x247 : Ext (SegB x) w240 w247 := g2.mono (fun k hk => .inr (.inl hk))
                obtain ⟨f1, f2, _⟩ := far x247
                obtain ⟨c3, c4⟩ := o247.setOne 2 (by simp [segC]) s'.v
                refine ⟨⟨_, f2.cell 0 (by simp), rfl⟩, ⟨_, f1, rfl⟩, ⟨_, f1, rfl⟩, needSome_mk rfl ?_⟩
                rw [add_lit]
                refine ⟨c3, fun w252 hw252 => ?_⟩
                obtain ⟨o252, e252, _⟩ := c4 w252 hw252
                have x252 : Ext (SegB x) w240 w252 := x247.trans e252 (fun _ h => h) (fun k hk => .inl (.inl hk))
                obtain ⟨f3, f4, _⟩ := far x252
                obtain ⟨c5, c6⟩ := o252.setOne 3 (by simp [segC]) (.int .i64 ((g.fin + 1 + secs b.length : Nat) : Int))
                refine ⟨⟨_, f4.cell 0 (by simp), rfl⟩, ⟨_, f3, rfl⟩, needSome_mk rfl ?_⟩
                rw [add_lit]
                refine ⟨c5, fun w256 hw256 => ?_⟩
                obtain ⟨o256, e256, _⟩ := c6 w256 hw256
                have x256 : Ext (SegB x) w240 w256 := x252.trans e256 (fun _ h => h) (fun k hk => .inl (.inl hk))
                obtain ⟨f5, f6, f7, f8, f9, f10⟩ := far x256
                have hcells : ((segC g x.s).set 2 s'.v).set 3 (.int .i64 ((g.fin + 1 + secs b.length : Nat) : Int)) = segC { g with recs := g.recs ++ [b] } s' := by
                  simp only [segC, List.set_cons_succ, List.set_cons_zero, SegS.fin, sumN_snoc, need]
                  rw [show 1 + sumN g.recs + 1 + secs b.length = 1 + (sumN g.recs + (1 + secs b.length)) by omega]
                have o256' : ObjAt w256 x.o (segC { g with recs := g.recs ++ [b] } s') := by rw [← hcells]; exact o256
                have hf' : ∀ k, footC (x.css ++ [[t2.v]]) k → (SegB x k ∨ w240.heap.size ≤ k ∨ w218.heap.size ≤ k) ∧ k ≠ x.o := by
                  rintro k ⟨cs, hc2, hk⟩
                  rcases List.mem_append.1 hc2 with h6 | h6
                  · exact ⟨.inl (.inr (.inr ⟨cs, h6, hk⟩)), x240.n2 k ⟨cs, h6, hk⟩⟩
                  · rw [List.mem_singleton] at h6; subst h6
                    have h7 := htf2 k (foot_byt hk).2
                    have := m8.o.lt
                    exact ⟨.inr (.inr (by omega)), by omega⟩
                have g256 : Rows BytR w256 s' (g.recs ++ [b]) (x.css ++ [[t2.v]]) := (g1.ext e252 (fun k hk hh => hs' (by rw [← show k = x.o from hh]; exact hk)) (fun k hk hh => (hf' k hk).2 hh)).ext e256 (fun k hk hh => hs' (by rw [← show k = x.o from hh]; exact hk)) (fun k hk hh => (hf' k hk).2 hh)
                have sx : SegAt w256 ⟨x.o, s', x.css ++ [[t2.v]]⟩ { g with recs := g.recs ++ [b] } := ⟨o256', g256, hs', fun k hk => (hf' k hk).2⟩
                -- the new blocks are new, as of w218
                have sxB : ∀ k, SegB ⟨x.o, s', x.css ++ [[t2.v]]⟩ k → SegB x k ∨ w218.heap.size ≤ k := by
                  have zz := k240.size
                  rintro k (hk | hk | hk)
                  · exact .inl (.inl hk)
                  · rcases g3 k hk with h5 | h5
                    · exact .inl (.inr (.inl h5))
                    · exact .inr (by omega)
                  · rcases (hf' k hk).1 with h5 | h5 | h5
                    · exact .inl h5
                    · exact .inr (by omega)
                    · exact .inr h5
                have x256' : Ext (SegB x) (World.drew w218) w256 := Ext.trans k240 x256 (fun _ h => h.elim) (fun _ h => .inl h)
                obtain ⟨SU, BU⟩ := m1.upd hxi hxe x256' sx sxB rfl
                refine ⟨_, f5, needSome_mk rfl ⟨_, (seg_c _ sx).2.1, ?_⟩⟩
                obtain ⟨c7, c8⟩ := f7.setOne 0 (by simp) (.int .i64 (g.num : Int))
                refine ⟨c7, fun w260 hw260 => ?_⟩
                obtain ⟨o260, e260, _⟩ := c8 w260 hw260
                obtain ⟨c9, c10⟩ := (f8.ext e260 (fun hh => by omega)).setOne 0 (by simp) (.nilIface)
                refine ⟨c9, fun w261 hw261 => ?_⟩
                obtain ⟨o261, e261, _⟩ := c10 w261 hw261
                have hD261 := e261.heap (e260.heap f9 (fun hh => by omega)) (fun hh => by omega)
                refine ⟨hD261, fun w262 hw262 => ?_⟩
                have e262 : Ext (fun j => j = D) w261 w262 := by rw [hw262]; exact Ext.putObj _ _ _
                have xe : Ext (fun j => j = r5 ∨ j = r7 ∨ j = D) w256 w262 := ((e260.mono (fun j hj => .inl hj)).trans e261 (fun _ h => h) (fun j hj => .inl (.inr (.inl hj)))).trans e262 (fun _ h => h) (fun j hj => .inl (.inr (.inr hj)))
                have zwb2 := hs218.e.size
                have nU : ∀ k, StB r ⟨u0.sp, u0.xs.take M.length ++ [⟨x.o, s', x.css ++ [[t2.v]]⟩]⟩ k → k ≠ r5 ∧ k ≠ r7 ∧ k ≠ D := fun k hk => by
                  rcases BU k hk with h1 | h1
                  · have := hsl66 k (.inl h1)
                    exact ⟨fun hh => ns r5 o5l n5 (by rw [← hh]; exact .inl h1), fun hh => ns r7 o7l n7 (by rw [← hh]; exact .inl h1), by omega⟩
                  · exact ⟨by omega, by omega, by omega⟩
                have nQ : ∀ k, DevB rd q4 k → k ≠ r5 ∧ k ≠ r7 ∧ k ≠ D := fun k hk => by
                  rcases hs240.nb k hk with h1 | h1
                  · have := hsl66 k (.inr h1)
                    exact ⟨fun hh => ns r5 o5l n5 (by rw [← hh]; exact .inr h1), fun hh => ns r7 o7l n7 (by rw [← hh]; exact .inr h1), by omega⟩
                  · exact ⟨by omega, by omega, by omega⟩
                refine ⟨_, (o260.ext e261 (fun hh => by omega)).ext e262 (fun hh => by omega) |>.cell 0 (by simp), _, (o261.ext e262 (fun hh => by omega)).cell 0 (by simp), hK (g.num : Int) none w262 ?_⟩
                have happ2 : appR (d.n / 64) L b = (none, (g.num : Int), M ++ [{ g with recs := g.recs ++ [b] }]) := by
                  rw [happ, hbase]
                  show (none, lastN (M ++ [g]), addRec (M ++ [g]) b) = _
                  rw [lastN_snoc, addRec_snoc]
                have fD := f10.ext xe (fun k hk hh => by
                  obtain ⟨v1, v2, v3⟩ := nQ k hk
                  rcases hh with hh | hh | hh
                  · exact v1 hh
                  · exact v2 hh
                  · exact v3 hh)
                have hst4' : d4.stops = d.stops := by rw [hst4, hst30, hst0]
                refine ⟨q4, d4, fD, by rw [hn4, hn0], hst4', .inr (.inl ⟨by rw [happ2], rfl, by rw [happ2], ⟨u0.sp, u0.xs.take M.length ++ [⟨x.o, s', x.css ++ [[t2.v]]⟩]⟩, ?_, ?_, fun k hk => ?_⟩)⟩
                · rw [happ2]
                  refine ⟨⟨SU.ext xe (fun k hk hh => by
                    obtain ⟨v1, v2, v3⟩ := nU k hk
                    rcases hh with hh | hh | hh
                    · exact v1 hh
                    · exact v2 hh
                    · exact v3 hh), fD, fun k hk hh => ?_, fun k hk => (hs240.nb k hk).elim (h66.B.dn k) (fun h1 => by omega), fun k hk => ?_, ?_⟩, hp4, by rw [hn4, hkn]; exact hI4, fun y hy => ?_, by rw [hn4, hkn]; exact hk⟩
                  · rcases BU k hk with h1 | h1
                    · rcases hs240.nb k hh with h2 | h2
                      · exact h66.B.sep k h1 h2
                      · have := hsl66 k (.inl h1); omega
                    · have := hD4.lt k hh; omega
                  · rcases BU k hk with h1 | h1
                    · exact h66.B.sn k h1
                    · omega
                  · have := xe.size; have := x256.size; omega
                  · rcases List.mem_append.1 hy with h1 | h1
                    · exact h66.N y (by simp [h1])
                    · rw [List.mem_singleton] at h1; subst h1
                      exact h66.N g (by simp)
                · have xbig : Ext (fun k => SysB r u0 rd q0 k ∨ k = r113 ∨ k = lr ∨ k = D ∨ k = r5 ∨ k = r7) wb w262 := by
                    refine (((hs240.e.mono (fun j hj => ?_)).trans x256 (fun _ h => h) (fun j hj => .inl (.inl (.inl (hxB j hj)))))).trans xe (fun _ h => h) (fun j hj => ?_)
                    · rcases hj with hj | hj | hj
                      · exact .inl (.inr hj)
                      · exact .inr (.inl hj)
                      · exact .inr (.inr (.inl hj))
                    · rcases hj with hj | hj | hj
                      · exact .inl (.inr (.inr (.inr (.inr (.inl hj)))))
                      · exact .inl (.inr (.inr (.inr (.inr (.inr hj)))))
                      · exact .inl (.inr (.inr (.inr (.inl hj))))
                  refine (((k8.foot f66).1.trans kd66 (fun _ h => h) (fun _ h => h.elim)).trans kb (fun _ h => h) (fun _ h => h.elim)).trans xbig (fun _ h => h) (fun k hk => ?_)
                  rcases hk with hk | hk
                  · rcases hsub k hk with h1 | h1
                    · exact .inl h1
                    · exact .inr (by omega)
                  · right; omega
                · have zkb := kb.size
                  rcases hk with hk | hk
                  · rcases BU k hk with h1 | h1
                    · rcases hsub k (.inl h1) with h2 | h2
                      · exact .inl h2
                      · exact .inr (by omega)
                    · exact .inr (by omega)
                  · rcases hs240.nb k hk with h1 | h1
                    · rcases hsub k (.inr h1) with h2 | h2
                      · exact .inl h2
                      · exact .inr (by omega)
                    · exact .inr (by omega)
      · obtain ⟨q2, d2, x1, x2, x3, x4, x5, x6, x7, x8, x9, x10, x11⟩ := hx9
        refine ⟨⟨_, rfl⟩, .inl ⟨x8, fun w150 hw150 => ?_⟩⟩
        have e150 : Ext (fun j => j = lr) w149 w150 := by rw [hw150]; exact Ext.putObj _ _ _
        have nlr : ∀ j, DevB rd q2 j → j ≠ lr := fun j hj => by
          obtain ⟨f1, f2, f3⟩ := hF.a
          rcases x7 j hj with h1 | h1
          · exact fun hh => hF.b.2.1 (hh ▸ h1)
          · omega
        refine tail (x1.ext e150 (fun j hj hh => nlr j hj hh)) x2 x3 x4 x5 ?_ x7 (e150.heap x9 (fun hh => by omega)) (x10.ext e150 (fun hh => by omega)) (x11.ext e150 (fun hh => by omega))
        exact x6.trans e150 (fun _ h => h) (fun j hj => .inl (.inr (.inr (.inl hj))))
    · obtain ⟨q2, d2, hs, hl, hp, hks⟩ := hj
      have nb : ∀ j, w66.heap.size ≤ j → j ≠ r113 → j ≠ lr → ¬ (DevB rd q0 j ∨ j = r113 ∨ j = lr) := fun j h1 h2 h3 hh => by
        rcases hh with hh | hh | hh
        · exact nD j h1 (.inr hh)
        · exact h2 hh
        · exact h3 hh
      exact ⟨(ob1b.ext hs.e (nb _ (by omega) (by omega) (by omega))).cell 0 (by simp), (ob2b.ext hs.e (nb _ (by omega) (by omega) (by omega))).cell 0 (by simp), (at_ hs).2.2.2.2.2.1⟩
    · obtain ⟨q2, d2, hs, hl, hp, hks⟩ := hj
      exact ⟨q2, d2, hs.keep (Ext.drew _ _), hl, hp, hks⟩
end Go.D

set_option linter.unusedVariables false
set_option linter.unusedSimpArgs false
namespace Go.D
open Go Go.Proofs

/-! ### pointers in a slice -/
def ptrC (o : Nat) : List Value := [ptrR' o]
theorem foot_ptr {o k : Nat} : ¬ footV (ptrC o) k := by rintro ⟨s, hs, _⟩; simp [ptrC, Slc.v] at hs
theorem footC_ptr {l : List Nat} {k : Nat} : ¬ footC (l.map ptrC) k := by
  rintro ⟨cs, hc, hk⟩
  obtain ⟨x, _, rfl⟩ := List.mem_map.1 hc
  exact foot_ptr hk
def PtrR : RowD Nat where
  n := 1
  pos := by omega
  R _ x cs := cs = ptrC x
  len h := by rw [h]; rfl
  one h := by rw [h]; intro v hv; simp [ptrC] at hv; subst hv; rfl
  ext h _ _ := h
  lt h := by rw [h]; intro k hk; exact (foot_ptr hk).elim
theorem flat_ptr (l : List Nat) : (l.map ptrC).flatten = l.map fun x => ptrR' x := by
  induction l with
  | nil => rfl
  | cons a l ih => rw [List.map_cons, List.flatten_cons, ih]; rfl
theorem ptr_rows {w : World} {s : Slc} {l : List Nat} (h : Own w s 1 (l.map fun x => ptrR' x)) : Rows PtrR w s l (l.map ptrC) :=
  ⟨by rw [flat_ptr]; exact h, by simp, fun i h1 h2 => by rw [List.getElem_map]; rfl, fun k hk => (footC_ptr hk).elim⟩
theorem map_erase {α β : Type} (f : α → β) (l : List α) (i : Nat) : (l.map f).eraseIdx i = (l.eraseIdx i).map f := by
  rw [List.eraseIdx_eq_take_drop_succ, List.eraseIdx_eq_take_drop_succ, List.map_append, List.map_take, List.map_drop]
theorem Delete_spec8 {w : World} {s : Slc} {l : List Nat} (h : Own w s 1 (l.map fun x => ptrR' x)) {i : Nat} (hi : i < l.length) (hl : l.length ≤ 2 ^ 30) :
    Calls Tryd.prog fn_slices_Delete_segment ⟨[s.v, .int .i64 (i : Int), .int .i64 ((i : Int) + 1)]⟩ w fun e w' => e = .returned (Slc.v ⟨s.p, s.l - 1, s.c⟩) ∧ Own w' ⟨s.p, s.l - 1, s.c⟩ 1 ((l.eraseIdx i).map fun x => ptrR' x) ∧ Ext (ownB s) w w' := by
  refine slices_Delete_segment_ok _ _ _ ?_
  unfold slices_Delete_segment
  have hR := ptr_rows h
  have hsl := hR.sl
  have hcap := hR.cap
  refine ⟨by omega, by omega, by omega, by omega, BIf_dec (fun hh => by omega) (fun _ => ⟨by omega, by omega, by omega, by omega, by omega, by omega, by omega, by omega, ?_⟩)⟩
  have hd := hR.keep (Ext.drew _ w)
  rw [show Int.toNat (i : Int) = i by omega, show Int.toNat ((i : Int) + 1) = i + 1 by omega]
  obtain ⟨old, new, c1, c2, c3, c4, c5, c6, c7⟩ := hd.cut (z := [.pointer none]) (E := 67) (K := fun w' => Own w' ⟨s.p, s.l - 1, s.c⟩ 1 ((l.eraseIdx i).map fun x => ptrR' x) ∧ Ext (ownB s) w.drew w') (i := i) (by simpa using hi) rfl (fun v hv => by simp at hv; subst hv; rfl) hl (fun w' g1 g2 g3 => ⟨by
    have := g1.own
    rw [map_erase, flat_ptr] at this
    exact this, g2⟩)
  refine ⟨old, new, c1, c2, c3, c4, c5, c6, fun s7 w8 hA => ?_⟩
  obtain ⟨rfl, g⟩ := c7 s7 w8 hA
  refine ⟨by omega, ?_, ?_, ?_, ?_⟩
  · show ((s.l - 1 : Nat) : Int) ≤ _; omega
  · show ((s.l : Nat) : Int) ≤ ((s.c : Nat) : Int); omega
  · exact Int.le_refl _
  exact g.mono (fun w1 hg => ⟨rfl, hg.1, (Ext.drew _ _).trans hg.2 (fun _ h => h) (fun _ h => .inl h)⟩)

/-- A segment is taken out. -/
theorem StAt.erase {w w' : World} {r rd : Nat} {u : StP} {L : List SegS} (h : StAt w r rd u L) {i : Nat} (hi : i < L.length) {s' : Slc} (hs : s'.p = u.sp.p) (he : Ext (fun k => k = r ∨ ownB u.sp k) w w') (ho : ObjAt w' r [ptrR' rd, s'.v]) (hw : Own w' s' 1 ((u.xs.eraseIdx i).map fun x => ptrR' x.o)) :
    StAt w' r rd ⟨s', u.xs.eraseIdx i⟩ (L.eraseIdx i) ∧ ∀ k, StB r ⟨s', u.xs.eraseIdx i⟩ k → StB r u k := by
  have hlen := h.len
  have hob : ∀ k, ownB s' k ↔ ownB u.sp k := fun k => by unfold ownB; rw [hs]
  have hsub := List.eraseIdx_sublist u.xs i
  refine ⟨⟨ho, hw, by rw [List.length_eraseIdx_of_lt (by omega), List.length_eraseIdx_of_lt hi, hlen], fun j h1 h2 => ?_, h.sep.sublist hsub, fun hh => h.sr ((hob r).1 hh), fun x hx k hk => ?_⟩, ?_⟩
  · dsimp only at h1 ⊢
    rw [List.length_eraseIdx_of_lt (by omega)] at h1
    have key : ∀ j (hj : j < u.xs.length), SegAt w' u.xs[j] (L[j]'(by omega)) := fun j hj => (h.g j hj (by omega)).ext he (fun k hk hh => by
      obtain ⟨v1, v2⟩ := h.ds _ (List.getElem_mem hj) k hk
      exact hh.elim v1 v2)
    rw [List.getElem_eraseIdx, List.getElem_eraseIdx]
    by_cases e : j < i
    · rw [dif_pos e, dif_pos e]; exact key j (by omega)
    · rw [dif_neg e, dif_neg e]; exact key (j + 1) (by omega)
  · obtain ⟨v1, v2⟩ := h.ds x (hsub.subset hx) k hk
    exact ⟨v1, fun hh => v2 ((hob k).1 hh)⟩
  · rintro k (hk | hk | ⟨x, hx, hk⟩)
    · exact .inl hk
    · exact .inr (.inl ((hob k).1 hk))
    · exact .inr (.inr ⟨x, hsub.subset hx, hk⟩)

/-! ### giving a segment back -/
def dropR (L : List SegS) (n : Int) : Option Nat × List SegS :=
  match L.findIdx? (fun g => decide ((g.num : Int) = n)) with
  | none => (some 15, L)
  | some i => if i + 1 = L.length then (some 16, L) else (none, L.eraseIdx i)
theorem dropR_none {L : List SegS} {n : Int} (h : seekI (fun g => decide ((g.num : Int) = n)) L = -1) : dropR L n = (some 15, L) := by
  unfold seekI at h
  unfold dropR
  split at h
  · omega
  · rename_i h2; rw [h2]
theorem dropR_some {L : List SegS} {n : Int} {i : Nat} (h : seekI (fun g => decide ((g.num : Int) = n)) L = i) : dropR L n = if i + 1 = L.length then (some 16, L) else (none, L.eraseIdx i) := by
  unfold seekI at h
  unfold dropR
  split at h
  · rename_i j h2
    have : j = i := by omega
    subst this
    rw [h2]
  · omega
def DropPost (A : Nat → Addr) (w : World) (n0 r rd : Nat) (u : StP) (q : DevP) (d : DevS) (L : List SegS) (m : Nat) (n : Int) (e' : Option Nat) (w' : World) : Prop :=
  ∃ (q' : DevP) (d' : DevS), DevAt w' rd q' d' ∧ d'.n = d.n ∧ d'.stops = d.stops ∧
    ((dropR L n).1 ≠ none ∧ e' = (dropR L n).1 ∧ q' = q ∧ d' = d ∧ Keep w w' ∨
     (dropR L n).1 = none ∧ e' = none ∧ (∃ u', Sys w' n0 r rd u' q' d' (dropR L n).2 m ∧ Foot (SysB r u rd q) (SysB r u' rd q') w w') ∨
     (dropR L n).1 = none ∧ e' = some 11 ∧ d.stops = true ∧ CrOk d' (d.n / 64) [L, (dropR L n).2] ∧ Foot (SysB r u rd q) (DevB rd q') w w')
theorem Drop_spec8 {w : World} {n0 r rd m : Nat} {u : StP} {q : DevP} {d : DevS} {L : List SegS} (A : Nat → Addr) (h : Sys w n0 r rd u q d L m) (hE : ErrsG segG A n0 w) (hm : m ≤ 2 ^ 60) (n : Int) :
    Calls Tryd.prog fn_segs_Store_Drop ⟨[ptrR' r, .int .i64 n]⟩ w fun e w' => ∃ e', e = .returned (errO A e') ∧ DropPost A w n0 r rd u q d L m n e' w' := by
  refine segs_Store_Drop_ok _ _ ?_
  unfold segs_Store_Drop
  have hLk := h.len
  have hk := h.k
  have hSl := h.B.S.sl
  have hnn : d.n = d.img.length / 64 := rfl
  refine (find_spec8 h.B.S n (by omega)).mono ?_
  rintro e w4 ⟨rfl, k4⟩
  have h4 := h.keep k4
  have hE4 := hE.keep k4
  rcases seek_cases (fun g => decide ((g.num : Int) = n)) L with ⟨e1, _, _⟩ | ⟨i, hi, e1, hf, _, _⟩
  · rw [e1]
    have hdr := dropR_none e1
    refine ⟨_, rfl, BIf_dec (fun _ => ⟨_, errG_at hE4 15 gl_ErrNone rfl (by decide), some 15, rfl, q, d, h4.B.D, rfl, rfl, .inl ⟨by rw [hdr]; simp, by rw [hdr], rfl, rfl, k4⟩⟩) (fun h0 => absurd (show (-1 : Int) < 0 by omega) h0)⟩
  · rw [e1]
    have hdr := dropR_some e1
    have hn : (L[i].num : Int) = n := by simpa using hf
    subst hn
    refine ⟨_, rfl, BIf_dec (fun h0 => by omega) (fun _ => needSome_mk rfl ⟨_, h4.B.S.c1, inR64 (by omega), BIf_dec (fun h0 => ?_) (fun h0 => ?_)⟩)⟩
    · rw [if_pos (by omega)] at hdr
      exact ⟨_, errG_at hE4 16 gl_ErrState rfl (by decide), some 16, rfl, q, d, h4.B.D, rfl, rfl, .inl ⟨by rw [hdr]; simp, by rw [hdr], rfl, rfl, k4⟩⟩
    · rw [if_neg (by omega)] at hdr
      have kd : Keep w4 (World.drew w4) := Ext.drew _ _
      have hd := h4.keep kd
      obtain ⟨a, x, ha, hc, hx, hxi, hxe⟩ := hd.B.S.at hi
      refine needSome_mk rfl ⟨_, hd.B.S.c1, needSome_mk ha ⟨by omega, by omega, _, by rw [Int.toNat_natCast]; exact hc, needSome_mk rfl ⟨_, (seg_c _ hx).1, ?_⟩⟩⟩
      have hNi := h.N _ (List.getElem_mem hi)
      refine (head_spec8 L[i].num 2 (by omega) _).mono ?_
      rintro e w17 ⟨t, rfl, ht, htf, k17⟩
      have h17 := hd.keep k17
      have hpl := h.I.pl _ (List.getElem_mem hi)
      refine ⟨t, rfl, ⟨_, (seg_c _ (hx.keep k17)).1, rfl⟩, ⟨_, by rw [Int.toNat_natCast]; exact k17.cell hc, rfl⟩, ⟨_, h17.B.S.c1, rfl⟩, ?_⟩
      have k17' : Keep w w17 := (k4.trans kd).trans k17
      refine (sure_spec8 A h17.B.S.c0 h17.B.nr h17.B.D h.p L[i].place 0 (by omega) t _ ht.bytes (headB_len _ _) ((hE.keep k17').sub segG_dsk) h17.B.dn h17.B.z (DevB_sep hd.B.D htf)).mono ?_
      rintro e w23 ⟨e', q', d', rfl, hD', f', hst', hcase⟩
      have ha3 : 64 * L[i].place + 0 < d.img.length / 64 := by omega
      have hon := h.I.on _ (List.getElem_mem hi)
      have h0s : secI d.img (64 * L[i].place) = headB L[i].num 1 := hon.1
      refine ⟨_, rfl, errO_isI A _, BIf_mk (fun h2 => ?_) (fun h2 => ?_)⟩
      · rcases hcase with ⟨rfl, _⟩ | ⟨rfl, hs, hi', hp'⟩
        · cases h2
        · refine ⟨some 11, rfl, q', d', hD', by unfold DevS.n; rw [hi'], hst', .inr (.inr ⟨by rw [hdr], rfl, hs, ⟨by rcases hp' with h9 | h9 <;> rw [h9] <;> simp, fun kept torn cut => ?_⟩, Foot.devO (k17'.foot f')⟩)⟩
          rw [hi', hdr]
          obtain ⟨v1, v2⟩ := cr_one (a := 64 * L[i].place + 0) (img := d.img) ha3 (headB_len L[i].num 2) hp' kept torn cut
          simp only [Nat.add_zero] at v1 v2
          rcases v2 with v2 | ⟨c, hc9, v2⟩
          · refine ⟨L.eraseIdx i, by simp, h.I.drop hi (fun j hj hne => v1 j (by omega) hne) ?_⟩
            rw [v2, headB_mk]; decide
          · refine ⟨L, by simp, ?_⟩
            rw [h0s, headB_torn _ _ _ hc9] at v2
            refine h.I.tail (List.getElem_mem hi) (fun j hj hno => ?_) (fun hfl => ?_)
            · by_cases e9 : j = 64 * L[i].place
              · rw [e9, v2, h0s]
              · exact v1 j (by omega) e9
            · have hf1 : 1 ≤ (L[i]).fin := by unfold SegS.fin; omega
              rw [v1 _ (by omega) (by omega)]
              exact recsOn_last hon.2 hfl
      · rcases hcase.symm with ⟨rfl, _⟩ | ⟨rfl, hi', hp'⟩
        · cases h2
        have h23 := h17.B.dev hD' f'
        have hn' : d'.n = d.n := by
          show d'.img.length / 64 = _
          rw [hi', putSec_len ha3 (headB_len _ _) (Nat.le_refl _)]; exact hnn.symm
        have hI' : ImgOk (secI d'.img) (d.n / 64) (L.eraseIdx i) := by
          refine h.I.drop hi (fun j hj hne => ?_) ?_
          · rw [hi', secI_put64 ha3 (headB_len _ _) (by omega), if_neg (by omega)]
          · rw [hi', secI_put64 ha3 (headB_len _ _) (by omega), if_pos (by omega), headB_mk]; decide
        refine needSome_mk rfl ⟨_, h23.S.c1, inR64 (by omega), ?_⟩
        have hlen := h.B.S.len
        have how : Own w23 u.sp 1 ((u.xs.map (·.o)).map fun x => ptrR' x) := by rw [List.map_map]; exact h23.S.s
        refine (Delete_spec8 how (i := i) (by simp; omega) (by simp; omega)).mono ?_
        rintro e w28 ⟨rfl, ho28, e28⟩
        have o28 := h23.S.o.ext e28 h23.S.sr
        obtain ⟨c1, c2⟩ := o28.setOne 1 (by simp) (Slc.v ⟨u.sp.p, u.sp.l - 1, u.sp.c⟩)
        refine ⟨_, rfl, needSome_mk rfl ?_⟩
        rw [add_lit]
        refine ⟨c1, fun w31 hw31 => ?_⟩
        obtain ⟨o31, e31, _⟩ := c2 w31 hw31
        have hob : ∀ k, ownB (⟨u.sp.p, u.sp.l - 1, u.sp.c⟩ : Slc) k → ownB u.sp k := fun k hk => hk
        have ho31 := ho28.ext e31 (fun k hk hh => h23.S.sr (by rw [← show k = r from hh]; exact hob k hk))
        rw [← map_erase, List.map_map, map_erase] at ho31
        have x31 : Ext (fun k => k = r ∨ ownB u.sp k) w23 w31 := (e28.mono (fun k hk => .inr hk)).trans e31 (fun _ h => h) (fun k hk => .inl (.inl hk))
        obtain ⟨SU, BU⟩ := h23.S.erase hi (s' := ⟨u.sp.p, u.sp.l - 1, u.sp.c⟩) rfl x31 o31 ho31
        have hD31 := hD'.ext x31 (fun k hk hh => h23.sep k (hh.elim .inl (fun h => .inr (.inl h))) hk)
        refine ⟨none, rfl, q', d', hD31, hn', hst', .inr (.inl ⟨by rw [hdr], rfl, ⟨⟨u.sp.p, u.sp.l - 1, u.sp.c⟩, u.xs.eraseIdx i⟩, ?_, ?_⟩)⟩
        · rw [hdr]
          exact ⟨⟨SU, hD31, fun k hk => h23.sep k (BU k hk), h23.dn, fun k hk => h23.sn k (BU k hk), Nat.le_trans h23.z x31.size⟩, hp', by rw [hn']; exact hI', fun g hg => h.N g ((List.eraseIdx_sublist L i).subset hg), by rw [hn']; exact hk⟩
        · have fA : Foot (SysB r u rd q) (SysB r u rd q') w w23 := Foot.dev (k17'.foot f')
          refine ⟨fA.1.trans x31 (fun _ h => h) (fun k hk => .inl (.inl (hk.elim .inl (fun h => .inr (.inl h))))), fun k hk => ?_⟩
          exact fA.2 k (hk.imp (BU k) (fun h => h))
end Go.D

set_option linter.unusedVariables false
set_option linter.unusedSimpArgs false
namespace Go.D
open Go Go.Proofs

def eN : Option Nat → Int
  | none => 0
  | some k => ((k + 1 : Nat) : Int)
theorem numO_spec8 (A : Nat → Addr) (e' : Option Nat) (h : ∀ k, e' = some k → k < 19) (w : World) (hE : Errs A w) : Calls Tryd.prog fn_tidewaternum_Num ⟨[errO A e']⟩ w fun e w' => e = .returned (.int .i64 (eN e')) ∧ Keep w w' := by
  cases e' with
  | none =>
    refine (Num_nil w).mono ?_
    rintro e w' ⟨rfl, rfl⟩
    exact ⟨rfl, Ext.refl _ _⟩
  | some k => exact Num_spec A k (h k rfl) w hE

theorem zero_mk (n i : Nat) : mkS (secI (List.replicate n 0) i) = 0 := by
  unfold mkS secI
  rw [List.drop_replicate, List.take_replicate, List.getD_eq_getElem?_getD, List.getElem?_replicate]
  split <;> rfl
theorem init_img (n k : Nat) : ImgOk (secI (newD n).img) k [] :=
  ⟨by simp, List.Pairwise.nil, List.Pairwise.nil, by simp, fun p hp _ => by
    show mkS (secI (List.replicate (n * 64) 0) (64 * p)) ≠ 1
    rw [zero_mk]; decide⟩
theorem newD_n (n : Nat) : (newD n).n = n := by
  show (List.replicate (n * 64) (0 : UInt8)).length / 64 = n
  rw [List.length_replicate]; omega

/-- A device is opened. -/
theorem open_sys8 {w1 : World} {n0 rd m : Nat} {q : DevP} {d : DevS} {L : List SegS} (A : Nat → Addr) (hE : ErrsG segG A n0 w1) (hD : DevAt w1 rd q d) (hp : d.pend = []) (hI : ImgOk (secI d.img) (d.n / 64) L) (hk : 1 ≤ d.n / 64 ∧ d.n / 64 < 20) (hN : ∀ g ∈ L, g.num < m) (hm : m ≤ 2 ^ 60)
    (hdn : ∀ k, DevB rd q k → n0 ≤ k) (hz : n0 ≤ w1.heap.size) :
    Calls Tryd.prog fn_segs_Open ⟨[ptrR' rd]⟩ w1 fun e w2 => ∃ (r : Nat) (u : StP), e = .returned (.tuple ⟨[ptrR' r, .nilIface]⟩) ∧ Sys w2 n0 r rd u q d L m ∧ (∀ k, StB r u k → w1.heap.size ≤ k) ∧ Keep w1 w2 := by
  refine (Open_spec8 A hD hp (hE.sub segG_dsk) hI hk.1 hk.2 (fun g hg => by have := hN g hg; omega)).mono ?_
  rintro e w2 ⟨r, u, rfl, hS, hf, k2⟩
  have hD2 := hD.keep k2
  refine ⟨r, u, rfl, ⟨⟨hS, hD2, fun k hk hh => ?_, hdn, fun k hk => Nat.le_trans hz (hf k hk), Nat.le_trans hz k2.size⟩, hp, hI, hN, hk⟩, hf, k2⟩
  have := hf k hk
  have := hD.lt k hh
  omega

theorem alive_spec8 (A : Nat → Addr) (w : World) (hE0 : Errs A w) : Calls Tryd.prog fn_tidewaterlaw08_alive ⟨[]⟩ w fun e w' => e = .returned (.bool true) ∧ Keep w w' := by
  refine tidewaterlaw08_alive_ok ?_
  unfold tidewaterlaw08_alive
  have hG : ErrsG segG A w.heap.size w := ErrsG.sub (G := errG) (ErrsB.g hE0.b) segG_sub
  refine (New_spec7 A 64 w (hG.sub segG_dsk)).mono ?_
  rintro e w2 ⟨k2, hc⟩
  rw [if_neg (by omega)] at hc
  obtain ⟨rd, q, rfl, hD, hDf⟩ := hc
  have hn : (newD (Int.toNat 64)).n = 64 := newD_n 64
  refine ⟨_, _, rfl, fun w3 => w3 = w2, ⟨trivial, BIf_mk (fun h => by cases h) (fun _ => BIf_mk (fun h => by cases h) (fun _ => rfl))⟩, ?_⟩
  rintro w6 rfl
  intros
  refine (open_sys8 A (hG.keep k2) hD rfl (init_img _ _) (by rw [hn]; omega) (m := 0) (by simp) (by omega) hDf k2.size).mono ?_
  rintro e w15 ⟨r, u, rfl, hS, hSf, k15⟩
  refine ⟨_, _, rfl, fun w3 => w3 = w15, ⟨trivial, BIf_mk (fun h => by cases h) (fun _ => BIf_mk (fun h => by cases h) (fun _ => rfl))⟩, ?_⟩
  rintro w19 rfl
  intros
  refine newS_mk (fun r27 w28 hr hb k28 hs => ?_)
  rintro w30 rfl
  obtain ⟨hb30, e30⟩ := markW_heap hb
  have k30 : Keep w19 (markW w28 r27) := k28.ext e30 (fun k hk => by omega)
  have hS30 := hS.keep k30
  have hbytes : bytesAt (markW w28 r27) (⟨some ⟨r27, 0, none⟩, 1, 1⟩ : Slc) [97] := by
    refine ⟨rfl, .inr ⟨_, rfl, fun i hi => ?_⟩⟩
    have : i = 0 := by simp at hi; omega
    subst this
    rw [add_lit, cell_of hb30]
    rfl
  have kk := (k2.trans k15).trans k30
  refine Calls.mono (R := fun e w' => ∃ n e', e = .returned (.tuple ⟨[.int .i64 n, errO A e']⟩) ∧ AppPost A (markW w28 r27) w.heap.size r rd u q (newD (Int.toNat 64)) [] 0 [97] n e' w') (segs_Store_Append_ok _ _ (Append_gen8 hS30 (hG.keep kk) (by omega) hbytes (Nat.le_refl _) (by simp) (fun _ k hk hh => ?_) (fun n e' w' h => ⟨n, e', rfl, h⟩))) ?_
  · obtain ⟨a, ha, rfl⟩ := hk
    cases ha
    have := hS.B.lt _ hh
    have : r27 < w19.heap.size := this
    omega
  · rintro e w32 ⟨n, e', rfl, q', d', hD', hn', hst', hc⟩
    have happ : appR ((newD (Int.toNat 64)).n / 64) [] [97] = (none, 0, [⟨0, 0, [[97]]⟩]) := by rw [hn]; rfl
    rw [happ] at hc
    rcases hc with ⟨h1, _⟩ | ⟨_, rfl, rfl, ⟨u', hS', ft⟩⟩ | ⟨_, _, hh, _⟩
    · exact absurd rfl h1
    · have k32 : Keep w w32 := (kk.ext ft.1 (fun k hk => hk.elim (hS.B.sn k) (hS.B.dn k)))
      refine ⟨_, _, rfl, trivial, BIf_mk (fun _ => BIf_dec (fun _ => (Last_spec8 hS'.B.S (by simp)).mono ?_) (fun h => absurd rfl h)) (fun h => by cases h)⟩
      rintro e w36 ⟨rfl, k36⟩
      refine ⟨_, rfl, BIf_dec (fun _ => (Records_spec8 (hS'.keep k36).B.S 0 (by simp) (by simp)).mono ?_) (fun h => absurd rfl h)⟩
      rintro e w39 ⟨s, css, rfl, hR, k39⟩
      have hl := hR.sl
      have : recsOf 0 [⟨0, 0, [[97]]⟩] = [[97]] := rfl
      rw [this] at hl
      refine ⟨s, rfl, ?_, (k32.trans k36).trans k39⟩
      rw [hl]; rfl
    · cases hh
end Go.D

set_option linter.unusedVariables false
set_option linter.unusedSimpArgs false
namespace Go.D
open Go Go.Proofs

/-! ### the document's store -/
structure Rz where
  g : SegS
  n : Int
  s : Slc
  c : List (List Value)
def rzC (z : Rz) : List Value := [.int .i64 (z.g.place : Int), .int .i64 (z.g.num : Int), .int .i64 z.n, z.s.v]
theorem foot_rz {z : Rz} {k : Nat} (h : footV (rzC z) k) : 0 < z.s.l ∧ ownB z.s k := by
  obtain ⟨s', hs, h1, h2⟩ := h
  have : s' = z.s := by
    obtain ⟨g, n, ⟨p, l, c⟩, c2⟩ := z
    obtain ⟨p', l', c'⟩ := s'
    simp [rzC, Slc.v] at hs
    obtain ⟨rfl, rfl, rfl⟩ := hs
    rfl
  subst this
  exact ⟨h1, h2⟩
def RzR : RowD Rz where
  n := 4
  pos := by omega
  R w z cs := cs = rzC z ∧ ∀ k, ownB z.s k → k < w.heap.size
  len h := by rw [h.1]; rfl
  one h := by rw [h.1]; intro v hv; simp [rzC] at hv; rcases hv with rfl | rfl | rfl | rfl <;> rfl
  ext h he _ := ⟨h.1, fun k hk => Nat.lt_of_lt_of_le (h.2 k hk) he.size⟩
  lt h := by rw [h.1]; intro k hk; exact h.2 k (foot_rz hk).2
theorem rz_ext {M : Nat → Prop} {w w' : World} {sl : Slc} {zs : List Rz} {css : List (List Value)} (h : Rows RzR w sl zs css) (he : Ext M w w') (h1 : ∀ k, ownB sl k → ¬ M k) : Rows RzR w' sl zs css :=
  ⟨h.own.ext he h1, h.len, fun i hi hi' => ⟨(h.row i hi hi').1, fun k hk => Nat.lt_of_lt_of_le ((h.row i hi hi').2 k hk) he.size⟩, h.sep⟩
abbrev gL (zs : List Rz) : List SegS := zs.map (·.g)
structure RfAt (w : World) (r k : Nat) (sl : Slc) (zs : List Rz) : Prop where
  o : ObjAt w r [.int .i64 (k : Int), sl.v]
  s : Rows RzR w sl zs (zs.map rzC)
  b : ∀ z ∈ zs, Rows BytR w z.s z.g.recs z.c
  n : ∀ z ∈ zs, z.n = (sumN z.g.recs : Int)
  sep : zs.Pairwise fun x y => ∀ k, ownB x.s k → ¬ ownB y.s k
  nr : ¬ ownB sl r
  ds : ∀ z ∈ zs, ∀ k, ownB z.s k → k ≠ r ∧ ¬ ownB sl k
  bt : ∀ z ∈ zs, ∀ k, footC z.c k → k ≠ r ∧ ¬ ownB sl k ∧ ∀ y ∈ zs, ¬ ownB y.s k
/-- What is written; and what is but read. -/
def RfW (r : Nat) (sl : Slc) (zs : List Rz) (k : Nat) : Prop := k = r ∨ ownB sl k ∨ ∃ z ∈ zs, ownB z.s k
def RfY (zs : List Rz) (k : Nat) : Prop := ∃ z ∈ zs, footC z.c k
section
variable {w w' : World} {r k : Nat} {sl : Slc} {zs : List Rz}
theorem RfAt.ext {M : Nat → Prop} (h : RfAt w r k sl zs) (he : Ext M w w') (h1 : ∀ j, RfW r sl zs j → ¬ M j) (h2 : ∀ j, RfY zs j → ¬ M j) : RfAt w' r k sl zs := by
  refine ⟨h.o.ext he (h1 _ (.inl rfl)), h.s.ext he (fun j hj => h1 j (.inr (.inl hj))) (fun j hj => ?_), fun z hz => (h.b z hz).ext he (fun j hj => h1 j (.inr (.inr ⟨z, hz, hj⟩))) (fun j hj => h2 j ⟨z, hz, hj⟩), h.n, h.sep, h.nr, h.ds, h.bt⟩
  obtain ⟨cs, hc, hk⟩ := hj
  obtain ⟨z, hz, rfl⟩ := List.mem_map.1 hc
  exact h1 j (.inr (.inr ⟨z, hz, (foot_rz hk).2⟩))
theorem RfAt.keep (h : RfAt w r k sl zs) (he : Keep w w') : RfAt w' r k sl zs := h.ext he (fun _ _ h => h) (fun _ _ h => h)
theorem RfAt.lt (h : RfAt w r k sl zs) : (∀ j, RfW r sl zs j → j < w.heap.size) ∧ ∀ j, RfY zs j → j < w.heap.size := by
  refine ⟨?_, ?_⟩
  · rintro j (rfl | hj | ⟨z, hz, hj⟩)
    · exact h.o.lt
    · exact h.s.lt j hj
    · exact (h.b z hz).lt j hj
  · rintro j ⟨z, hz, hj⟩
    exact (h.b z hz).flt j hj
theorem RfAt.c0 (h : RfAt w r k sl zs) : w.cell? ⟨r, 0, none⟩ = some (.int .i64 (k : Int)) := h.o.cell 0 (by simp)
theorem RfAt.c1 (h : RfAt w r k sl zs) : w.cell? ((⟨r, 0, none⟩ : Addr).add 1) = some sl.v := by rw [add_lit]; exact h.o.cell 1 (by simp)
theorem RfAt.at (h : RfAt w r k sl zs) {i : Nat} (hi : i < zs.length) : ∃ a : Addr, sl.p = some a ∧ rowAt w (a.add (i * 4)) 0 (rzC zs[i]) := by
  obtain ⟨a, ha, _, hrow⟩ := h.s.get (i := i) (by simpa using hi)
  rw [List.getElem_map] at hrow
  exact ⟨a, ha, hrow⟩
theorem need_spec8 (s : Slc) (w : World) (hl : s.l ≤ 2 ^ 30) : Calls Tryd.prog fn_tidewaterref08_need ⟨[s.v]⟩ w fun e w' => e = .returned (.int .i64 (need s.l : Int)) ∧ w' = w := by
  refine tidewaterref08_need_ok _ ?_
  unfold tidewaterref08_need need secs
  refine ⟨inR64 (by omega), by omega, by omega, inR64 (by omega), inR64 (by omega), ?_, rfl⟩
  congr 2
theorem refFits_spec8 (h : RfAt w r k sl zs) (hz : zs.length ≤ 2 ^ 20) (hf : ∀ z ∈ zs, sumN z.g.recs ≤ 2 ^ 40) (s : Slc) (hl : s.l ≤ 2 ^ 30) :
    Calls Tryd.prog fn_tidewaterref08_Store_Fits ⟨[ptrR' r, s.v]⟩ w fun e w' => e = .returned (.bool (fitsL (gL zs) s.l)) ∧ Keep w w' := by
  refine tidewaterref08_Store_Fits_ok _ _ ?_
  unfold tidewaterref08_Store_Fits
  have hsl := h.s.sl
  have kd : Keep w (World.drew w) := Ext.drew _ _
  refine needSome_mk rfl ⟨_, h.c1, BIf_dec (fun h0 => ?_) (fun h0 => ?_)⟩
  · have hi : zs.length - 1 < zs.length := by omega
    obtain ⟨a, ha, hrow⟩ := (h.keep kd).at hi
    have e1 : Int.toNat (((sl.l : Nat) : Int) - 1) = zs.length - 1 := by omega
    have hzn := h.n _ (List.getElem_mem hi)
    have hf1 := hf _ (List.getElem_mem hi)
    refine needSome_mk rfl ⟨_, (h.keep kd).c1, inR64 (by omega), needSome_mk ha ⟨by omega, by omega, _, by rw [e1]; exact rowAt_c hrow 2 (by simp [rzC]), (need_spec8 s _ hl).mono ?_⟩⟩
    rintro e w10 ⟨rfl, rfl⟩
    have hnl : need s.l ≤ 2 ^ 30 := by unfold need secs; omega
    refine ⟨_, rfl, ⟨_, by rw [e1]; exact rowAt_c hrow 2 (by simp [rzC]), rfl⟩, ⟨_, (h.keep kd).c1, rfl⟩, inR64 (by omega), ?_, kd⟩
    have e2 : fitsL (gL zs) s.l = decide ((zs[zs.length - 1].g).fin + need s.l ≤ 64) := by
      have e3 : (gL zs).getLast? = some zs[zs.length - 1].g := by
        rw [List.getLast?_map, List.getLast?_eq_getElem?, List.getElem?_eq_getElem hi]; rfl
      unfold fitsL
      rw [e3]
    rw [e2]
    have e4 : decide (zs[zs.length - 1].n + (need s.l : Int) ≤ 63) = decide ((zs[zs.length - 1].g).fin + need s.l ≤ 64) := by
      rw [decide_eq_decide, hzn]
      unfold SegS.fin; omega
    rw [← e4]
  · have : zs = [] := List.length_eq_zero_iff.1 (by omega)
    subst this
    exact ⟨rfl, kd⟩

theorem freeAt_take {L : List SegS} {p i : Nat} (hi : i < L.length) : freeAt (L.take (i + 1)) p = (freeAt (L.take i) p && decide (L[i].place ≠ p)) := by
  unfold freeAt
  rw [take_snoc' _ _ hi, List.all_append]
  simp
/-- A row more. -/
theorem refTake_spec8 (h : RfAt w r k sl zs) (hk : k ≤ 2 ^ 20) (hz : zs.length ≤ 2 ^ 20) (hN : ∀ z ∈ zs, z.g.num ≤ 2 ^ 60) :
    Calls Tryd.prog fn_tidewaterref08_Store_Take ⟨[ptrR' r]⟩ w fun e w' => match freeP k (gL zs) with
      | none => e = .returned (.bool false) ∧ Keep w w'
      | some p => e = .returned (.bool true) ∧ ∃ sl', RfAt w' r k sl' (zs ++ [⟨⟨p, nextN (gL zs), []⟩, 0, ⟨none, 0, 0⟩, []⟩]) ∧ Ext (RfW r sl zs) w w' ∧ ∀ j, RfW r sl' (zs ++ [⟨⟨p, nextN (gL zs), []⟩, 0, ⟨none, 0, 0⟩, []⟩]) j → RfW r sl zs j ∨ w.heap.size ≤ j := by
  refine tidewaterref08_Store_Take_ok _ ?_
  unfold tidewaterref08_Store_Take
  have hsl := h.s.sl
  refine needSome_mk rfl ⟨_, h.c0, inR64 (by omega), fun at_ p w2 => ∃ j : Nat, p = (j : Int) - 1 ∧ j ≤ k ∧ Keep w w2 ∧ (at_ = -1 ∧ (∀ q, j ≤ q → q < k → freeAt (gL zs) q = false) ∨ ∃ q0 : Nat, at_ = q0 ∧ j ≤ q0 ∧ q0 < k ∧ freeAt (gL zs) q0 = true ∧ ∀ q, j ≤ q → q < q0 → freeAt (gL zs) q = false), fun _ p _ => (p + 1).toNat,
    ⟨k, rfl, Nat.le_refl _, Ext.refl _ _, .inl ⟨rfl, fun q h1 h2 => by omega⟩⟩, ?_⟩
  rintro at_ p w8 ⟨j, rfl, hj, hkk, hat⟩
  intros
  have h8 := h.keep hkk
  refine BIf_dec (fun h0 => ?_) (fun h0 => ?_)
  · obtain ⟨p, rfl⟩ : ∃ p, j = p + 1 := ⟨j - 1, by omega⟩
    have ep : (((p + 1 : Nat) : Int) - 1) = (p : Int) := by omega
    rw [ep]
    refine needSome_mk rfl ⟨_, h8.c1, fun tk i w2 => ∃ n : Nat, i = n ∧ n ≤ zs.length ∧ tk = !freeAt ((gL zs).take n) p ∧ Keep w8 w2, fun _ i _ => ((zs.length : Int) - i).toNat, ⟨0, rfl, by omega, rfl, Ext.refl _ _⟩, ?_⟩
    rintro tk i w41 ⟨n, rfl, hn, rfl, hkn⟩
    intros
    refine BIf_dec (fun h1 => ?_) (fun h1 => ?_)
    · have hnl : n < zs.length := by omega
      obtain ⟨a, ha, hrow⟩ := (h8.keep hkn).at hnl
      have hnl2 : n < (gL zs).length := by simpa using hnl
      have hft := freeAt_take (p := p) hnl2
      have hgn : (gL zs)[n] = zs[n].g := List.getElem_map _
      rw [hgn] at hft
      refine needSome_mk ha ⟨by omega, h1, _, _, _, _, by rw [Int.toNat_natCast]; exact hrow, var_mk (cs := rzC zs[n]) rfl rfl (fun r59 w61 hr o59 k61 hs => ?_)⟩
      refine BIf_mk (fun h2 => ?_) (fun h2 => ?_)
      · refine ⟨inR64 (by omega), ⟨n + 1, rfl, hnl, ?_, hkn.trans k61⟩, by dsimp only; omega⟩
        rw [hft]
        have : freeAt ((gL zs).take n) p = false := by simpa using h2
        rw [this]; rfl
      · refine ⟨_, o59.cell 0 (by simp [rzC]), inR64 (by omega), ⟨n + 1, rfl, hnl, ?_, hkn.trans k61⟩, by dsimp only; omega⟩
        rw [hft]
        have : freeAt ((gL zs).take n) p = true := by simpa using h2
        rw [this, Bool.true_and]
        by_cases e : zs[n].g.place = p
        · rw [decide_eq_true (show ((zs[n].g.place : Nat) : Int) = (p : Int) by omega), decide_eq_false (by omega)]; rfl
        · rw [decide_eq_false (show ¬ ((zs[n].g.place : Nat) : Int) = (p : Int) by omega), decide_eq_true e]; rfl
    · have hne : n = zs.length := by omega
      subst hne
      have ht : (gL zs).take zs.length = gL zs := List.take_of_length_le (by simp)
      rw [ht]
      refine BIf_mk (fun h2 => ?_) (fun h2 => ?_)
      · have hfr : freeAt (gL zs) p = true := by simpa using h2
        refine ⟨inR64 (by omega), ⟨p, rfl, by omega, hkk.trans hkn, .inr ⟨p, rfl, by omega, by omega, hfr, fun q h3 h4 => by omega⟩⟩, by dsimp only; omega⟩
      · have hfr : freeAt (gL zs) p = false := by simpa using h2
        have stp : ∀ q, p ≤ q → q ≠ p → p + 1 ≤ q := fun q h1 h2 => by omega
        refine ⟨inR64 (by omega), ⟨p, rfl, by omega, hkk.trans hkn, ?_⟩, by dsimp only; omega⟩
        rcases hat with ⟨rfl, hno⟩ | ⟨q0, rfl, g1, g2, g3, g4⟩
        · refine .inl ⟨rfl, fun q h3 h4 => ?_⟩
          by_cases e : q = p
          · subst e; exact hfr
          · exact hno q (stp q h3 e) h4
        · refine .inr ⟨q0, rfl, by omega, g2, g3, fun q h3 h4 => ?_⟩
          by_cases e : q = p
          · subst e; exact hfr
          · exact g4 q (stp q h3 e) h4
  · have hj0 : j = 0 := by omega
    subst hj0
    rcases hat with ⟨rfl, hno⟩ | ⟨q0, rfl, g1, g2, g3, g4⟩
    · rw [freeP_none (fun q hq => hno q (by omega) hq)]
      exact BIf_dec (fun _ => ⟨rfl, hkk⟩) (fun h1 => by omega)
    · rw [freeP_some g2 g3 (fun q hq => g4 q (by omega) hq)]
      refine BIf_dec (fun h1 => by omega) (fun _ => ⟨fun n w2 => n = ((nextN (gL zs) : Nat) : Int) ∧ w2 = w8, needSome_mk rfl ⟨_, h8.c1, BIf_dec (fun h2 => ?_) (fun h2 => ?_)⟩, ?_⟩)
      · have hi : zs.length - 1 < zs.length := by omega
        obtain ⟨a, ha, hrow⟩ := h8.at hi
        have e1 : Int.toNat (((sl.l : Nat) : Int) - 1) = zs.length - 1 := by omega
        have hNi := hN _ (List.getElem_mem hi)
        have hnx := nextN_int (gL zs)
        rw [lastN_get (by simp; omega)] at hnx
        have e2 : (gL zs)[(gL zs).length - 1]'(by simp; omega) = zs[zs.length - 1].g := by simp
        rw [e2] at hnx
        exact needSome_mk rfl ⟨_, h8.c1, inR64 (by omega), needSome_mk ha ⟨by omega, by omega, _, by rw [e1]; exact rowAt_c hrow 1 (by simp [rzC]), inR64 (by omega), hnx, rfl⟩⟩
      · have : zs = [] := List.length_eq_zero_iff.1 (by omega)
        subst this
        exact ⟨rfl, rfl⟩
      · rintro n w71 ⟨rfl, rfl⟩
        intros
        refine needSome_mk rfl ⟨_, h8.c1, newS_mk (fun r92 w93 hr hb k93 hs => ?_)⟩
        have h93 := h8.keep k93
        refine h93.s.snoc (cs := rzC ⟨⟨q0, nextN (gL zs), []⟩, 0, ⟨none, 0, 0⟩, []⟩) (x := ⟨⟨q0, nextN (gL zs), []⟩, 0, ⟨none, 0, 0⟩, []⟩) (z := [.int .i64 0, .int .i64 0, .int .i64 0, (⟨none, 0, 0⟩ : Slc).v]) rfl ⟨rfl, (by rintro j ⟨a, ha, _⟩; cases ha)⟩ (fun j hj => by
          obtain ⟨_, a, ha, _⟩ := foot_rz hj
          cases ha) hb (.inl (by simp)) (by omega) (fun s' w95 g1' g2' g3' => needSome_mk rfl ?_)
        have o95 := h93.o.ext g2' h93.nr
        have hs' : ¬ ownB s' r := fun hh => by
          rcases g3' r hh with h5 | h5
          · exact h93.nr h5
          · have := h93.o.lt; omega
        obtain ⟨c1, c2⟩ := o95.setOne 1 (by simp) s'.v
        rw [add_lit]
        refine ⟨c1, fun w97 hw97 => ⟨rfl, s', ?_, ?_, ?_⟩⟩
        · obtain ⟨o97, e97, _⟩ := c2 w97 hw97
          have hmap : zs.map rzC ++ [rzC ⟨⟨q0, nextN (gL zs), []⟩, 0, ⟨none, 0, 0⟩, []⟩] = (zs ++ [(⟨⟨q0, nextN (gL zs), []⟩, 0, ⟨none, 0, 0⟩, []⟩ : Rz)]).map rzC := by simp
          rw [hmap] at g1'
          have lt := h93.lt
          have old : ∀ j, j < w93.heap.size → ¬ ownB sl j → ¬ ownB s' j := fun j h1 h2 hh => (g3' j hh).elim h2 (fun h3 => by omega)
          have e2 : ∀ {j}, RfW r sl zs j → j < w93.heap.size := fun hj => lt.1 _ hj
          refine ⟨o97, g1'.ext e97 (fun j hj hh => hs' (by rw [← show j = r from hh]; exact hj)) (fun j hj hh => ?_), fun z hz => ?_, fun z hz => ?_, ?_, hs', fun z hz j hj => ?_, fun z hz j hj => ?_⟩
          · obtain ⟨cs, hc, hk'⟩ := hj
            obtain ⟨z, hz, rfl⟩ := List.mem_map.1 hc
            obtain ⟨_, hk'⟩ := foot_rz hk'
            rcases List.mem_append.1 hz with hz | hz
            · exact (h93.ds z hz j hk').1 hh
            · rw [List.mem_singleton] at hz; subst hz
              obtain ⟨a, ha, _⟩ := hk'; cases ha
          · rcases List.mem_append.1 hz with hz | hz
            · exact ((h93.b z hz).ext g2' (fun j hj hh => (h93.ds z hz j hj).2 hh) (fun j hj hh => (h93.bt z hz j hj).2.1 hh)).ext e97 (fun j hj hh => (h93.ds z hz j hj).1 hh) (fun j hj hh => (h93.bt z hz j hj).1 hh)
            · rw [List.mem_singleton] at hz; subst hz
              exact Rows.nil _ _
          · rcases List.mem_append.1 hz with hz | hz
            · exact h93.n z hz
            · rw [List.mem_singleton] at hz; subst hz; rfl
          · refine List.pairwise_append.2 ⟨h93.sep, List.pairwise_singleton _ _, fun y hy x hx j hj hh => ?_⟩
            rw [List.mem_singleton] at hx; subst hx
            obtain ⟨a, ha, _⟩ := hh; cases ha
          · rcases List.mem_append.1 hz with hz | hz
            · obtain ⟨v1, v2⟩ := h93.ds z hz j hj
              exact ⟨v1, old j (e2 (.inr (.inr ⟨z, hz, hj⟩))) v2⟩
            · rw [List.mem_singleton] at hz; subst hz
              obtain ⟨a, ha, _⟩ := hj; cases ha
          · rcases List.mem_append.1 hz with hz | hz
            · obtain ⟨v1, v2, v3⟩ := h93.bt z hz j hj
              refine ⟨v1, old j (lt.2 j ⟨z, hz, hj⟩) v2, fun y hy => ?_⟩
              rcases List.mem_append.1 hy with hy | hy
              · exact v3 y hy
              · rw [List.mem_singleton] at hy; subst hy
                rintro ⟨a, ha, _⟩; cases ha
            · rw [List.mem_singleton] at hz; subst hz
              obtain ⟨cs, hc, _⟩ := hj; simp at hc
        · obtain ⟨o97, e97, _⟩ := c2 w97 hw97
          exact (Ext.trans (hkk.trans k93) (g2'.mono (fun j hj => Or.inr (Or.inl hj))) (fun _ h => h.elim) (fun _ h => .inl h)).trans e97 (fun _ h => h) (fun j hj => .inl (.inl hj))
        · have zz := (hkk.trans k93).size
          rintro j (hj | hj | ⟨z, hz, hj⟩)
          · exact .inl (.inl hj)
          · rcases g3' j hj with h5 | h5
            · exact .inl (.inr (.inl h5))
            · exact .inr (by omega)
          · rcases List.mem_append.1 hz with hz | hz
            · exact .inl (.inr (.inr ⟨z, hz, hj⟩))
            · rw [List.mem_singleton] at hz; subst hz
              obtain ⟨a, ha, _⟩ := hj; cases ha
end
end Go.D

set_option linter.unusedVariables false
set_option linter.unusedSimpArgs false
namespace Go.D
open Go Go.Proofs

theorem flat_take {n : Nat} : ∀ (css : List (List Value)), (∀ cs ∈ css, cs.length = n) → ∀ i, css.flatten.take (i * n) = (css.take i).flatten
  | [], _, i => by simp
  | a :: l, h, 0 => by simp
  | a :: l, h, i + 1 => by
    have ha := h a (by simp)
    rw [List.flatten_cons, List.take_succ_cons, List.flatten_cons, show (i + 1) * n = a.length + i * n by rw [ha, Nat.add_mul]; omega, List.take_length_add_append, flat_take l (fun c hc => h c (by simp [hc])) i]
theorem flat_drop {n : Nat} : ∀ (css : List (List Value)), (∀ cs ∈ css, cs.length = n) → ∀ i, css.flatten.drop (i * n) = (css.drop i).flatten
  | [], _, i => by simp
  | a :: l, h, 0 => by simp
  | a :: l, h, i + 1 => by
    have ha := h a (by simp)
    rw [List.flatten_cons, List.drop_succ_cons, show (i + 1) * n = a.length + i * n by rw [ha, Nat.add_mul]; omega, List.drop_length_add_append, flat_drop l (fun c hc => h c (by simp [hc])) i]

section
variable {w w' : World} {r k : Nat} {sl : Slc} {M zs : List Rz} {z z' : Rz}
theorem row_last (h : Rows RzR w sl (M ++ [z]) ((M ++ [z]).map rzC)) : ∃ a : Addr, sl.p = some a ∧ rowAt w (a.add (M.length * 4)) 0 (rzC z) := by
  obtain ⟨a, ha, _, hrow⟩ := h.get (i := M.length) (by simp)
  have e : ((M ++ [z]).map rzC)[M.length]'(by simp) = rzC z := by simp
  rw [e] at hrow
  exact ⟨a, ha, hrow⟩
theorem row_last_set (h : Rows RzR w sl (M ++ [z]) ((M ++ [z]).map rzC)) {a : Addr} (ha : sl.p = some a) (j : Nat) (hj : j < 4) (v : Value) (hz : (rzC z).take j ++ [v] ++ (rzC z).drop (j + 1) = rzC z') (hlt : ∀ k, ownB z'.s k → k < w.heap.size) (hd : ∀ k, ownB z'.s k → ¬ ownB sl k) :
    canW w ((a.add (M.length * 4)).add j) 1 ∧ ∀ w', w' = w.setCell ((a.add (M.length * 4)).add j) v → Rows RzR w' sl (M ++ [z']) ((M ++ [z']).map rzC) ∧ Ext (ownB sl) w w' ∧ w'.heap.size = w.heap.size := by
  have hi : M.length < ((M ++ [z]).map rzC).length := by simp
  have e : ((M ++ [z]).map rzC)[M.length]'hi = rzC z := by simp
  obtain ⟨c1, c2⟩ := Rows.set h hi j [v] (by show j + 1 ≤ 4; omega) z' ha (fun w' he => ⟨by rw [e]; exact hz, fun k hk => Nat.lt_of_lt_of_le (hlt k hk) he.size⟩) (fun k hk => by
    rw [e] at hk
    have : footV (rzC z') k := by rw [← hz]; exact hk
    exact hd k (foot_rz this).2)
  refine ⟨c1, fun w' hw => ?_⟩
  have h0 : ((a.add (M.length * 4)).add j).add 0 = (a.add (M.length * 4)).add j := by
    generalize (a.add (M.length * 4)).add j = b
    simp [Addr.add]
  obtain ⟨g1, g2, g3⟩ := c2 w' (by rw [hw]; simp only [setCells]; rw [show (Addr.add (a.add (M.length * RzR.n)) j) = (a.add (M.length * 4)).add j from rfl, h0])
  refine ⟨?_, g2, g3⟩
  have e1 : (M ++ [z]).set M.length z' = M ++ [z'] := by simp
  have e2 : ((M ++ [z]).map rzC).set M.length (((M ++ [z]).map rzC)[M.length].take j ++ [v] ++ ((M ++ [z]).map rzC)[M.length].drop (j + [v].length)) = (M ++ [z']).map rzC := by
    rw [e]
    have : (rzC z).take j ++ [v] ++ (rzC z).drop (j + [v].length) = rzC z' := hz
    rw [this]; simp
  rw [e1, e2] at g1
  exact g1

/-- The last row is another. -/
theorem RfAt.last (h : RfAt w r k sl (M ++ [z])) (he : Ext (fun j => ownB sl j ∨ ownB z.s j) w w') (hs : Rows RzR w' sl (M ++ [z']) ((M ++ [z']).map rzC)) (hb : Rows BytR w' z'.s z'.g.recs z'.c) (hn : z'.n = (sumN z'.g.recs : Int))
    (h1 : ∀ j, ownB z'.s j → ownB z.s j ∨ w.heap.size ≤ j) (h2 : ∀ j, footC z'.c j → footC z.c j ∨ w.heap.size ≤ j) :
    RfAt w' r k sl (M ++ [z']) ∧ (∀ j, RfW r sl (M ++ [z']) j → RfW r sl (M ++ [z]) j ∨ w.heap.size ≤ j) ∧ ∀ j, RfY (M ++ [z']) j → RfY (M ++ [z]) j ∨ w.heap.size ≤ j := by
  have lt := h.lt
  have hz : z ∈ M ++ [z] := by simp
  have hM : ∀ y ∈ M, y ∈ M ++ [z] := fun y hy => by simp [hy]
  obtain ⟨p1, _, p3⟩ := List.pairwise_append.1 h.sep
  have ltW : ∀ {j}, RfW r sl (M ++ [z]) j → j < w.heap.size := fun hj => lt.1 _ hj
  have dz : ∀ j, ownB z'.s j → j ≠ r ∧ ¬ ownB sl j := fun j hj => by
    rcases h1 j hj with g | g
    · exact h.ds z hz j g
    · exact ⟨fun e => by have := ltW (.inl e); omega, fun hh => by have := ltW (.inr (.inl hh)); omega⟩
  have dM : ∀ y ∈ M, ∀ j, ownB y.s j → ¬ ownB z'.s j := fun y hy j hj hh => by
    rcases h1 j hh with g | g
    · exact p3 y hy z (by simp) j hj g
    · have := ltW (.inr (.inr ⟨y, hM y hy, hj⟩)); omega
  refine ⟨⟨h.o.ext he (fun hh => hh.elim h.nr (fun g => (h.ds z hz r g).1 rfl)), hs, fun y hy => ?_, fun y hy => ?_, ?_, h.nr, fun y hy j hj => ?_, fun y hy j hj => ?_⟩, ?_, ?_⟩
  · rcases List.mem_append.1 hy with hy | hy
    · refine (h.b y (hM y hy)).ext he (fun j hj hh => ?_) (fun j hj hh => ?_)
      · exact hh.elim (h.ds y (hM y hy) j hj).2 (fun g => p3 y hy z (by simp) j hj g)
      · obtain ⟨v1, v2, v3⟩ := h.bt y (hM y hy) j hj
        exact hh.elim v2 (v3 z hz)
    · rw [List.mem_singleton] at hy; subst hy; exact hb
  · rcases List.mem_append.1 hy with hy | hy
    · exact h.n y (hM y hy)
    · rw [List.mem_singleton] at hy; subst hy; exact hn
  · refine List.pairwise_append.2 ⟨p1, List.pairwise_singleton _ _, fun y hy x hx j hj hh => ?_⟩
    rw [List.mem_singleton] at hx; subst hx
    exact dM y hy j hj hh
  · rcases List.mem_append.1 hy with hy | hy
    · exact h.ds y (hM y hy) j hj
    · rw [List.mem_singleton] at hy; subst hy; exact dz j hj
  · rcases List.mem_append.1 hy with hy' | hy
    · obtain ⟨v1, v2, v3⟩ := h.bt y (hM y hy') j hj
      refine ⟨v1, v2, fun x hx => ?_⟩
      rcases List.mem_append.1 hx with hx | hx
      · exact v3 x (hM x hx)
      · rw [List.mem_singleton] at hx; subst hx
        intro hh
        have hjl := lt.2 j ⟨y, List.mem_append_left _ hy', hj⟩
        rcases h1 j hh with g | g
        · exact v3 z hz g
        · omega
    · rw [List.mem_singleton] at hy; subst hy
      rcases h2 j hj with g | g
      · obtain ⟨v1, v2, v3⟩ := h.bt z hz j g
        refine ⟨v1, v2, fun x hx => ?_⟩
        rcases List.mem_append.1 hx with hx | hx
        · exact v3 x (hM x hx)
        · rw [List.mem_singleton] at hx; subst hx
          exact hb.sep j hj
      · refine ⟨fun e => by have := ltW (.inl e); omega, fun hh => by have := ltW (.inr (.inl hh)); omega, fun x hx => ?_⟩
        rcases List.mem_append.1 hx with hx | hx
        · intro hh
          have := ltW (.inr (.inr ⟨x, hM x hx, hh⟩)); omega
        · rw [List.mem_singleton] at hx; subst hx
          exact hb.sep j hj
  · rintro j (hj | hj | ⟨y, hy, hj⟩)
    · exact .inl (.inl hj)
    · exact .inl (.inr (.inl hj))
    · rcases List.mem_append.1 hy with hy | hy
      · exact .inl (.inr (.inr ⟨y, hM y hy, hj⟩))
      · rw [List.mem_singleton] at hy; subst hy
        rcases h1 j hj with g | g
        · exact .inl (.inr (.inr ⟨z, hz, g⟩))
        · exact .inr g
  · rintro j ⟨y, hy, hj⟩
    rcases List.mem_append.1 hy with hy | hy
    · exact .inl ⟨y, hM y hy, hj⟩
    · rw [List.mem_singleton] at hy; subst hy
      rcases h2 j hj with g | g
      · exact .inl ⟨z, hz, g⟩
      · exact .inr g

/-- What a call of the model does to the heap. -/
def RfTo (r : Nat) (sl sl' : Slc) (zs zs' : List Rz) (w w' : World) : Prop := Ext (RfW r sl zs) w w' ∧ (∀ j, RfW r sl' zs' j → RfW r sl zs j ∨ w.heap.size ≤ j) ∧ ∀ j, RfY zs' j → RfY zs j ∨ w.heap.size ≤ j
theorem RfTo.trans {sl1 sl2 sl3 : Slc} {z1 z2 z3 : List Rz} {a b c : World} (h1 : RfTo r sl1 sl2 z1 z2 a b) (h2 : RfTo r sl2 sl3 z2 z3 b c) : RfTo r sl1 sl3 z1 z3 a c :=
  ⟨h1.1.trans h2.1 (fun _ h => h) (fun j hj => h1.2.1 j hj), fun j hj => (h2.2.1 j hj).elim (h1.2.1 j) (fun h => .inr (Nat.le_trans h1.1.size h)), fun j hj => (h2.2.2 j hj).elim (h1.2.2 j) (fun h => .inr (Nat.le_trans h1.1.size h))⟩
theorem RfTo.keep {w w' : World} (hk : Keep w w') : RfTo r sl sl zs zs w w' := ⟨hk.mono (fun _ h => h.elim), fun j hj => .inl hj, fun j hj => .inl hj⟩
structure RfOk (zs : List Rz) : Prop where
  l : zs.length ≤ 1000
  n : ∀ z ∈ zs, z.g.num ≤ 2 ^ 59
  s : ∀ z ∈ zs, sumN z.g.recs ≤ 100

theorem refAppend_spec8 (h : RfAt w r k sl zs) (hz : RfOk zs) (hk : k ≤ 2 ^ 20) (s : Slc) (b : List UInt8) (hb : bytesAt w s b) (hbl : b.length ≤ 2 ^ 20) (hbs : 0 < s.l → ∀ j, ownB s j → ¬ RfW r sl zs j) :
    Calls Tryd.prog fn_tidewaterref08_Store_Append ⟨[ptrR' r, s.v]⟩ w fun e w' => e = .returned (.tuple ⟨[.int .i64 (appR k (gL zs) b).2.1, .int .i64 (eN (appR k (gL zs) b).1)]⟩) ∧ ∃ sl' zs', gL zs' = (appR k (gL zs) b).2.2 ∧ RfAt w' r k sl' zs' ∧ RfTo r sl sl' zs zs' w w' := by
  refine tidewaterref08_Store_Append_ok _ _ ?_
  unfold tidewaterref08_Store_Append
  have hsl := hb.1
  have form : b.length = 0 ∨ 3968 < b.length → (appR k (gL zs) b) = (some 3, 0, gL zs) := fun hh => by unfold appR; rw [if_pos hh]
  refine ⟨fun w2 => w2 = w ∧ 0 < b.length ∧ b.length ≤ 3968, BIf_dec (fun h0 => ?_) (fun h0 => BIf_dec (fun h1 => ?_) (fun h1 => ⟨rfl, by omega, by omega⟩)), ?_⟩
  · rw [form (by omega)]
    exact ⟨rfl, sl, zs, rfl, h, RfTo.keep (Ext.refl _ _)⟩
  · rw [form (by omega)]
    exact ⟨rfl, sl, zs, rfl, h, RfTo.keep (Ext.refl _ _)⟩
  rintro w4 ⟨rfl, hb0, hb1⟩
  intros
  have happ : appR k (gL zs) b = match baseL k (gL zs) b.length with | none => (some 12, 0, gL zs) | some L0 => (none, lastN L0, addRec L0 b) := by unfold appR; rw [if_neg (by omega)]; try rfl
  refine ⟨fun w2 => ∃ sl2 M z, baseL k (gL zs) b.length = some (gL (M ++ [z])) ∧ z.g.fin ≤ 200 ∧ (M ++ [z]).length ≤ 2000 ∧ RfAt w2 r k sl2 (M ++ [z]) ∧ RfTo r sl sl2 zs (M ++ [z]) w4 w2, (refFits_spec8 h (by have := hz.l; omega) (fun z hzz => by have := hz.s z hzz; omega) s (by omega)).mono ?_, ?_⟩
  · rintro e w17 ⟨rfl, k17⟩
    rw [hsl]
    refine ⟨_, rfl, BIf_mk (fun h2 => ?_) (fun h2 => ?_)⟩
    · have hf : fitsL (gL zs) b.length = false := by simpa using h2
      have hbase : baseL k (gL zs) b.length = (freeP k (gL zs)).map fun p => takeL p (gL zs) := by unfold baseL; rw [hf]; rfl
      refine (refTake_spec8 (h.keep k17) hk (by have := hz.l; omega) (fun z hzz => by have := hz.n z hzz; omega)).mono ?_
      rintro e w20 hR
      cases hfp : freeP k (gL zs) with
      | none =>
        rw [hfp] at hR
        obtain ⟨rfl, k20⟩ := hR
        refine ⟨_, rfl, BIf_mk (fun _ => ?_) (fun h => by cases h)⟩
        rw [happ, hbase, hfp]
        exact ⟨rfl, sl, zs, rfl, (h.keep k17).keep k20, RfTo.keep (k17.trans k20)⟩
      | some p =>
        rw [hfp] at hR
        obtain ⟨rfl, sl', hR', e20, f20⟩ := hR
        refine ⟨_, rfl, BIf_mk (fun h => by cases h) (fun _ => ⟨sl', zs, ⟨⟨p, nextN (gL zs), []⟩, 0, ⟨none, 0, 0⟩, []⟩, by rw [hbase, hfp]; simp, by show 1 + 0 ≤ 200; omega, by have := hz.l; simp; omega, hR', Ext.trans k17 e20 (fun _ h => h.elim) (fun _ h => .inl h), fun j hj => (f20 j hj).imp (fun h => h) (fun h => Nat.le_trans k17.size h), fun j hj => ?_⟩)⟩
        obtain ⟨y, hy, hj⟩ := hj
        rcases List.mem_append.1 hy with hy | hy
        · exact .inl ⟨y, hy, hj⟩
        · rw [List.mem_singleton] at hy; subst hy
          obtain ⟨cs, hc, _⟩ := hj; simp at hc
    · have hf : fitsL (gL zs) b.length = true := by simpa using h2
      have hne : zs ≠ [] := fun e => by subst e; simp [fitsL] at hf
      have hzs : zs = zs.dropLast ++ [zs.getLast hne] := (List.dropLast_concat_getLast hne).symm
      refine ⟨sl, zs.dropLast, zs.getLast hne, by rw [← hzs]; unfold baseL; rw [hf]; rfl, by have := hz.s _ (List.getLast_mem hne); unfold SegS.fin; omega, by rw [← hzs]; have := hz.l; omega, by rw [← hzs]; exact h.keep k17, by rw [← hzs]; exact RfTo.keep k17⟩
  · rintro w22 ⟨sl2, M, z, hbase, hfin, hlen, hA, hT⟩
    intros
    rw [happ, hbase]
    have hgl : gL (M ++ [z]) = gL M ++ [z.g] := by simp
    have e0 : (match some (gL (M ++ [z])) with | none => (some 12, 0, gL zs) | some L0 => (none, lastN L0, addRec L0 b) : Option Nat × Int × List SegS) = (none, (z.g.num : Int), gL M ++ [{ z.g with recs := z.g.recs ++ [b] }]) := by
      show (none, lastN (gL (M ++ [z])), addRec (gL (M ++ [z])) b) = _
      rw [hgl, lastN_snoc, addRec_snoc]
    rw [e0]
    have kd : Keep w22 (World.drew (World.drew w22)) := Keep.trans (Ext.drew _ _) (Ext.drew _ _)
    have hd := hA.keep kd
    have hsl2 := hA.s.sl
    have hlM : (M ++ [z]).length = M.length + 1 := by simp
    obtain ⟨a, ha, hrow⟩ := row_last hd.s
    have e1 : Int.toNat (((sl2.l : Nat) : Int) - 1) = M.length := by omega
    have hzm : z ∈ M ++ [z] := by simp
    have hzn := hA.n z hzm
    refine needSome_mk rfl ⟨_, (hA.keep (Ext.drew _ _)).c1, needSome_mk rfl ⟨_, (hA.keep (Ext.drew _ _)).c1, inR64 (by omega), needSome_mk ha ⟨by omega, by omega, ?_⟩⟩⟩
    rw [e1]
    refine ⟨_, rowAt_c hrow 2 (by simp [rzC]), (need_spec8 s _ (by omega)).mono ?_⟩
    rintro e w41 ⟨rfl, rfl⟩
    have hnl : need s.l ≤ 2 ^ 30 := by unfold need secs; omega
    have hfz : z.g.fin = 1 + sumN z.g.recs := rfl
    have hds := hd.ds z hzm
    have hbz := hd.b z hzm
    obtain ⟨c1, c2⟩ := row_last_set hd.s ha 2 (by omega) (.int .i64 (z.n + (need s.l : Int))) (z' := { z with n := z.n + (need s.l : Int) }) rfl (fun j hj => hbz.lt j hj) (fun j hj => (hds j hj).2)
    refine ⟨_, rfl, ⟨_, rowAt_c hrow 2 (by simp [rzC]), rfl⟩, inR64 (by omega), c1, fun w44 hw44 => ?_⟩
    obtain ⟨r44, e44, z44⟩ := c2 w44 hw44
    have kd44 : Keep w44 (World.drew w44) := Ext.drew _ _
    have rd44 := r44.keep kd44
    obtain ⟨a', ha', hrow44⟩ := row_last rd44
    rw [ha] at ha'; cases ha'
    have c3 : ∀ {w2 : World}, Keep (World.drew w44) w2 → World.cell? w2 ((a.add (M.length * 4)).add 3) = some z.s.v := fun hk => hk.cell (rowAt_c hrow44 3 (by simp [rzC]))
    refine ⟨_, c3 (Ext.refl _ _), newS_mk (fun r46 w47 hr46 hb46 k46 hs46 => ⟨⟨_, c3 k46, rfl⟩, ?_⟩)⟩
    have x44 : Ext (ownB sl2) (World.drew (World.drew w22)) (World.drew w44) := e44.trans kd44 (fun _ h => h) (fun _ h => h.elim)
    have hb22 : bytesAt (World.drew w44) s b := by
      have h1 : bytesAt w22 s b := bytesAt_stayX hb hT.1 hbs
      refine bytesAt_stayX (bytesAt_keep h1 kd) x44 (fun h0 j hj hh => ?_)
      rcases hT.2.1 j (.inr (.inl hh)) with g | g
      · exact hbs h0 j hj g
      · have := bytesAt_ltX hb h0 j hj; omega
    refine append_bytes (vs := []) (w0 := World.drew w44) (Own.new (sz := 1) (n := 0) hb46 (.inl (by simp)) rfl) rfl (Fresh.at (by omega)) k46 (srcAt_bytes (bytesAt_keep hb22 k46)) (by simp only [Src.n]; omega) (fun s49 w50 h49 k50 f49 x50 => ⟨⟨_, c3 k50, rfl⟩, newS_mk (fun r52 w53 hr52 hb52 k52 hs52 => ⟨⟨_, c3 (k50.trans k52), rfl⟩, ?_⟩)⟩)
    rw [List.nil_append] at h49
    have k53 := k50.trans k52
    have hb44 : Rows BytR (World.drew w44) z.s z.g.recs z.c := hbz.ext x44 (fun j hj hh => (hds j hj).2 hh) (fun j hj hh => (hd.bt z hzm j hj).2.1 hh)
    have hb53 := hb44.keep k53
    have hrl := sumN_ge z.g.recs
    refine hb53.snoc (cs := [s49.v]) (x := b) (z := [(⟨none, 0, 0⟩ : Slc).v]) rfl ⟨s49, rfl, (h49.keep k52).bytes⟩ (fun j hj hh => ?_) hb52 (.inl (by simp)) (by omega) (fun s55 w56 q1 q2 q3 => ?_)
    · have h5 := f49 j (foot_byt hj).2
      have h6 := hb44.lt j hh
      omega
    · have r53 := rd44.keep k53
      have r56 : Rows RzR w56 sl2 (M ++ [{ z with n := z.n + (need s.l : Int) }]) ((M ++ [{ z with n := z.n + (need s.l : Int) }]).map rzC) := rz_ext r53 q2 (fun j hj hh => (hds j hh).2 hj)
      have q3' : ∀ j, ownB s55 j → ownB z.s j ∨ (World.drew (World.drew w22)).heap.size ≤ j := fun j hj => (q3 j hj).imp (fun h => h) (fun h => by
        have := k53.size
        have := x44.size
        omega)
      have ltd := hd.lt
      obtain ⟨c5, c6⟩ := row_last_set r56 ha 3 (by omega) s55.v (z' := ⟨{ z.g with recs := z.g.recs ++ [b] }, z.n + (need s.l : Int), s55, z.c ++ [[s49.v]]⟩) rfl (fun j hj => q1.lt j hj) (fun j hj => by
        rcases q3' j hj with g | g
        · exact (hds j g).2
        · intro hh
          have := ltd.1 j (.inr (.inl hh)); omega)
      refine ⟨c5, fun w57 hw57 => ?_⟩
      obtain ⟨r57, e57, z57⟩ := c6 w57 hw57
      obtain ⟨a', ha', hrow57⟩ := row_last r57
      rw [ha] at ha'; cases ha'
      have hb57 : Rows BytR w57 s55 (z.g.recs ++ [b]) (z.c ++ [[s49.v]]) := q1.ext e57 (fun j hj hh => by
        rcases q3' j hj with g | g
        · exact (hds j g).2 hh
        · have := ltd.1 j (.inr (.inl hh)); omega) (fun j hj hh => by
        obtain ⟨cs, hc, hk'⟩ := hj
        rcases List.mem_append.1 hc with hc | hc
        · exact (hd.bt z hzm j ⟨cs, hc, hk'⟩).2.1 hh
        · rw [List.mem_singleton] at hc; subst hc
          have h5 := f49 j (foot_byt hk').2
          have := ltd.1 j (.inr (.inl hh))
          have := x44.size
          omega)
      have xx : Ext (fun j => ownB sl2 j ∨ ownB z.s j) (World.drew (World.drew w22)) w57 := (((x44.mono (fun j hj => Or.inl hj)).trans k53 (fun _ h => h) (fun _ h => h.elim)).trans q2 (fun _ h => h) (fun j hj => .inl (.inr hj))).trans e57 (fun _ h => h) (fun j hj => .inl (.inl hj))
      obtain ⟨F, FW, FY⟩ := hd.last xx r57 hb57 (by
        show z.n + (need s.l : Int) = _
        rw [sumN_snoc, hzn, hsl]; omega) q3' (fun j hj => by
        obtain ⟨cs, hc, hk'⟩ := hj
        rcases List.mem_append.1 hc with hc | hc
        · exact .inl ⟨cs, hc, hk'⟩
        · rw [List.mem_singleton] at hc; subst hc
          have h5 := f49 j (foot_byt hk').2
          have := x44.size
          exact .inr (by omega))
      refine ⟨_, rowAt_c hrow57 1 (by simp [rzC]), rfl, sl2, M ++ [⟨{ z.g with recs := z.g.recs ++ [b] }, z.n + (need s.l : Int), s55, z.c ++ [[s49.v]]⟩], by simp, F, hT.trans ((RfTo.keep kd).trans ⟨?_, FW, FY⟩)⟩
      exact xx.mono (fun j hj => hj.elim (fun h => .inr (.inl h)) (fun h => .inr (.inr ⟨z, hzm, h⟩)))
end
end Go.D

set_option linter.unusedVariables false
set_option linter.unusedSimpArgs false
namespace Go.D
open Go

/-! ### filling a device -/
theorem appR_fit {k : Nat} {M : List SegS} {g : SegS} {b : List UInt8} (h0 : 0 < b.length) (h1 : b.length ≤ 3968) (hf : g.fin + need b.length ≤ 64) : appR k (M ++ [g]) b = (none, (g.num : Int), M ++ [{ g with recs := g.recs ++ [b] }]) := by
  unfold appR
  rw [if_neg (by omega)]
  have : baseL k (M ++ [g]) b.length = some (M ++ [g]) := by
    unfold baseL
    rw [fitsL_snoc, decide_eq_true hf]; rfl
  rw [this]
  show (none, lastN (M ++ [g]), addRec (M ++ [g]) b) = _
  rw [lastN_snoc, addRec_snoc]
theorem appR_take {k p : Nat} {L : List SegS} {b : List UInt8} (h0 : 0 < b.length) (h1 : b.length ≤ 3968) (hf : fitsL L b.length = false) (hp : freeP k L = some p) : appR k L b = (none, (nextN L : Int), L ++ [⟨p, nextN L, [b]⟩]) := by
  unfold appR
  rw [if_neg (by omega)]
  have : baseL k L b.length = some (takeL p L) := by
    unfold baseL
    rw [hf, hp]; rfl
  rw [this]
  show (none, lastN (L ++ [⟨p, nextN L, []⟩]), addRec (L ++ [⟨p, nextN L, []⟩]) b) = _
  rw [lastN_snoc, addRec_snoc]; rfl
theorem appR_full {k : Nat} {L : List SegS} {b : List UInt8} (h0 : 0 < b.length) (h1 : b.length ≤ 3968) (hf : fitsL L b.length = false) (hp : freeP k L = none) : appR k L b = (some 12, 0, L) := by
  unfold appR
  rw [if_neg (by omega)]
  have : baseL k L b.length = none := by
    unfold baseL
    rw [hf, hp]; rfl
  rw [this]
theorem sumN_repl (z : List UInt8) (n : Nat) : sumN (List.replicate n z) = n * need z.length := by
  induction n with
  | zero => simp [sumN]
  | succ n ih => rw [List.replicate_succ, sumN, ih, Nat.add_mul]; omega
theorem freeAt_no {L : List SegS} {p : Nat} {g : SegS} (hg : g ∈ L) (h : g.place = p) : freeAt L p = false := by
  cases hq : freeAt L p with
  | false => rfl
  | true => exact absurd h (freeAt_ok.1 hq g hg)

section
variable (N E C s0 : Nat) (z : List UInt8) (B : List SegS)
/-- Segments that are full, at the first places. -/
def fullL (a : Nat) : List SegS := (List.range a).map fun j => ⟨j, s0 + j, List.replicate E z⟩
def FillI (t : Nat) (L : List SegS) : Prop := t = 0 ∧ L = B ∨ ∃ a b, 1 ≤ b ∧ b ≤ E ∧ a < C ∧ t = a * E + b ∧ L = (B ++ fullL E s0 z a) ++ [⟨a, s0 + a, List.replicate b z⟩]
structure FillH : Prop where
  E0 : 1 ≤ E
  E1 : E * need z.length ≤ 63
  E2 : 63 < (E + 1) * need z.length
  z0 : 0 < z.length
  z1 : z.length ≤ 3968
  CN : C ≤ N
  nx : nextN B = s0
  nf : fitsL B z.length = false
  Bp : ∀ g ∈ B, C ≤ g.place
  Bq : ∀ p, C ≤ p → p < N → ∃ g ∈ B, g.place = p
variable {N E C s0 z B}
theorem fullL_mem {a j : Nat} (h : j < a) : (⟨j, s0 + j, List.replicate E z⟩ : SegS) ∈ fullL E s0 z a := List.mem_map.2 ⟨j, by simpa using h, rfl⟩
theorem fullL_succ (a : Nat) : fullL E s0 z (a + 1) = fullL E s0 z a ++ [⟨a, s0 + a, List.replicate E z⟩] := by simp [fullL, List.range_succ]
theorem fullL_place {a : Nat} {g : SegS} (h : g ∈ fullL E s0 z a) : g.place < a := by
  obtain ⟨j, hj, rfl⟩ := List.mem_map.1 h
  simpa using hj
theorem fin_rep (p n b : Nat) : (⟨p, n, List.replicate b z⟩ : SegS).fin = 1 + b * need z.length := by unfold SegS.fin; rw [sumN_repl]
theorem nextN_snoc (M : List SegS) (g : SegS) : nextN (M ++ [g]) = g.num + 1 := by
  have := nextN_int (M ++ [g])
  rw [lastN_snoc] at this
  omega
theorem fill_step (H : FillH N E C s0 z B) {t : Nat} {L : List SegS} (h : FillI E C s0 z B t L) (ht : t < E * C) : (appR N L z).1 = none ∧ (appR N L z).2.1 = ((s0 + t / E : Nat) : Int) ∧ FillI E C s0 z B (t + 1) (appR N L z).2.2 := by
  obtain ⟨E0, E1, E2, z0, z1, CN, nx, nf, Bp, Bq⟩ := H
  have hC : 0 < C := by
    rcases Nat.eq_zero_or_pos C with h | h
    · rw [h] at ht; simp at ht
    · exact h
  rcases h with ⟨rfl, rfl⟩ | ⟨a, b, hb1, hb2, ha, rfl, rfl⟩
  · have hfp : freeP N L = some 0 := freeP_some (by omega) (freeAt_ok.2 (fun g hg => by have := Bp g hg; omega)) (fun j hj => by omega)
    rw [appR_take z0 z1 nf hfp, nx]
    refine ⟨rfl, by simp, .inr ⟨0, 1, by omega, by omega, hC, by omega, ?_⟩⟩
    simp [fullL]
  · by_cases hbE : b < E
    · have hfit : (⟨a, s0 + a, List.replicate b z⟩ : SegS).fin + need z.length ≤ 64 := by
        rw [fin_rep]
        have : (b + 1) * need z.length ≤ E * need z.length := Nat.mul_le_mul_right _ hbE
        rw [Nat.add_mul] at this
        omega
      rw [appR_fit z0 z1 hfit]
      refine ⟨rfl, ?_, .inr ⟨a, b + 1, by omega, by omega, ha, by omega, ?_⟩⟩
      · have : (a * E + b) / E = a := by
          rw [Nat.mul_comm, Nat.mul_add_div (by omega), Nat.div_eq_of_lt hbE]; omega
        rw [this]
      · simp only [List.replicate_succ']
    · have hbe : b = E := by omega
      subst hbe
      have ha1 : a + 1 < C := by
        apply Nat.lt_of_not_le
        intro hle
        have : C = a + 1 := by omega
        subst this
        rw [Nat.mul_add, Nat.mul_comm] at ht
        omega
      have hnf : fitsL ((B ++ fullL b s0 z a) ++ [⟨a, s0 + a, List.replicate b z⟩]) z.length = false := by
        rw [fitsL_snoc, fin_rep]
        rw [Nat.add_mul] at E2
        exact decide_eq_false (by omega)
      have hfp : freeP N ((B ++ fullL b s0 z a) ++ [⟨a, s0 + a, List.replicate b z⟩]) = some (a + 1) := by
        refine freeP_some (by omega) (freeAt_ok.2 (fun g hg => ?_)) (fun j hj => ?_)
        · rcases List.mem_append.1 hg with hg | hg
          · rcases List.mem_append.1 hg with hg | hg
            · have := Bp g hg; omega
            · have := fullL_place hg; omega
          · rw [List.mem_singleton] at hg; subst hg
            show a ≠ a + 1; omega
        · by_cases hja : j = a
          · exact freeAt_no (g := ⟨a, s0 + a, List.replicate b z⟩) (by simp) hja.symm
          · exact freeAt_no (g := ⟨j, s0 + j, List.replicate b z⟩) (List.mem_append_left _ (List.mem_append_right _ (fullL_mem (by omega)))) rfl
      rw [appR_take z0 z1 hnf hfp, nextN_snoc]
      refine ⟨rfl, ?_, .inr ⟨a + 1, 1, by omega, by omega, ha1, by rw [Nat.add_mul]; omega, ?_⟩⟩
      · have : (a * b + b) / b = a + 1 := by
          rw [show a * b + b = (a + 1) * b by rw [Nat.add_mul]; omega, Nat.mul_div_cancel _ (by omega)]
        rw [this]
        rfl
      · rw [fullL_succ]
        simp only [List.append_assoc, List.replicate_succ, List.replicate_zero]
        rfl
theorem fill_end (H : FillH N E C s0 z B) {L : List SegS} (h : FillI E C s0 z B (E * C) L) : appR N L z = (some 12, 0, L) ∧ (C = 0 ∧ L = B ∨ 0 < C ∧ L = B ++ fullL E s0 z C) := by
  obtain ⟨E0, E1, E2, z0, z1, CN, nx, nf, Bp, Bq⟩ := H
  rcases h with ⟨h0, rfl⟩ | ⟨a, b, hb1, hb2, ha, h0, rfl⟩
  · have hC : C = 0 := by
      rcases Nat.eq_zero_or_pos C with h | h
      · exact h
      · have := Nat.mul_pos (show 0 < E by omega) h; omega
    subst hC
    refine ⟨appR_full z0 z1 nf (freeP_none (fun j hj => ?_)), .inl ⟨rfl, rfl⟩⟩
    obtain ⟨g, hg, hp⟩ := Bq j (by omega) hj
    exact freeAt_no hg hp
  · have haC : C = a + 1 ∧ b = E := by
      obtain ⟨c, rfl⟩ : ∃ c, C = a + 1 + c := ⟨C - (a + 1), by omega⟩
      have e1 : E * (a + 1 + c) = a * E + E + E * c := by rw [Nat.mul_add, Nat.mul_add, Nat.mul_comm E a]; omega
      rcases Nat.eq_zero_or_pos c with h | h
      · subst h; rw [Nat.mul_zero] at e1; omega
      · have := Nat.mul_pos (show 0 < E by omega) h; omega
    obtain ⟨rfl, rfl⟩ := haC
    have hL : (B ++ fullL b s0 z a) ++ [⟨a, s0 + a, List.replicate b z⟩] = B ++ fullL b s0 z (a + 1) := by rw [fullL_succ, List.append_assoc]
    refine ⟨appR_full z0 z1 ?_ (freeP_none (fun j hj => ?_)), .inr ⟨by omega, hL⟩⟩
    · rw [fitsL_snoc, fin_rep]
      rw [Nat.add_mul] at E2
      exact decide_eq_false (by omega)
    · rw [hL]
      by_cases hja : j < a + 1
      · exact freeAt_no (g := ⟨j, s0 + j, List.replicate b z⟩) (List.mem_append_right _ (fullL_mem hja)) rfl
      · obtain ⟨g, hg, hp⟩ := Bq j (by omega) hj
        exact freeAt_no (List.mem_append_left _ hg) hp
end
end Go.D

set_option linter.unusedVariables false
set_option linter.unusedSimpArgs false
namespace Go.D
open Go Go.Proofs

theorem appR_err {k : Nat} {L : List SegS} {b : List UInt8} (h : (appR k L b).1 ≠ none) : (appR k L b).2 = (0, L) ∧ ((appR k L b).1 = some 3 ∨ (appR k L b).1 = some 12) := by
  unfold appR at h ⊢
  by_cases hc : b.length = 0 ∨ 3968 < b.length
  · rw [if_pos hc]; exact ⟨rfl, .inl rfl⟩
  · rw [if_neg hc] at h ⊢
    cases hb : baseL k L b.length with
    | none => exact ⟨rfl, .inr rfl⟩
    | some L0 => rw [hb] at h; exact absurd rfl h
theorem appR_lt {k : Nat} {L : List SegS} {b : List UInt8} : ∀ j, (appR k L b).1 = some j → j < 19 := by
  intro j hj
  rcases (appR_err (by rw [hj]; simp)).2 with h | h <;> (rw [hj] at h; cases h; omega)
theorem dropR_err {L : List SegS} {n : Int} (h : (dropR L n).1 ≠ none) : (dropR L n).2 = L ∧ ((dropR L n).1 = some 15 ∨ (dropR L n).1 = some 16) := by
  unfold dropR at h ⊢
  split at h
  · exact ⟨rfl, .inl rfl⟩
  · rename_i i hi
    by_cases hc : i + 1 = L.length
    · rw [if_pos hc]; exact ⟨rfl, .inr rfl⟩
    · rw [if_neg hc] at h; exact absurd rfl h
theorem dropR_lt {L : List SegS} {n : Int} : ∀ j, (dropR L n).1 = some j → j < 19 := by
  intro j hj
  rcases (dropR_err (by rw [hj]; simp)).2 with h | h <;> (rw [hj] at h; cases h; omega)
theorem AppPost.live {A : Nat → Addr} {w w' : World} {n0 r rd m : Nat} {u : StP} {q : DevP} {d : DevS} {L : List SegS} {b : List UInt8} {n : Int} {e' : Option Nat} (hp : AppPost A w n0 r rd u q d L m b n e' w') (h : Sys w n0 r rd u q d L m) (hst : d.stops = false) :
    e' = (appR (d.n / 64) L b).1 ∧ n = (appR (d.n / 64) L b).2.1 ∧ ∃ u' q' d', Sys w' n0 r rd u' q' d' (appR (d.n / 64) L b).2.2 (m + 1) ∧ d'.n = d.n ∧ d'.stops = false ∧ Foot (SysB r u rd q) (SysB r u' rd q') w w' := by
  obtain ⟨q', d', hD, hn, hs, hc⟩ := hp
  rcases hc with ⟨h1, rfl, rfl, rfl, rfl, hk⟩ | ⟨h1, rfl, rfl, u', hS, ft⟩ | ⟨_, _, h3, _⟩
  · have := (appR_err h1).1
    rw [this]
    exact ⟨rfl, rfl, u, q', d', (h.keep hk).up (by omega), rfl, hst, hk.foot (Foot.refl _ _)⟩
  · exact ⟨h1.symm, rfl, u', q', d', hS, hn, by rw [hs]; exact hst, ft⟩
  · rw [hst] at h3; cases h3
theorem DropPost.live {A : Nat → Addr} {w w' : World} {n0 r rd m : Nat} {u : StP} {q : DevP} {d : DevS} {L : List SegS} {n : Int} {e' : Option Nat} (hp : DropPost A w n0 r rd u q d L m n e' w') (h : Sys w n0 r rd u q d L m) (hst : d.stops = false) :
    e' = (dropR L n).1 ∧ ∃ u' q' d', Sys w' n0 r rd u' q' d' (dropR L n).2 m ∧ d'.n = d.n ∧ d'.stops = false ∧ Foot (SysB r u rd q) (SysB r u' rd q') w w' := by
  obtain ⟨q', d', hD, hn, hs, hc⟩ := hp
  rcases hc with ⟨h1, rfl, rfl, rfl, hk⟩ | ⟨h1, rfl, u', hS, ft⟩ | ⟨_, _, h3, _⟩
  · have := (dropR_err h1).1
    rw [this]
    exact ⟨rfl, u, q', d', h.keep hk, rfl, hst, hk.foot (Foot.refl _ _)⟩
  · exact ⟨h1.symm, u', q', d', hS, hn, by rw [hs]; exact hst, ft⟩
  · rw [hst] at h3; cases h3
theorem SysB_ge {w : World} {n0 r rd m : Nat} {u : StP} {q : DevP} {d : DevS} {L : List SegS} (h : Sys w n0 r rd u q d L m) : ∀ k, SysB r u rd q k → n0 ≤ k := fun k hk => hk.elim (h.B.sn k) (h.B.dn k)
/-- Append, of a device that is up. -/
theorem Append_live8 {w : World} {n0 r rd m : Nat} {u : StP} {q : DevP} {d : DevS} {L : List SegS} (A : Nat → Addr) (h : Sys w n0 r rd u q d L m) (hE : ErrsG segG A n0 w) (hm : m ≤ 2 ^ 60) (hst : d.stops = false) {s : Slc} {b : List UInt8}
    (hb : bytesAt w s b) (hsc : s.l ≤ s.c) (hbl : b.length ≤ 2 ^ 20) (hbs : 0 < s.l → ∀ k, ownB s k → ¬ SysB r u rd q k) :
    Calls Tryd.prog fn_segs_Store_Append ⟨[ptrR' r, s.v]⟩ w fun e w' => e = .returned (.tuple ⟨[.int .i64 (appR (d.n / 64) L b).2.1, errO A (appR (d.n / 64) L b).1]⟩) ∧
      ∃ u' q' d', Sys w' n0 r rd u' q' d' (appR (d.n / 64) L b).2.2 (m + 1) ∧ d'.n = d.n ∧ d'.stops = false ∧ Foot (SysB r u rd q) (SysB r u' rd q') w w' :=
  segs_Store_Append_ok _ _ (Append_gen8 h hE hm hb hsc hbl hbs (fun n e' w' hp => by
    obtain ⟨rfl, rfl, h3⟩ := hp.live h hst
    exact ⟨rfl, h3⟩))
theorem Drop_live8 {w : World} {n0 r rd m : Nat} {u : StP} {q : DevP} {d : DevS} {L : List SegS} (A : Nat → Addr) (h : Sys w n0 r rd u q d L m) (hE : ErrsG segG A n0 w) (hm : m ≤ 2 ^ 60) (hst : d.stops = false) (n : Int) :
    Calls Tryd.prog fn_segs_Store_Drop ⟨[ptrR' r, .int .i64 n]⟩ w fun e w' => e = .returned (errO A (dropR L n).1) ∧
      ∃ u' q' d', Sys w' n0 r rd u' q' d' (dropR L n).2 m ∧ d'.n = d.n ∧ d'.stops = false ∧ Foot (SysB r u rd q) (SysB r u' rd q') w w' := by
  refine (Drop_spec8 A h hE hm n).mono ?_
  rintro e w' ⟨e', rfl, hp⟩
  obtain ⟨rfl, h3⟩ := hp.live h hst
  exact ⟨rfl, h3⟩

/-- Where a filling stands. -/
def FSt (w w2 : World) (r rd N m : Nat) (L : List SegS) : Prop := ∃ u q d, Sys w2 w.heap.size r rd u q d L m ∧ d.n = 64 * N ∧ d.stops = false ∧ Keep w w2
theorem FSt.keep {w w2 w3 : World} {r rd N m : Nat} {L : List SegS} (h : FSt w w2 r rd N m L) (hk : Keep w2 w3) : FSt w w3 r rd N m L := by
  obtain ⟨u, q, d, h1, h2, h3, h4⟩ := h
  exact ⟨u, q, d, h1.keep hk, h2, h3, h4.trans hk⟩
/-- Noughts are appended. -/
theorem fill_app {w w2 : World} {A : Nat → Addr} {r rd N m sz : Nat} {L : List SegS} {T : TypeId} {R : Nat → Ending → World → Prop} (hE : Errs A w) (h : FSt w w2 r rd N m L) (hm : m ≤ 2 ^ 60) (hsz : sz ≤ 2 ^ 20)
    (hR : ∀ r4 w', FSt w w' r rd N (m + 1) (appR N L (List.replicate sz 0)).2.2 → R r4 (.returned (.tuple ⟨[.int .i64 (appR N L (List.replicate sz 0)).2.1, errO A (appR N L (List.replicate sz 0)).1]⟩)) w') :
    newS w2 (.cells ⟨repl sz [(Value.int .u8 (0 : Int))]⟩ T) fun r4 w4 => Calls Tryd.prog fn_segs_Store_Append ⟨[ptrR' r, Slc.v (⟨some ⟨r4, 0, none⟩, sz, sz⟩ : Slc)]⟩ w4 (R r4) := by
  obtain ⟨u, q, d, hS, hn, hst, hk⟩ := h
  refine newS_mk (fun r4 w4 hr hb k4 hs => ?_)
  have ho := Own.zeros hb
  have hG : ErrsG segG A w.heap.size w := ErrsG.sub (G := errG) (ErrsB.g hE.b) segG_sub
  have hdn : d.n / 64 = N := by omega
  refine (Append_live8 A (hS.keep k4) (hG.keep (hk.trans k4)) hm hst ho.bytes (Nat.le_refl _) (by simpa using hsz) (fun _ k hk' hh => ?_)).mono ?_
  · obtain ⟨a, ha, rfl⟩ := hk'
    cases ha
    have := hS.B.lt _ hh
    have : r4 < w2.heap.size := this
    omega
  · rintro e w' ⟨rfl, u', q', d', hS', hn', hst', ft⟩
    rw [hdn] at hS' ⊢
    exact hR r4 w' ⟨u', q', d', hS', by rw [hn', hn], hst', (hk.trans k4).ext ft.1 (SysB_ge (hS.keep k4))⟩
theorem fill_drop {w w2 : World} {A : Nat → Addr} {r rd N m : Nat} {L : List SegS} (hE : Errs A w) (h : FSt w w2 r rd N m L) (hm : m ≤ 2 ^ 60) (n : Int) :
    Calls Tryd.prog fn_segs_Store_Drop ⟨[ptrR' r, .int .i64 n]⟩ w2 fun e w' => e = .returned (errO A (dropR L n).1) ∧ FSt w w' r rd N m (dropR L n).2 := by
  obtain ⟨u, q, d, hS, hn, hst, hk⟩ := h
  have hG : ErrsG segG A w.heap.size w := ErrsG.sub (G := errG) (ErrsB.g hE.b) segG_sub
  refine (Drop_live8 A hS (hG.keep hk) hm hst n).mono ?_
  rintro e w' ⟨rfl, u', q', d', hS', hn', hst', ft⟩
  exact ⟨rfl, u', q', d', hS', by rw [hn', hn], hst', hk.ext ft.1 (SysB_ge hS)⟩

/-! ### the parameters -/
theorem wrapU_nn8 (n : Int) : 0 ≤ IntKind.wrap .u64 n := by
  simp [IntKind.wrap, IntKind.signed, IntKind.bits]; omega
theorem mod_wrap8 (n : Int) (c : Nat) (hc : 0 < c) (hc2 : c ≤ 2 ^ 20) : ∃ m : Nat, m < c ∧ IntKind.wrap .i64 ((IntKind.wrap .u64 n) % (c : Int)) = (m : Int) ∧ 0 ≤ IntKind.wrap .u64 n := by
  have hu : 0 ≤ IntKind.wrap .u64 n := wrapU_nn8 n
  generalize IntKind.wrap .u64 n = u at hu
  have h1 := Int.emod_nonneg u (show (c : Int) ≠ 0 by omega)
  have h2 := Int.emod_lt_of_pos u (show (0 : Int) < (c : Int) by omega)
  obtain ⟨m, hm⟩ : ∃ m : Nat, u % (c : Int) = m := ⟨(u % (c : Int)).toNat, by omega⟩
  refine ⟨m, by omega, ?_, hu⟩
  rw [hm]
  exact wrap_inR (inR64 (by omega))
end Go.D

set_option linter.unusedVariables false
set_option linter.unusedSimpArgs false
namespace Go.D
open Go Go.Proofs

theorem SameInts_spec (s t : Slc) (a b : List Int) (w : World) (ha : intsAt w s a) (hb : intsAt w t b) (hl : a.length ≤ 2 ^ 40) :
    Calls Tryd.prog fn_tidewaternum_SameInts ⟨[s.v, t.v]⟩ w fun e w' => e = .returned (.bool (decide (a = b))) ∧ Keep w w' := by
  have hsl := ha.1
  have htl := hb.1
  refine tidewaternum_SameInts_ok _ _ ?_
  unfold tidewaternum_SameInts
  refine BIf_ndec (fun h => ?_) (fun h => ?_)
  · rw [decide_eq_false (fun hh => h (by rw [hsl, htl, hh]))]
    exact ⟨rfl, Ext.refl _ _⟩
  · have hlen : a.length = b.length := by omega
    refine ⟨fun i w2 => ∃ k : Nat, i = k ∧ k ≤ a.length ∧ Keep w w2 ∧ ∀ j, j < k → a[j]? = b[j]?, fun i _ => ((a.length : Int) - i).toNat, ⟨0, rfl, by omega, Ext.refl _ _, fun j h => by omega⟩, ?_⟩
    rintro i w2 ⟨k, rfl, hk, hkp, hpre⟩
    intros
    refine BIf_dec (fun h1 => ?_) (fun h1 => ?_)
    · have hka : k < a.length := by omega
      have hkb : k < b.length := by omega
      obtain ⟨p, hp, hcp⟩ := intsAt_cell (intsAt_keep ha hkp.drew) hka
      obtain ⟨q, hq, hcq⟩ := intsAt_cell (intsAt_keep hb hkp.drew) hkb
      refine needSome_mk hp ⟨by omega, h1, a[k], by rw [show Int.toNat (k : Int) * 1 = k by omega]; exact hcp, needSome_mk hq ⟨by omega, by omega, b[k], by rw [show Int.toNat (k : Int) * 1 = k by omega]; exact hcq, ?_⟩⟩
      refine BIf_ndec (fun h2 => ?_) (fun h2 => ?_)
      · rw [decide_eq_false (fun hh => h2 (by subst hh; rfl))]
        exact ⟨rfl, hkp.drew⟩
      · refine ⟨inR64 (by omega), ⟨k + 1, rfl, by omega, hkp.drew, fun j hj => ?_⟩, by dsimp only; omega⟩
        rcases Nat.lt_or_ge j k with h | h
        · exact hpre j h
        · have : j = k := by omega
          subst this
          rw [List.getElem?_eq_getElem hka, List.getElem?_eq_getElem hkb, h2]
    · rw [decide_eq_true (List.ext_getElem? fun j => ?_)]
      · exact ⟨rfl, hkp⟩
      · rcases Nat.lt_or_ge j k with h | h
        · exact hpre j h
        · rw [List.getElem?_eq_none (by omega), List.getElem?_eq_none (by omega)]

end Go.D

set_option linter.unusedVariables false
set_option linter.unusedSimpArgs false
namespace Go.D
open Go Go.Proofs

section
variable {w w' : World} {r k : Nat} {sl sl' : Slc} {zs zs' : List Rz}
theorem RfAt.sub (h : RfAt w r k sl zs) (hsub : zs'.Sublist zs) (he : Ext (fun j => j = r) w w') (ho : ObjAt w' r [.int .i64 (k : Int), sl'.v]) (hs : Rows RzR w' sl' zs' (zs'.map rzC)) (hf : ∀ j, ownB sl' j → w.heap.size ≤ j) :
    RfAt w' r k sl' zs' ∧ RfTo r sl sl' zs zs' w w' := by
  have lt := h.lt
  have mem : ∀ z ∈ zs', z ∈ zs := fun z hz => hsub.subset hz
  refine ⟨⟨ho, hs, fun z hz => (h.b z (mem z hz)).ext he (fun j hj hh => (h.ds z (mem z hz) j hj).1 hh) (fun j hj hh => (h.bt z (mem z hz) j hj).1 hh), fun z hz => h.n z (mem z hz), h.sep.sublist hsub, fun hh => ?_, fun z hz j hj => ⟨(h.ds z (mem z hz) j hj).1, fun hh => ?_⟩, fun z hz j hj => ?_⟩, he.mono (fun j hj => .inl hj), ?_, ?_⟩
  · have := hf r hh; have := h.o.lt; omega
  · have := hf j hh; have := lt.1 j (.inr (.inr ⟨z, mem z hz, hj⟩)); omega
  · obtain ⟨v1, v2, v3⟩ := h.bt z (mem z hz) j hj
    exact ⟨v1, fun hh => by have := hf j hh; have := lt.2 j ⟨z, mem z hz, hj⟩; omega, fun y hy => v3 y (mem y hy)⟩
  · rintro j (hj | hj | ⟨z, hz, hj⟩)
    · exact .inl (.inl hj)
    · exact .inr (hf j hj)
    · exact .inl (.inr (.inr ⟨z, mem z hz, hj⟩))
  · rintro j ⟨z, hz, hj⟩
    exact .inl ⟨z, mem z hz, hj⟩
theorem rz_lens (l : List Rz) : ∀ cs ∈ l.map rzC, cs.length = 4 := by
  intro cs hc
  obtain ⟨z, _, rfl⟩ := List.mem_map.1 hc
  rfl
theorem rz_one (l : List Rz) : ∀ v ∈ (l.map rzC).flatten, v.oneCell' = true := by
  intro v hv
  obtain ⟨cs, hc, hv⟩ := List.mem_flatten.1 hv
  obtain ⟨z, _, rfl⟩ := List.mem_map.1 hc
  simp [rzC] at hv
  rcases hv with rfl | rfl | rfl | rfl <;> rfl
theorem refDrop_spec8 (h : RfAt w r k sl zs) (hz : zs.length ≤ 2 ^ 20) (n : Int) :
    Calls Tryd.prog fn_tidewaterref08_Store_Drop ⟨[ptrR' r, .int .i64 n]⟩ w fun e w' => e = .returned (.int .i64 (eN (dropR (gL zs) n).1)) ∧ ∃ sl' zs', gL zs' = (dropR (gL zs) n).2 ∧ RfAt w' r k sl' zs' ∧ RfTo r sl sl' zs zs' w w' := by
  refine tidewaterref08_Store_Drop_ok _ _ ?_
  unfold tidewaterref08_Store_Drop
  have hsl := h.s.sl
  have hcap := h.s.cap
  refine needSome_mk rfl ⟨_, h.c1, fun i w2 => ∃ m : Nat, i = m ∧ m ≤ zs.length ∧ Keep w w2 ∧ ∀ j (hj : j < zs.length), j < m → decide ((zs[j].g.num : Int) = n) = false, fun i _ => ((zs.length : Int) - i).toNat, ⟨0, rfl, by omega, Ext.refl _ _, fun j _ hj => by omega⟩, ?_⟩
  rintro i w8 ⟨m, rfl, hm, hkk, hno⟩
  intros
  have hgl : (gL zs).length = zs.length := by simp
  have hgj : ∀ j (hj : j < (gL zs).length), (gL zs)[j] = zs[j].g := fun j hj => List.getElem_map _
  refine BIf_dec (fun h0 => ?_) (fun h0 => ?_)
  · have hml : m < zs.length := by omega
    obtain ⟨a, ha, hrow⟩ := (h.keep hkk).at hml
    refine needSome_mk ha ⟨by omega, h0, _, _, _, _, by rw [Int.toNat_natCast]; exact hrow, var_mk (cs := rzC zs[m]) rfl rfl (fun r53 w55 hr o53 k53 hs => ?_)⟩
    have k55 := hkk.trans k53
    have h55 := h.keep k55
    refine ⟨_, o53.cell 1 (by simp [rzC]), BIf_ndec (fun h1 => ?_) (fun h1 => ?_)⟩
    · refine ⟨inR64 (by omega), ⟨m + 1, rfl, hml, k55, fun j hj hjm => ?_⟩, by dsimp only; omega⟩
      by_cases e : j = m
      · subst e; exact decide_eq_false h1
      · exact hno j hj (by omega)
    · have hseek : seekI (fun g => decide ((g.num : Int) = n)) (gL zs) = m := seekI_some (by omega) (by rw [hgj]; exact decide_eq_true h1) (fun j hj => by rw [hgj]; exact hno j (by omega) hj)
      have hdr := dropR_some hseek
      refine needSome_mk rfl ⟨_, h55.c1, inR64 (by omega), BIf_dec (fun h2 => ?_) (fun h2 => ?_)⟩
      · rw [if_pos (by omega)] at hdr
        rw [hdr]
        exact ⟨rfl, sl, zs, rfl, h55, RfTo.keep k55⟩
      · rw [if_neg (by omega)] at hdr
        rw [hdr]
        have kd : Keep w55 (World.drew w55) := Ext.drew _ _
        have hd := h55.keep kd
        refine needSome_mk rfl ⟨_, hd.c1, by omega, by omega, by omega, by omega, needSome_mk rfl ⟨_, hd.c1, inR64 (by omega), by omega, by omega, by omega, by omega, newS_mk (fun r65 w66 hr65 hb65 k65 hs65 => ?_)⟩⟩
        have h66 := hd.keep k65
        refine ⟨⟨_, h66.c1, rfl⟩, ⟨_, h66.c1, rfl⟩, ?_⟩
        rw [Int.toNat_natCast, show Int.toNat ((m : Int) + 1) = m + 1 by omega]
        have hlen4 := flatM_len (zs.map rzC) (rz_lens zs)
        rw [List.length_map] at hlen4
        obtain ⟨p1, p2⟩ := h66.s.own.part (lo := 0) (hi := m) (c := sl.c) (by omega) (by omega) (by omega)
        have e1 : (((zs.map rzC).flatten.take (m * 4)).drop (0 * 4)) = ((zs.take m).map rzC).flatten := by
          rw [flat_take _ (rz_lens zs), Nat.zero_mul, List.drop_zero, List.map_take]
        have p1' : cellsAt w66 (Slc.sub sl 4 0 m sl.c).p ((zs.take m).map rzC).flatten := by rw [← e1]; exact p1
        have p2' : (((zs.take m).map rzC).flatten).length = (Slc.sub sl 4 0 m sl.c).l * 4 := by rw [← e1]; exact p2
        refine appendS_own (Own.new (sz := 4) (n := 0) hb65 (.inl (by simp)) rfl) (by omega) rfl (srcAt_slc p1' p2') (rz_one _) (by simp only [Src.n, Slc.sub]; omega) (fun s69 w70 g1 g2 g3 g4 => ?_)
        rw [List.nil_append] at g1
        have own65 : ∀ j, ownB (⟨some ⟨r65, 0, none⟩, 0, 0⟩ : Slc) j → j = r65 := by rintro j ⟨a, ha, rfl⟩; cases ha; rfl
        have k70 : Keep (World.drew w55) w70 := k65.ext g2 (fun j hj => by rw [own65 j hj]; omega)
        have h70 := hd.keep k70
        have f69 : ∀ j, ownB s69 j → (World.drew w55).heap.size ≤ j := fun j hj => (g3 j hj).elim (fun h => by rw [own65 j h]; omega) (fun h => by have := k65.size; omega)
        refine ⟨⟨_, h70.c1, rfl⟩, ?_⟩
        obtain ⟨p3, p4⟩ := h70.s.own.part (lo := m + 1) (hi := sl.l) (c := sl.c) (by omega) (by omega) (by omega)
        have e2 : (((zs.map rzC).flatten.take (sl.l * 4)).drop ((m + 1) * 4)) = ((zs.drop (m + 1)).map rzC).flatten := by
          rw [List.take_of_length_le (by rw [hlen4]; show zs.length * 4 ≤ sl.l * 4; rw [hsl]; omega), flat_drop _ (rz_lens zs), List.map_drop]
        have p3' : cellsAt w70 (Slc.sub sl 4 (m + 1) sl.l sl.c).p ((zs.drop (m + 1)).map rzC).flatten := by rw [← e2]; exact p3
        have p4' : (((zs.drop (m + 1)).map rzC).flatten).length = (Slc.sub sl 4 (m + 1) sl.l sl.c).l * 4 := by rw [← e2]; exact p4
        have hs69 := g1.1
        have hl69 : s69.l = m := by
          rw [flatM_len _ (rz_lens (zs.take m)), List.length_map, List.length_take] at hs69
          omega
        refine appendS_own g1 (by omega) rfl (srcAt_slc p3' p4') (rz_one _) (by simp only [Src.n, Slc.sub]; omega) (fun s72 w73 q1 q2 q3 q4 => needSome_mk rfl ?_)
        have k73 : Keep (World.drew w55) w73 := k70.ext q2 (fun j hj => f69 j hj)
        have h73 := hd.keep k73
        have f72 : ∀ j, ownB s72 j → (World.drew w55).heap.size ≤ j := fun j hj => (q3 j hj).elim (fun h => f69 j h) (fun h => by have := k70.size; omega)
        have hdz : (World.drew w55).heap.size = w55.heap.size := rfl
        obtain ⟨c1, c2⟩ := h73.o.setOne 1 (by simp) s72.v
        rw [add_lit]
        refine ⟨c1, fun w75 hw75 => ?_⟩
        obtain ⟨o75, e75, _⟩ := c2 w75 hw75
        have hflat : ((zs.take m).map rzC).flatten ++ ((zs.drop (m + 1)).map rzC).flatten = ((zs.eraseIdx m).map rzC).flatten := by
          rw [List.eraseIdx_eq_take_drop_succ, List.map_append, List.flatten_append]
        rw [hflat] at q1
        have hsub := List.eraseIdx_sublist zs m
        have r72 : ∀ j, ownB s72 j → j ≠ r := fun j hj e => by
          have := f72 j hj; have := hd.o.lt; omega
        have hrows : Rows RzR w73 s72 (zs.eraseIdx m) ((zs.eraseIdx m).map rzC) := by
          refine ⟨q1, by simp, fun i hi hi' => ?_, fun j hj hh => ?_⟩
          · rw [List.getElem_map]
            exact ⟨rfl, fun j hj => h73.lt.1 j (.inr (.inr ⟨_, hsub.subset (List.getElem_mem _), hj⟩))⟩
          · obtain ⟨cs, hc, hk'⟩ := hj
            obtain ⟨z, hzz, rfl⟩ := List.mem_map.1 hc
            have := hd.lt.1 j (.inr (.inr ⟨z, hsub.subset hzz, (foot_rz hk').2⟩))
            have := f72 j hh
            omega
        have x75 : Ext (fun j => j = r) (World.drew w55) w75 := Ext.trans k73 e75 (fun _ h => h.elim) (fun _ h => .inl h)
        obtain ⟨F, FT⟩ := RfAt.sub (zs' := zs.eraseIdx m) (sl' := s72) (w := World.drew w55) (w' := w75) hd hsub x75 o75 (rz_ext hrows e75 (fun j hj hh => r72 j hj hh)) f72
        refine ⟨rfl, s72, zs.eraseIdx m, ?_, F, (RfTo.keep (k55.trans kd)).trans FT⟩
        show (zs.eraseIdx m).map (·.g) = (zs.map (·.g)).eraseIdx m
        rw [map_erase]
  · have hseek : seekI (fun g => decide ((g.num : Int) = n)) (gL zs) = -1 := seekI_none (fun j hj => by rw [hgj]; exact hno j (by omega) (by omega))
    rw [dropR_none hseek]
    exact ⟨rfl, sl, zs, rfl, h.keep hkk, RfTo.keep hkk⟩
end

theorem SameLists_spec8 {w : World} {s t : Slc} {a b : List (List UInt8)} {ca cb : List (List Value)} (ha : Rows BytR w s a ca) (hb : Rows BytR w t b cb) (hl : a.length ≤ 2 ^ 40) :
    Calls Tryd.prog fn_tidewaternum_SameLists ⟨[s.v, t.v]⟩ w fun e w' => e = .returned (.bool (decide (a = b))) ∧ Keep w w' := by
  have hsl := ha.sl
  have htl := hb.sl
  refine tidewaternum_SameLists_ok _ _ ?_
  unfold tidewaternum_SameLists
  refine BIf_ndec (fun h => ⟨by rw [decide_eq_false (fun e => h (by rw [hsl, htl, e]))], Ext.refl _ _⟩) (fun h => ?_)
  have hlen : a.length = b.length := by omega
  refine ⟨fun i w2 => ∃ m : Nat, i = m ∧ m ≤ a.length ∧ Keep w w2 ∧ a.take m = b.take m, fun i _ => ((a.length : Int) - i).toNat, ⟨0, rfl, by omega, Ext.refl _ _, by simp⟩, ?_⟩
  rintro i w6 ⟨m, rfl, hm, hk, hab⟩
  intros
  refine BIf_dec (fun h0 => ?_) (fun h0 => ?_)
  · have hma : m < a.length := by omega
    have hmb : m < b.length := by omega
    have kd : Keep w6 (World.drew w6) := Ext.drew _ _
    obtain ⟨p, x, hp, hc, hx, _⟩ := byt_get (ha.keep (hk.trans kd)) hma
    obtain ⟨p', x', hp', hc', hx', _⟩ := byt_get (hb.keep (hk.trans kd)) hmb
    refine needSome_mk hp ⟨by omega, h0, _, by rw [Int.toNat_natCast]; exact hc, _, hx, needSome_mk hp' ⟨by omega, by omega, _, by rw [Int.toNat_natCast]; exact hc', _, hx', BIf_ndec (fun h1 => ?_) (fun h1 => ?_)⟩⟩
    · refine ⟨by rw [decide_eq_false (fun e => h1 (by subst e; rfl))], hk.trans kd⟩
    · refine ⟨inR64 (by omega), ⟨m + 1, rfl, hma, hk.trans kd, ?_⟩, by dsimp only; omega⟩
      rw [take_snoc' _ _ hma, take_snoc' _ _ hmb, hab, h1]
  · have hme : m = a.length := by omega
    subst hme
    rw [List.take_length, hlen, List.take_length] at hab
    exact ⟨by rw [decide_eq_true hab], hk⟩

def lenA (n : Int) : Nat := if n < 0 ∨ 3970 < n then 3970 else n.toNat
def recA (n : Int) (b : UInt8) : List UInt8 := List.replicate (lenA n) b
theorem lenA_le (n : Int) : lenA n ≤ 3970 := by unfold lenA; split <;> omega
theorem record_spec8a (n x : Int) (b : UInt8) (p q : Bool) (w : World) :
    Calls Tryd.prog fn_tidewaterlaw08_Act_record ⟨[.agg ⟨[.int .i64 n, .int .i64 x, .int .u8 (b.toNat : Int), .bool p, .bool q]⟩]⟩ w fun e w' => ∃ t : Slc, e = .returned t.v ∧ Own w' t 1 ((recA n b).map byteV) ∧ Fresh w t ∧ Keep w w' := by
  refine tidewaterlaw08_Act_record_ok _ _ _ _ _ ?_
  unfold tidewaterlaw08_Act_record
  refine newS_mk (fun r6 w7 hr hb k7 hs => ?_)
  have o6 := ObjAt.new' hb
  have hle := lenA_le n
  refine ⟨_, o6.cell 0 (by simp), fun i w2 => i = (lenA n : Int) ∧ w2 = w7, BIf_dec (fun h => ⟨by unfold lenA; rw [if_pos (.inl h)]; rfl, rfl⟩) (fun h => BIf_dec (fun h1 => ⟨by unfold lenA; rw [if_pos (.inr h1)]; rfl, rfl⟩) (fun h1 => ⟨by unfold lenA; rw [if_neg (by omega)]; omega, rfl⟩)), ?_⟩
  rintro n10 w11 ⟨rfl, rfl⟩
  intros
  refine ⟨by omega, by omega, by omega, newS_mk (fun r18 w19 hr18 hb18 k18 hs18 => ?_)⟩
  rw [Int.toNat_natCast] at hb18 ⊢
  rw [repl_bytes] at hb18
  have o18 := ObjAt.new' hb18
  refine ⟨fun i w2 => ∃ j : Nat, i = j ∧ j ≤ lenA n ∧ ObjAt w2 r18 ((List.replicate j b ++ List.replicate (lenA n - j) 0).map byteV) ∧ ObjAt w2 r6 [.int .i64 n, .int .i64 x, .int .u8 (b.toNat : Int), .bool p, .bool q] ∧ Keep w w2, fun i _ => ((lenA n : Int) - i).toNat,
    ⟨0, rfl, by omega, by simpa using o18, o6.keep k18, k7.trans k18⟩, ?_⟩
  rintro i w23 ⟨j, rfl, hj, ho, ho6, hk⟩
  intros
  have hlen : ((List.replicate j b ++ List.replicate (lenA n - j) 0).map byteV).length = lenA n := by simp; omega
  refine BIf_dec (fun h => ?_) (fun h => ?_)
  · rw [Int.toNat_natCast, Nat.mul_one, add_lit, Nat.zero_add]
    obtain ⟨c1, c2⟩ := ho.setOne j (by omega) (.int .u8 (b.toNat : Int))
    refine ⟨_, ho6.cell 2 (by simp), by omega, by omega, c1, fun w34 hw => ?_⟩
    obtain ⟨g1, g2, g3⟩ := c2 w34 hw
    refine ⟨inR64 (by omega), ⟨j + 1, rfl, by omega, ?_, ho6.ext g2 (fun hh => by omega), hk.ext g2 (fun k hk => by have := k7.size; omega)⟩, by dsimp only; omega⟩
    rw [show Value.int .u8 (b.toNat : Int) = byteV b from rfl, ← List.map_set, replicate_set (by omega) _ _ (by simp)] at g1
    rw [List.replicate_succ']
    exact g1
  · have hje : j = lenA n := by omega
    subst hje
    rw [Nat.sub_self] at ho
    obtain ⟨T, f, g4, g5⟩ := ho
    refine ⟨_, rfl, Own.new (sz := 1) (n := lenA n) (by simpa [recA] using g4) (by simpa [recA] using g5) (by simp [recA]), Fresh.at (by have := k7.size; omega), hk⟩
end Go.D

set_option linter.unusedVariables false
set_option linter.unusedSimpArgs false
namespace Go.D
open Go Go.Proofs

def obsL (L : List SegS) : List (Int × List (List UInt8)) := L.map fun g => ((g.num : Int), g.recs)
def numsL (L : List SegS) : List Int := L.map fun g => (g.num : Int)
theorem recsOf_mem {L : List SegS} (h : L.Pairwise fun g h => g.num < h.num) {g : SegS} (hg : g ∈ L) : recsOf (g.num : Int) L = g.recs := by
  unfold recsOf
  rcases seek_cases (fun x => decide ((x.num : Int) = (g.num : Int))) L with ⟨_, h2, _⟩ | ⟨i, hi, _, h2, h3, _⟩
  · have := h2 g hg
    simp at this
  · rw [h3]
    obtain ⟨j, hj, rfl⟩ := List.getElem_of_mem hg
    have h4 : (L[i].num : Int) = (L[j].num : Int) := by simpa using h2
    have hp := List.pairwise_iff_getElem.1 h
    rcases Nat.lt_trichotomy i j with h5 | h5 | h5
    · have := hp i j hi hj h5; omega
    · subst h5; rfl
    · have := hp j i hj hi h5; omega
theorem recsOf_none {L : List SegS} {n : Int} (h : ∀ g ∈ L, (g.num : Int) ≠ n) : recsOf n L = [] := by
  unfold recsOf
  rw [List.find?_eq_none.2 (fun x hx => by simpa using h x hx)]
theorem obs_nums {L M : List SegS} (h : obsL L = obsL M) : numsL L = numsL M := by
  have := congrArg (List.map (·.1)) h
  unfold obsL at this
  rw [List.map_map, List.map_map] at this
  exact this
theorem obs_recs {L M : List SegS} (hL : L.Pairwise fun g h => g.num < h.num) (h : obsL L = obsL M) : ∀ g ∈ M, recsOf (g.num : Int) L = g.recs := by
  intro g hg
  have h1 : ((g.num : Int), g.recs) ∈ obsL L := by rw [h]; exact List.mem_map.2 ⟨g, hg, rfl⟩
  obtain ⟨g', hg', e⟩ := List.mem_map.1 h1
  simp only [Prod.mk.injEq] at e
  rw [← e.1, recsOf_mem hL hg', e.2]
theorem obs_of {L M : List SegS} (hL : L.Pairwise fun g h => g.num < h.num) (h1 : numsL L = numsL M) (h2 : ∀ g ∈ M, recsOf (g.num : Int) L = g.recs) : obsL L = obsL M := by
  have hlen : L.length = M.length := by have := congrArg List.length h1; simpa [numsL] using this
  apply List.ext_getElem
  · simp [obsL, hlen]
  · intro i hi hi'
    simp only [obsL, List.length_map] at hi hi'
    simp only [obsL, List.getElem_map]
    have e1 : (L[i].num : Int) = (M[i].num : Int) := by
      have h3 : (numsL L)[i]'(by simpa [numsL] using hi) = (numsL M)[i]'(by simpa [numsL] using hi') := by simp only [h1]
      simpa [numsL] using h3
    have e2 := h2 _ (List.getElem_mem hi')
    rw [← e1, recsOf_mem hL (List.getElem_mem hi)] at e2
    rw [e1, e2]
theorem lastN_nums {L M : List SegS} (h : numsL L = numsL M) : lastN L = lastN M := by
  have e : ∀ L : List SegS, lastN L = ((numsL L).getLast?).getD (-1) := fun L => by
    unfold lastN numsL
    rw [List.getLast?_map]
    cases L.getLast? <;> rfl
  rw [e, e, h]
theorem recs_small {S : Nat → List UInt8} {k : Nat} {L : List SegS} (h : ImgOk S k L) : ∀ g ∈ L, g.recs.length ≤ 64 ∧ (∀ b ∈ g.recs, b.length ≤ 4096) ∧ sumN g.recs ≤ 64 := by
  intro g hg
  have hon := h.on g hg
  have hf := hon.fin
  have h1 := sumN_ge g.recs
  unfold SegS.fin at hf
  exact ⟨by omega, fun b hb => (recsOn_bytes hon.2 b hb).2, by omega⟩

theorem same_spec8 {w : World} {n0 r rd m r2 k : Nat} {u : StP} {q : DevP} {d : DevS} {L : List SegS} {sl : Slc} {zs : List Rz} (hS : Sys w n0 r rd u q d L m) (hR : RfAt w r2 k sl zs) (hk : d.n / 64 = k) (hz : zs.length ≤ 1000) (hzn : ∀ z ∈ zs, z.g.num ≤ 2 ^ 59)
    (hLn : ∀ g ∈ L, g.num ≤ 2 ^ 59) :
    Calls Tryd.prog fn_tidewaterlaw08_same ⟨[ptrR' r, ptrR' r2]⟩ w fun e w' => e = .returned (.bool (decide (obsL L = obsL (gL zs)))) ∧ Keep w w' := by
  refine tidewaterlaw08_same_ok _ _ ?_
  unfold tidewaterlaw08_same
  have hsm := recs_small hS.I
  have hso := hS.I.so
  have hLl := hS.len
  have hk20 := hS.k
  have hRec : ∀ g ∈ L, g.recs.length ≤ 2 ^ 20 ∧ ∀ b ∈ g.recs, b.length ≤ 2 ^ 20 := fun g hg => ⟨by have := (hsm g hg).1; omega, fun b hb => by have := (hsm g hg).2.1 b hb; omega⟩
  have hsl := hR.s.sl
  have hgl : (gL zs).length = zs.length := by simp
  have hgj : ∀ j (hj : j < (gL zs).length), (gL zs)[j] = zs[j].g := fun j hj => List.getElem_map _
  refine newS_mk (fun r3 w4 hr3 hb3 k4 hs3 => needSome_mk rfl ⟨_, (hR.keep k4).c1, ?_⟩)
  refine ⟨fun s i w2 => ∃ n : Nat, i = n ∧ n ≤ zs.length ∧ IntsAt w2 s (numsL ((gL zs).take n)) ∧ Fresh w s ∧ Keep w w2 ∧ ∀ j (hj : j < zs.length), j < n → recsOf (zs[j].g.num : Int) L = zs[j].g.recs, fun _ i _ => ((zs.length : Int) - i).toNat,
    ⟨0, rfl, by omega, IntsAt.new hb3, Fresh.at (by omega), k4, fun j _ hj => by omega⟩, ?_⟩
  rintro s i w11 ⟨n, rfl, hn, hI, hf, hkk, hre⟩
  intros
  refine BIf_dec (fun h0 => ?_) (fun h0 => ?_)
  · have hnl : n < zs.length := by omega
    obtain ⟨a, ha, hrow⟩ := (hR.keep hkk).at hnl
    refine needSome_mk ha ⟨by omega, h0, _, _, _, _, by rw [Int.toNat_natCast]; exact hrow, var_mk (cs := rzC zs[n]) rfl rfl (fun r36 w38 hr36 o36 k38 hs38 => ⟨_, o36.cell 1 (by simp [rzC]), ?_⟩)⟩
    have htk : (gL zs).take (n + 1) = (gL zs).take n ++ [zs[n].g] := by rw [take_snoc' _ _ (by omega), hgj]
    refine IntsAt.push (x := (zs[n].g.num : Int)) (hI.keep k38) hf (hkk.trans k38) (by simp [numsL]; omega) (fun s' w43 g1 g2 g3 g4 g5 => ?_)
    have kd : Keep w43 (World.drew w43) := Ext.drew _ _
    have hk43 : Keep w (World.drew w43) := g3.trans kd
    have o43 : ObjAt w43 r36 (rzC zs[n]) := o36.ext g4 (fun hh => by
      obtain ⟨a9, ha9, hb9⟩ := hh
      have h1 := Rows.lt hI r36 ⟨a9, ha9, hb9⟩
      omega)
    have o43d := o43.keep kd
    refine ⟨_, o43d.cell 1 (by simp [rzC]), _, o43d.cell 3 (by simp [rzC]), (Records_spec8 (hS.keep hk43).B.S (zs[n].g.num : Int) (by omega) hRec).mono ?_⟩
    rintro e w47 ⟨t, css, rfl, ht, k47⟩
    have hk47 := hk43.trans k47
    refine ⟨t, rfl, ⟨_, (o43d.keep k47).cell 3 (by simp [rzC]), rfl⟩, ?_⟩
    have hrl : (recsOf (zs[n].g.num : Int) L).length ≤ 2 ^ 20 := by
      unfold recsOf
      split
      · rename_i g hg
        exact (hRec g (List.mem_of_find?_eq_some hg)).1
      · simp
    refine (SameLists_spec8 ht ((hR.keep hk47).b _ (List.getElem_mem hnl)) (by omega)).mono ?_
    rintro e w51 ⟨rfl, k51⟩
    refine ⟨_, rfl, BIf_mk (fun h1 => ?_) (fun h1 => ?_)⟩
    · have hne : ¬ recsOf (zs[n].g.num : Int) L = zs[n].g.recs := by simpa using h1
      refine ⟨by rw [decide_eq_false (fun e => hne (obs_recs hso e _ (List.mem_map.2 ⟨_, List.getElem_mem hnl, rfl⟩)))], hk47.trans k51⟩
    · have heq : recsOf (zs[n].g.num : Int) L = zs[n].g.recs := by simpa using h1
      refine ⟨inR64 (by omega), ⟨n + 1, rfl, hnl, ?_, g2, hk47.trans k51, fun j hj hjn => ?_⟩, by dsimp only; omega⟩
      · rw [htk]
        have : IntsAt w43 s' (numsL ((gL zs).take n ++ [zs[n].g])) := by unfold numsL; rw [List.map_append]; exact g1
        exact ((this.keep kd).keep k47).keep k51
      · by_cases e : j = n
        · subst e; exact heq
        · exact hre j hj (by omega)
  · have hne : n = zs.length := by omega
    subst hne
    have ht : (gL zs).take zs.length = gL zs := List.take_of_length_le (by omega)
    rw [ht] at hI
    have hal : ∀ g ∈ gL zs, recsOf (g.num : Int) L = g.recs := fun g hg => by
      obtain ⟨z, hzz, rfl⟩ := List.mem_map.1 hg
      obtain ⟨j, hj, rfl⟩ := List.getElem_of_mem hzz
      exact hre j hj hj
    have hnl : (numsL (gL zs)).length = zs.length := by simp [numsL]
    have hIl := Rows.sl hI
    refine ⟨fun x w2 => x = lastN (gL zs) ∧ w2 = w11, BIf_dec (fun h1 => ?_) (fun h1 => ?_), ?_⟩
    · obtain ⟨a, ha, hc⟩ := hI.get (i := zs.length - 1) (by omega)
      refine ⟨inR64 (by omega), needSome_mk ha ⟨by omega, by omega, _, by rw [show Int.toNat (((s.l : Nat) : Int) - 1) = zs.length - 1 by omega]; exact hc, ?_, rfl⟩⟩
      rw [lastN_get (by omega)]
      simp [numsL]
    · have : zs = [] := List.length_eq_zero_iff.1 (by omega)
      subst this
      exact ⟨rfl, rfl⟩
    · rintro last w57 ⟨rfl, rfl⟩
      intros
      have kd : Keep w57 (World.drew w57) := Ext.drew _ _
      have kA := hkk.trans kd
      refine (Segments_spec8 (hS.keep kA).B.S (by omega)).mono ?_
      rintro e w68 ⟨t, rfl, ht, _, k68⟩
      refine ⟨t, rfl, (SameInts_spec t s _ _ _ ht.ints ((hI.keep kd).keep k68).ints (by simp; omega)).mono ?_⟩
      rintro e w71 ⟨rfl, k71⟩
      have kB := (kA.trans k68).trans k71
      refine ⟨_, rfl, BIf_dec (fun h1 => ?_) (fun h1 => ⟨by rw [decide_eq_false (fun e => h1 (obs_nums e))], kB⟩)⟩
      have hob : obsL L = obsL (gL zs) := obs_of hso h1 hal
      rw [decide_eq_true hob]
      have hlast := lastN_nums (L := L) (M := gL zs) h1
      have hlen : L.length = zs.length := by have := congrArg List.length (show numsL L = numsL (gL zs) from h1); simpa [numsL] using this
      refine (Last_spec8 (hS.keep kB).B.S (by omega)).mono ?_
      rintro e w74 ⟨rfl, k74⟩
      have kC := kB.trans k74
      refine ⟨_, rfl, BIf_dec (fun _ => ?_) (fun h2 => absurd hlast h2)⟩
      have hR74 := hR.keep kC
      have hnn : d.n = d.img.length / 64 := rfl
      refine needSome_mk rfl ⟨_, hR74.c0, needSome_mk rfl ⟨_, hR74.c1, inR64 (by omega), (Free_spec8 (hS.keep kC).B.S (hS.keep kC).B.D (by omega)).mono ?_⟩⟩
      rintro e w81 ⟨rfl, k81⟩
      have kE := kC.trans k81
      have hl59 : lastN (gL zs) ≤ 2 ^ 59 := by
        rw [← hlast]
        by_cases e0 : L.length = 0
        · have : L = [] := List.length_eq_zero_iff.1 e0
          subst this
          show (-1 : Int) ≤ _; omega
        · rw [lastN_get (by omega)]
          have := hLn _ (List.getElem_mem (show L.length - 1 < L.length by omega)); omega
      have hge := lastN_ge (gL zs)
      refine ⟨_, rfl, ⟨_, (hR74.keep k81).c1, rfl⟩, ⟨_, (hR74.keep k81).c0, rfl⟩, BIf_dec (fun _ => ⟨inR64 (by omega), (Records_spec8 (hS.keep kE).B.S _ (by omega) hRec).mono ?_⟩) (fun h3 => absurd (by omega) h3)⟩
      rintro e w86 ⟨t2, css, rfl, ht2, k86⟩
      have hnone : recsOf (lastN (gL zs) + 1) L = [] := recsOf_none (fun g hg => by
        have h4 := num_le_last hso g hg
        have h5 := nextN_int L
        rw [hlast] at h5
        omega)
      rw [hnone] at ht2
      have hl0 := ht2.sl
      refine ⟨t2, rfl, ?_, kE.trans k86⟩
      rw [decide_eq_true (by rw [hl0]; rfl)]
end Go.D

set_option linter.unusedVariables false
set_option linter.unusedSimpArgs false
namespace Go.D
open Go Go.Proofs

/-! ### a store, its device, and the document's store -/
structure Lw (w0 w : World) (rd r r2 k m : Nat) (u : StP) (q : DevP) (d : DevS) (sl : Slc) (zs : List Rz) (L : List SegS) : Prop where
  S : Sys w w0.heap.size r rd u q d L m
  R : RfAt w r2 k sl zs
  k : d.n / 64 = k
  st : d.stops = false
  kp : Keep w0 w
  wn : ∀ j, RfW r2 sl zs j → w0.heap.size ≤ j
  ws : ∀ j, RfW r2 sl zs j → ¬ SysB r u rd q j
  ys : ∀ j, RfY zs j → ¬ SysB r u rd q j
section
variable {w0 w w' : World} {rd r r2 r' k m m' : Nat} {u u' : StP} {q q' : DevP} {d d' : DevS} {sl sl' : Slc} {zs zs' : List Rz} {L L' : List SegS}
theorem Lw.keep (h : Lw w0 w rd r r2 k m u q d sl zs L) (hk : Keep w w') : Lw w0 w' rd r r2 k m u q d sl zs L := ⟨h.S.keep hk, h.R.keep hk, h.k, h.st, h.kp.trans hk, h.wn, h.ws, h.ys⟩
theorem Lw.sys (h : Lw w0 w rd r r2 k m u q d sl zs L) (hS : Sys w' w0.heap.size r' rd u' q' d' L' m') (hf : Foot (SysB r u rd q) (SysB r' u' rd q') w w') (hn : d'.n = d.n) (hs : d'.stops = false) : Lw w0 w' rd r' r2 k m' u' q' d' sl zs L' :=
  ⟨hS, h.R.ext hf.1 h.ws h.ys, by rw [hn]; exact h.k, hs, h.kp.ext hf.1 (SysB_ge h.S), h.wn, fun j hj hh => (hf.2 j hh).elim (h.ws j hj) (fun h2 => by have := h.R.lt.1 j hj; omega), fun j hj hh => (hf.2 j hh).elim (h.ys j hj) (fun h2 => by have := h.R.lt.2 j hj; omega)⟩
theorem Lw.rf (h : Lw w0 w rd r r2 k m u q d sl zs L) (hR : RfAt w' r2 k sl' zs') (hT : RfTo r2 sl sl' zs zs' w w') : Lw w0 w' rd r r2 k m u q d sl' zs' L :=
  ⟨h.S.ext hT.1 (fun j hj hh => h.ws j hh hj), hR, h.k, h.st, h.kp.ext hT.1 h.wn, fun j hj => (hT.2.1 j hj).elim (h.wn j) (fun h2 => Nat.le_trans h.kp.size h2), fun j hj hh => (hT.2.1 j hj).elim (fun h2 => h.ws j h2 hh) (fun h2 => by have := h.S.B.lt j hh; omega), fun j hj hh => (hT.2.2 j hj).elim (fun h2 => h.ys j h2 hh) (fun h2 => by have := h.S.B.lt j hh; omega)⟩
theorem Lw.ok (h : Lw w0 w rd r r2 k m u q d sl zs L) (hL : gL zs = L) (hm : m ≤ 2 ^ 59) : RfOk zs ∧ k < 20 ∧ zs.length < 20 := by
  have h1 := h.S.len
  have h2 := h.S.k
  have h3 : zs.length = L.length := by rw [← hL]; simp
  have h4 := h.k
  refine ⟨⟨by omega, fun z hz => ?_, fun z hz => ?_⟩, by omega, by omega⟩
  · have := h.S.N z.g (by rw [← hL]; exact List.mem_map.2 ⟨z, hz, rfl⟩); omega
  · have := (recs_small h.S.I z.g (by rw [← hL]; exact List.mem_map.2 ⟨z, hz, rfl⟩)).2.2; omega
theorem Lw.same (h : Lw w0 w rd r r2 k m u q d sl zs L) (hL : gL zs = L) (hm : m ≤ 2 ^ 59) : Calls Tryd.prog fn_tidewaterlaw08_same ⟨[ptrR' r, ptrR' r2]⟩ w fun e w' => e = .returned (.bool true) ∧ Keep w w' := by
  obtain ⟨ho, _, _⟩ := h.ok hL hm
  refine (same_spec8 h.S h.R h.k ho.l ho.n (fun g hg => by have := h.S.N g hg; omega)).mono ?_
  rintro e w' ⟨rfl, hk⟩
  exact ⟨by rw [decide_eq_true (by rw [hL])], hk⟩
end

theorem begin_spec8 (A : Nat → Addr) (n : Int) (w0 w : World) (hE : Errs A w0) (hk : Keep w0 w) :
    Calls Tryd.prog fn_tidewaterlaw08_begin ⟨[.int .i64 n]⟩ w fun e w' => ∃ rd r r2 k u q d, e = .returned (.tuple ⟨[ptrR' rd, ptrR' r, ptrR' r2]⟩) ∧ Lw w0 w' rd r r2 k 0 u q d ⟨none, 0, 0⟩ [] [] := by
  refine tidewaterlaw08_begin_ok _ ?_
  unfold tidewaterlaw08_begin
  obtain ⟨a, ha, hwa', hua⟩ := mod_wrap8 n 5 (by omega) (by omega)
  have hwa : IntKind.wrap .i64 ((IntKind.wrap .u64 n) % (5 : Int)) = (a : Int) := hwa'
  simp only [hwa]
  have hG : ErrsG segG A w0.heap.size w0 := ErrsG.sub (G := errG) (ErrsB.g hE.b) segG_sub
  refine ⟨hua, by omega, inR64 (by omega), inR64 (by omega), inR64 (by omega), (New_spec7 A _ w ((hG.keep hk).sub segG_dsk)).mono ?_⟩
  rintro e w3 ⟨k3, hc⟩
  rw [if_neg (by omega)] at hc
  obtain ⟨rd, q, rfl, hD, hDf⟩ := hc
  have hn : (newD (Int.toNat ((64 : Int) * ((1 : Int) + (a : Int)) + 5))).n = 64 * (a + 1) + 5 := by rw [newD_n]; omega
  refine ⟨_, _, rfl, trivial, BIf_mk (fun h => by cases h) (fun _ => ?_)⟩
  refine (open_sys8 A (hG.keep (hk.trans k3)) hD rfl (init_img _ _) (by rw [hn]; omega) (m := 0) (by simp) (by omega) (fun j hj => Nat.le_trans hk.size (hDf j hj)) (hk.trans k3).size).mono ?_
  rintro e w7 ⟨r, u, rfl, hS, hSf, k7⟩
  refine ⟨_, _, rfl, trivial, BIf_mk (fun h => by cases h) (fun _ => newS_mk (fun r10 w11 hr hb k11 hs => ?_))⟩
  have kk := (hk.trans k3).trans k7
  have hW : ∀ j, RfW r10 ⟨none, 0, 0⟩ [] j → j = r10 := by
    rintro j (hj | ⟨a, ha, _⟩ | ⟨z, hz, _⟩)
    · exact hj
    · cases ha
    · simp at hz
  have hY : ∀ j, ¬ RfY [] j := by rintro j ⟨z, hz, _⟩; simp at hz
  have e1 : (1 : Int) + (a : Int) = ((a + 1 : Nat) : Int) := by omega
  rw [e1] at hb
  refine ⟨rd, r, r10, a + 1, u, q, _, rfl, hS.keep k11, ⟨ObjAt.new' hb, Rows.nil _ _, by simp, by simp, List.Pairwise.nil, (by rintro ⟨a, ha, _⟩; cases ha), by simp, by simp⟩, by rw [hn]; omega, rfl, kk.trans k11, fun j hj => ?_, fun j hj hh => ?_, fun j hj => (hY j hj).elim⟩
  · rw [hW j hj]; have := kk.size; omega
  · rw [hW j hj] at hh; have := hS.B.lt _ hh; omega

/-- The acts. -/
abbrev Act08 := Int × Int × Int × Bool × Bool
abbrev rdAct08 : Rd Act08 := Rd.pair (Rd.int .i64) (Rd.pair (Rd.int .i64) (Rd.pair (Rd.int .u8) (Rd.pair Rd.bool Rd.bool)))
def actC08 (a : Act08) : List Value := [.int .i64 a.1, .int .i64 a.2.1, .int .u8 a.2.2.1, .bool a.2.2.2.1, .bool a.2.2.2.2]
def ActsAt08 (w : World) (s : Slc) (xs : List Act08) : Prop := s.l = xs.length ∧ ∀ i (h : i < xs.length), inR .u8 xs[i].2.2.1 ∧ ∃ a, s.p = some a ∧ rowAt w (a.add (i * 5)) 0 (actC08 xs[i])
theorem acts_of08 {w : World} {s : Slc} {xs : List Act08} (h : rowsR rdAct08 w s xs) : ActsAt08 w s xs := by
  obtain ⟨h1, h2, _, h3⟩ := h
  refine ⟨h1, fun i hi => ?_⟩
  obtain ⟨a, cs, ha, ⟨_, _, hcs, ⟨rfl, _⟩, ⟨_, _, rfl, ⟨rfl, _⟩, ⟨_, _, rfl, ⟨rfl, hu⟩, ⟨_, _, rfl, rfl, rfl⟩⟩⟩⟩, hrow⟩ := h3 i hi
  subst hcs
  exact ⟨hu, a, ha, hrow⟩
theorem u8_of {x : Int} (h : inR .u8 x) : ∃ b : UInt8, (b.toNat : Int) = x := by
  have h0 : 0 ≤ x := h.1
  have h1 : x ≤ 255 := h.2
  refine ⟨UInt8.ofNat x.toNat, ?_⟩
  rw [UInt8.toNat_ofNat']
  omega

section
variable {w0 w : World} {rd r r2 k m : Nat} {u : StP} {q : DevP} {d : DevS} {sl : Slc} {zs : List Rz} {L : List SegS}
/-- An act, of both stores. -/
theorem do_spec8 (A : Nat → Addr) (h : Lw w0 w rd r r2 k m u q d sl zs L) (hL : gL zs = L) (hE : Errs A w0) (hm : m ≤ 2 ^ 58) (a1 a2 : Int) (b : UInt8) (dr op : Bool) :
    Calls Tryd.prog fn_tidewaterlaw08_do ⟨[ptrR' rd, ptrR' r, ptrR' r2, .agg ⟨[.int .i64 a1, .int .i64 a2, .int .u8 (b.toNat : Int), .bool dr, .bool op]⟩]⟩ w fun e w' => ∃ r' u' q' d' sl' zs' L', e = .returned (.tuple ⟨[ptrR' r', .bool true]⟩) ∧ Lw w0 w' rd r' r2 k (m + 1) u' q' d' sl' zs' L' ∧ gL zs' = L' := by
  refine tidewaterlaw08_do_ok _ _ _ _ _ _ _ _ ?_
  unfold tidewaterlaw08_do
  have hG : ErrsG segG A w0.heap.size w0 := ErrsG.sub (G := errG) (ErrsB.g hE.b) segG_sub
  refine newS_mk (fun r9 w10 hr9 hb9 k9 hs9 => ?_)
  have o9 := ObjAt.new' hb9
  have h10 := h.keep k9
  obtain ⟨hok, hk20, hz20⟩ := h.ok hL (by omega)
  refine ⟨_, o9.cell 4 (by simp), BIf_mk (fun h0 => ?_) (fun h0 => ?_)⟩
  · refine (open_sys8 A (hG.keep h10.kp) h10.S.B.D h10.S.p h10.S.I h10.S.k h10.S.N (by omega) h10.S.B.dn h10.S.B.z).mono ?_
    rintro e w13 ⟨r', u', rfl, hS', hSf, k13⟩
    refine ⟨_, _, rfl, trivial, BIf_mk (fun _ => ?_) (fun hh => by cases hh)⟩
    refine ⟨r', u', q, d, sl, zs, L, rfl, h10.sys (hS'.up (by omega)) ⟨k13.mono (fun _ h => h.elim), fun j hj => hj.elim (fun h1 => .inr (hSf j h1)) (fun h1 => .inl (.inr h1))⟩ rfl h10.st, hL⟩
  · have nr9 : ∀ {w2 : World}, Ext (SysB r u rd q) (World.drew w10) w2 → ObjAt w2 r9 [.int .i64 a1, .int .i64 a2, .int .u8 (b.toNat : Int), .bool dr, .bool op] := fun he => (o9.keep (Ext.drew _ _)).ext he (fun hh => by have := h.S.B.lt _ hh; omega)
    refine ⟨_, o9.cell 3 (by simp), BIf_mk (fun h1 => ?_) (fun h1 => ?_)⟩
    · have kd : Keep w10 (World.drew w10) := Ext.drew _ _
      have hd := h10.keep kd
      refine ⟨_, o9.cell 1 (by simp), _, o9.cell 1 (by simp), (Drop_live8 A hd.S (hG.keep hd.kp) (by omega) hd.st a2).mono ?_⟩
      rintro e w20 ⟨rfl, u', q', d', hS', hn', hs', ft⟩
      have h20 := hd.sys hS' ft hn' hs'
      have o20 := nr9 ft.1
      refine ⟨_, rfl, ⟨_, o20.cell 1 (by simp), rfl⟩, (numO_spec8 A _ dropR_lt _ (hE.keep h20.kp)).mono ?_⟩
      rintro e w24 ⟨rfl, k24⟩
      have h24 := h20.keep k24
      refine ⟨_, rfl, ⟨_, (o20.keep k24).cell 1 (by simp), rfl⟩, (refDrop_spec8 h24.R (by omega) a2).mono ?_⟩
      rintro e w28 ⟨rfl, sl', zs', hg', hR', hT'⟩
      rw [hL] at hg' ⊢
      refine ⟨_, rfl, r, u', q', d', sl', zs', (dropR L a2).2, ?_, ?_, hg'⟩
      · rw [decide_eq_true rfl]
      · have := h24.rf hR' hT'
        exact ⟨this.S.up (by omega), this.R, this.k, this.st, this.kp, this.wn, this.ws, this.ys⟩
    · refine ⟨_, _, _, _, _, o9.row, (record_spec8a a1 a2 b dr op w10).mono ?_⟩
      rintro e w36 ⟨t, rfl, ht, htf, k36⟩
      have h36 := h10.keep k36
      have hrl := lenA_le a1
      have hbl : (recA a1 b).length ≤ 2 ^ 20 := by simp [recA]; omega
      refine ⟨t, rfl, (Append_live8 A h36.S (hG.keep h36.kp) (by omega) h36.st ht.bytes (ht.le (by omega)) hbl (fun _ j hj hh => by have := htf j hj; have := h10.S.B.lt j hh; omega)).mono ?_⟩
      rintro e w39 ⟨rfl, u', q', d', hS', hn', hs', ft⟩
      rw [h36.k] at hS' ⊢
      have h39 := h36.sys hS' ft hn' hs'
      have o39 : ObjAt w39 r9 [.int .i64 a1, .int .i64 a2, .int .u8 (b.toNat : Int), .bool dr, .bool op] := (o9.keep k36).ext ft.1 (fun hh => by have := h.S.B.lt _ hh; omega)
      refine ⟨_, _, rfl, _, _, _, _, _, o39.row, (record_spec8a a1 a2 b dr op w39).mono ?_⟩
      rintro e w48 ⟨t2, rfl, ht2, htf2, k48⟩
      have h48 := h39.keep k48
      refine ⟨t2, rfl, (refAppend_spec8 h48.R hok (by omega) t2 (recA a1 b) ht2.bytes hbl (fun _ j hj hh => by have := htf2 j hj; have := h39.R.lt.1 j hh; omega)).mono ?_⟩
      rintro e w51 ⟨rfl, sl', zs', hg', hR', hT'⟩
      rw [hL] at hg' ⊢
      have h51 := h48.rf hR' hT'
      refine ⟨_, _, rfl, BIf_dec (fun _ => (numO_spec8 A _ appR_lt _ (hE.keep h51.kp)).mono ?_) (fun hh => absurd rfl hh)⟩
      rintro e w55 ⟨rfl, k55⟩
      refine ⟨_, rfl, r, u', q', d', sl', zs', _, ?_, h51.keep k55, hg'⟩
      rw [decide_eq_true rfl]
end

theorem SegsPlays_walk (A : Nat → Addr) (n : Int) (sl0 : Slc) (l : List Act08) (w : World) (hl : ActsAt08 w sl0 l) (hE : Errs A w) :
    Calls Tryd.prog fn_tidewaterlaw08_SegsPlays ⟨[.int .i64 n, sl0.v]⟩ w fun e w' => e = .returned (.bool true) ∧ Keep w w' := by
  refine tidewaterlaw08_SegsPlays_ok _ _ ?_
  unfold tidewaterlaw08_SegsPlays
  have hll := hl.1
  refine (alive_spec8 A w hE).mono ?_
  rintro e w4 ⟨rfl, k4⟩
  refine ⟨_, rfl, BIf_mk (fun h => by cases h) (fun _ => BIf_dec (fun h0 => ⟨rfl, k4⟩) (fun h0 => (begin_spec8 A n w w4 hE k4).mono ?_))⟩
  rintro e w7 ⟨rd, r, r2, k, u, q, d, rfl, h7⟩
  refine ⟨_, _, _, rfl, fun w2 => w2 = w7, BIf_mk (fun h => by cases h) (fun _ => BIf_mk (fun h => by cases h) (fun _ => rfl)), ?_⟩
  rintro w12 rfl
  intros
  have hG : ErrsG segG A w.heap.size w := ErrsG.sub (G := errG) (ErrsB.g hE.b) segG_sub
  refine ⟨fun s i w2 => ∃ (t r : Nat) (u : StP) (q : DevP) (d : DevS) (sl : Slc) (zs : List Rz) (L : List SegS), i = t ∧ t ≤ l.length ∧ s = some ⟨r, 0, none⟩ ∧ Lw w w2 rd r r2 k t u q d sl zs L ∧ gL zs = L, fun _ i _ => ((l.length : Int) - i).toNat,
    ⟨0, r, u, q, d, _, _, _, rfl, by omega, rfl, h7, rfl⟩, ?_⟩
  rintro s i w24 ⟨t, r, u, q, d, sl, zs, L, rfl, ht, rfl, hW, hL⟩
  intros
  refine BIf_dec (fun h1 => ?_) (fun h1 => ?_)
  · have htl : t < l.length := by omega
    obtain ⟨hu, a, ha, hrow⟩ := hl.2 t htl
    obtain ⟨b, hbx⟩ := u8_of hu
    generalize hact : l[t] = act at hrow hbx
    obtain ⟨x1, x2, x3, x4, x5⟩ := act
    subst hbx
    refine needSome_mk ha ⟨by omega, h1, _, _, _, _, _, by rw [Int.toNat_natCast]; exact rowAt_keep hrow hW.kp, ?_⟩
    refine var_mk (cs := actC08 (x1, x2, (b.toNat : Int), x4, x5)) rfl rfl (fun r59 w61 hr o59 k61 hs => ⟨_, _, _, _, _, o59.row, (do_spec8 A (hW.keep k61) hL hE (by omega) x1 x2 b x4 x5).mono ?_⟩)
    rintro e w68 ⟨r', u', q', d', sl', zs', L', rfl, h68, hL'⟩
    refine ⟨_, _, rfl, BIf_mk (fun h => by cases h) (fun _ => (h68.same hL' (by omega)).mono ?_)⟩
    rintro e w72 ⟨rfl, k72⟩
    have h72 := h68.keep k72
    refine ⟨_, rfl, BIf_mk (fun h => by cases h) (fun _ => (Pending_spec h72.S.B.D).mono ?_)⟩
    rintro e w75 ⟨rfl, rfl⟩
    refine ⟨_, rfl, BIf_ndec (fun h => absurd (by rw [h72.S.p]; rfl) h) (fun _ => ⟨inR64 (by omega), ⟨t + 1, r', u', q', d', sl', zs', L', rfl, htl, rfl, h72, hL'⟩, by dsimp only; omega⟩)⟩
  · refine (open_sys8 A (hG.keep hW.kp) hW.S.B.D hW.S.p hW.S.I hW.S.k hW.S.N (by omega) hW.S.B.dn hW.S.B.z).mono ?_
    rintro e w78 ⟨r', u', rfl, hS', hSf, k78⟩
    have h78 : Lw w w78 rd r' r2 k t u' q d sl zs L := hW.sys hS' ⟨k78.mono (fun _ h => h.elim), fun j hj => hj.elim (fun h1 => .inr (hSf j h1)) (fun h1 => .inl (.inr h1))⟩ rfl hW.st
    refine ⟨_, _, rfl, trivial, BIf_mk (fun _ => (h78.same hL (by omega)).mono ?_) (fun hh => by cases hh)⟩
    rintro e w82 ⟨rfl, k82⟩
    exact ⟨_, rfl, rfl, h78.kp.trans k82⟩
theorem SegsPlays_fin (n : Int) (sl0 : Slc) (l : List Act08) (w : World) (hl : rowsR rdAct08 w sl0 l) (A : Nat → Addr) (hE : Errs A w) :
    Calls Tryd.prog fn_tidewaterlaw08_SegsPlays ⟨[.int .i64 n, sl0.v]⟩ w fun e w' => e = .returned (.bool true) ∧ Keep w w' := SegsPlays_walk A n sl0 l w (acts_of08 hl) hE
end Go.D

set_option linter.unusedVariables false
set_option linter.unusedSimpArgs false
namespace Go.D
open Go Go.Proofs

theorem RfAt.push {E T : TypeId} {w : World} {r k c : Nat} {sl : Slc} {zs : List Rz} {z : Rz} {f : Nat × Nat} {K : Slc → World → Prop} (h : RfAt w r k sl zs) (hz : Rows BytR w z.s z.g.recs z.c) (hn : z.n = (sumN z.g.recs : Int)) (hs : ∀ j, ownB z.s j → ¬ RfW r sl zs j ∧ ¬ RfY zs j)
    (hc : ∀ j, footC z.c j → ¬ RfW r sl zs j) (hb : w.heap[c]? = some (.cells ⟨rzC z⟩ T f)) (hcf : clear f 4) (hl : zs.length < 2 ^ 20)
    (hK : ∀ s' w', (canW w' (⟨r, 1, none⟩ : Addr) 1 ∧ ∀ w2 : World, w2 = w'.setCell (⟨r, 1, none⟩ : Addr) s'.v → RfAt w2 r k s' (zs ++ [z]) ∧ Ext (RfW r sl zs) w w2 ∧ ∀ j, RfW r s' (zs ++ [z]) j → RfW r sl zs j ∨ ownB z.s j ∨ w.heap.size ≤ j) → K s' w') :
    appendS 4 E [.int .i64 0, .int .i64 0, .int .i64 0, (⟨none, 0, 0⟩ : Slc).v] w sl (.slc ⟨some ⟨c, 0, none⟩, 1, 1⟩) K := by
  refine h.s.snoc (cs := rzC z) (x := z) rfl ⟨rfl, fun j hj => hz.lt j hj⟩ (fun j hj hh => (hs j (foot_rz hj).2).1 (.inr (.inl hh))) hb hcf (by omega) (fun s' w95 g1' g2' g3' => hK s' w95 ?_)
  have o95 := h.o.ext g2' h.nr
  have hs' : ¬ ownB s' r := fun hh => by
    rcases g3' r hh with h5 | h5
    · exact h.nr h5
    · have := h.o.lt; omega
  obtain ⟨c1, c2⟩ := o95.setOne 1 (by simp) s'.v
  refine ⟨c1, fun w97 hw97 => ?_⟩
  obtain ⟨o97, e97, _⟩ := c2 w97 hw97
  have hmap : zs.map rzC ++ [rzC z] = (zs ++ [z]).map rzC := by simp
  rw [hmap] at g1'
  have lt := h.lt
  have ltz := hz.lt
  have lty := hz.flt
  have old : ∀ j, j < w.heap.size → ¬ ownB sl j → ¬ ownB s' j := fun j h1 h2 hh => (g3' j hh).elim h2 (fun h3 => by omega)
  have dsz : ∀ j, ownB z.s j → j ≠ r ∧ ¬ ownB s' j := fun j hj => ⟨fun e => (hs j hj).1 (.inl e), old j (ltz j hj) (fun hh => (hs j hj).1 (.inr (.inl hh)))⟩
  have dsy : ∀ x ∈ zs, ∀ j, ownB x.s j → j ≠ r ∧ ¬ ownB s' j := fun x hx j hj => ⟨(h.ds x hx j hj).1, old j (lt.1 j (.inr (.inr ⟨x, hx, hj⟩))) (h.ds x hx j hj).2⟩
  refine ⟨⟨o97, rz_ext g1' e97 (fun j hj hh => hs' (by rw [← show j = r from hh]; exact hj)), fun x hx => ?_, fun x hx => ?_, ?_, hs', fun x hx j hj => ?_, fun x hx j hj => ?_⟩, (g2'.mono (fun j hj => .inr (.inl hj))).trans e97 (fun _ h => h) (fun j hj => .inl (.inl hj)), ?_⟩
  · rcases List.mem_append.1 hx with hx | hx
    · exact ((h.b x hx).ext g2' (fun j hj hh => (h.ds x hx j hj).2 hh) (fun j hj hh => (h.bt x hx j hj).2.1 hh)).ext e97 (fun j hj hh => (h.ds x hx j hj).1 hh) (fun j hj hh => (h.bt x hx j hj).1 hh)
    · rw [List.mem_singleton] at hx; subst hx
      exact (hz.ext g2' (fun j hj hh => (hs j hj).1 (.inr (.inl hh))) (fun j hj hh => hc j hj (.inr (.inl hh)))).ext e97 (fun j hj hh => (dsz j hj).1 hh) (fun j hj hh => hc j hj (.inl hh))
  · rcases List.mem_append.1 hx with hx | hx
    · exact h.n x hx
    · rw [List.mem_singleton] at hx; subst hx; exact hn
  · refine List.pairwise_append.2 ⟨h.sep, List.pairwise_singleton _ _, fun y hy x hx j hj hh => ?_⟩
    rw [List.mem_singleton] at hx; subst hx
    exact (hs j hh).1 (.inr (.inr ⟨y, hy, hj⟩))
  · rcases List.mem_append.1 hx with hx | hx
    · exact dsy x hx j hj
    · rw [List.mem_singleton] at hx; subst hx; exact dsz j hj
  · rcases List.mem_append.1 hx with hx' | hx'
    · obtain ⟨v1, v2, v3⟩ := h.bt x hx' j hj
      refine ⟨v1, old j (lt.2 j ⟨x, hx', hj⟩) v2, fun y hy => ?_⟩
      rcases List.mem_append.1 hy with hy' | hy'
      · exact v3 y hy'
      · rw [List.mem_singleton] at hy'
        rw [hy']
        exact fun hh => (hs j hh).2 ⟨x, hx', hj⟩
    · rw [List.mem_singleton] at hx'
      rw [hx'] at hj
      refine ⟨fun e => hc j hj (.inl e), old j (lty j hj) (fun hh => hc j hj (.inr (.inl hh))), fun y hy => ?_⟩
      rcases List.mem_append.1 hy with hy' | hy'
      · exact fun hh => hc j hj (.inr (.inr ⟨y, hy', hh⟩))
      · rw [List.mem_singleton] at hy'
        rw [hy']
        exact hz.sep j hj
  · rintro j (hj | hj | ⟨y, hy, hj⟩)
    · exact .inl (.inl hj)
    · rcases g3' j hj with h5 | h5
      · exact .inl (.inr (.inl h5))
      · exact .inr (.inr h5)
    · rcases List.mem_append.1 hy with hy | hy
      · exact .inl (.inr (.inr ⟨y, hy, hj⟩))
      · rw [List.mem_singleton] at hy; subst hy; exact .inr (.inl hj)

theorem refCopy_spec8 {w : World} {r k : Nat} {sl : Slc} {zs : List Rz} (h : RfAt w r k sl zs) (hz : RfOk zs) :
    Calls Tryd.prog fn_tidewaterref08_Store_Copy ⟨[ptrR' r]⟩ w fun e w' => ∃ r' sl' zs', e = .returned (ptrR' r') ∧ RfAt w' r' k sl' zs' ∧ gL zs' = gL zs ∧ (∀ j, RfW r' sl' zs' j → w.heap.size ≤ j) ∧ (∀ j, RfY zs' j → RfY zs j) ∧ Keep w w' := by
  refine tidewaterref08_Store_Copy_ok _ ?_
  unfold tidewaterref08_Store_Copy
  have hsl := h.s.sl
  have hzl := hz.l
  refine needSome_mk rfl ⟨_, h.c0, newS_mk (fun r4 w5 hr4 hb4 k5 hs5 => needSome_mk rfl ⟨_, (h.keep k5).c1, ?_⟩)⟩
  have R0 : RfAt w5 r4 k ⟨none, 0, 0⟩ [] := ⟨ObjAt.new' hb4, Rows.nil _ _, by simp, by simp, List.Pairwise.nil, (by rintro ⟨a, ha, _⟩; cases ha), by simp, by simp⟩
  refine ⟨fun i w2 => ∃ (n : Nat) (sl' : Slc) (zs' : List Rz), i = n ∧ n ≤ zs.length ∧ RfAt w2 r4 k sl' zs' ∧ gL zs' = (gL zs).take n ∧ zs'.length = n ∧ (∀ j, RfW r4 sl' zs' j → w.heap.size ≤ j) ∧ (∀ j, RfY zs' j → RfY zs j) ∧ Keep w w2, fun i _ => ((zs.length : Int) - i).toNat,
    ⟨0, _, [], rfl, by omega, R0, by simp, rfl, ?_, by rintro j ⟨z, hzz, _⟩; simp at hzz, k5⟩, ?_⟩
  · rintro j (hj | ⟨a, ha, _⟩ | ⟨z, hzz, _⟩)
    · omega
    · cases ha
    · simp at hzz
  rintro i w11 ⟨n, sl', zs', rfl, hn, hR, hg, hzl', hW, hY, hk⟩
  intros
  refine BIf_dec (fun h0 => ?_) (fun h0 => ?_)
  · have hnl : n < zs.length := by omega
    have hw := h.keep hk
    obtain ⟨a, ha, hrow⟩ := hw.at hnl
    have hzm : zs[n] ∈ zs := List.getElem_mem hnl
    refine needSome_mk ha ⟨by omega, h0, _, _, _, _, by rw [Int.toNat_natCast]; exact hrow, var_mk (cs := rzC zs[n]) rfl rfl (fun r37 w39 hr37 o37 k39 hs39 => newS_mk (fun r40 w41 hr40 hb40 k41 hs41 => ⟨_, (o37.keep k41).cell 3 (by simp [rzC]), ?_⟩))⟩
    have k41' := (hk.trans k39).trans k41
    have h41 := h.keep k41'
    have hbz := h41.b _ hzm
    have hrl := sumN_ge zs[n].g.recs
    have hsn := hz.s _ hzm
    have hlt := h.lt
    have z39 := k39.size
    have zk := hk.size
    have n40 : ¬ footC zs[n].c r40 := fun hh => by have := hlt.2 r40 ⟨_, hzm, hh⟩; omega
    refine Rows.clone hbz rfl hb40 n40 (by omega) (fun s43 w44 g1 g2 g3 => ?_)
    have k44 : Keep w w44 := k41'.ext g2 (fun j hj => by omega)
    have k44' : Keep w39 w44 := k41.ext g2 (fun j hj => by omega)
    have o44 := o37.keep k44'
    obtain ⟨c1, c2⟩ := o44.setOne 3 (by simp [rzC]) s43.v
    refine ⟨c1, fun w45 hw45 => ?_⟩
    obtain ⟨o45, e45, z45⟩ := c2 w45 hw45
    have hrw : (rzC zs[n]).set 3 s43.v = rzC ⟨zs[n].g, zs[n].n, s43, zs[n].c⟩ := rfl
    rw [hrw] at o45
    have kd : Keep w45 (World.drew w45) := Ext.drew _ _
    have z41 := k41.size
    have s43f : ∀ j, ownB s43 j → w41.heap.size ≤ j ∨ j = r40 := fun j hj => (g3 j hj).elim .inr .inl
    have g44 := g1.ext e45 (fun j hj hh => by
      have : j = r37 := hh
      rcases s43f j hj with h5 | h5 <;> omega) (fun j hj hh => by
      have h5 : j = r37 := hh
      have := hlt.2 j ⟨_, hzm, hj⟩; omega)
    have hgd := g44.keep kd
    have k11 : Keep w11 (World.drew w45) := ((k39.trans k44').ext e45 (fun j hj => by rw [show j = r37 from hj]; omega)).trans kd
    have hRd := hR.keep k11
    have oR : ObjAt (World.drew w45) r4 [.int .i64 (k : Int), sl'.v] := hRd.o
    have o45d := o45.keep kd
    refine ⟨_, oR.cell 1 (by simp), _, _, _, _, o45d.row, newS_mk (fun r51 w52 hr51 hb51 k52 hs52 => ⟨⟨_, (oR.keep k52).cell 1 (by simp), rfl⟩, ?_⟩)⟩
    have hR52 := hRd.keep k52
    have ltR := hR.lt
    refine RfAt.push (z := ⟨zs[n].g, zs[n].n, s43, zs[n].c⟩) hR52 (hgd.keep k52) (h.n zs[n] hzm) (fun j hj => ⟨fun hh => ?_, fun hh => ?_⟩) (fun j hj hh => ?_) hb51 (.inl (by simp)) (by omega) (fun s' w55 hK => ?_)
    · have := ltR.1 j hh
      rcases s43f j hj with h5 | h5 <;> omega
    · have := ltR.2 j hh
      rcases s43f j hj with h5 | h5 <;> omega
    · have h5 := hW j hh
      have := hlt.2 j ⟨_, hzm, hj⟩; omega
    · obtain ⟨c3, c4⟩ := hK
      refine ⟨c3, fun w56 hw56 => ?_⟩
      obtain ⟨R56, e56, f56⟩ := c4 w56 hw56
      have z11 := k11.size
      have z52 := k52.size
      have kA : Keep w w56 := ((hk.trans k11).trans k52).ext e56 (fun j hj => hW j hj)
      refine ⟨inR64 (by omega), ⟨n + 1, s', _, rfl, hnl, R56, ?_, by simp [hzl'], fun j hj => ?_, fun j hj => ?_, kA⟩, by dsimp only; omega⟩
      · have htk := take_snoc' (gL zs) n (by simpa using hnl)
        rw [htk]
        have h9 : gL (zs' ++ [(⟨zs[n].g, zs[n].n, s43, zs[n].c⟩ : Rz)]) = gL zs' ++ [zs[n].g] := by simp
        rw [h9, hg]
        simp
      · rcases f56 j hj with h5 | h5 | h5
        · exact hW j h5
        · rcases s43f j h5 with h6 | h6 <;> omega
        · omega
      · obtain ⟨y, hy, hj⟩ := hj
        rcases List.mem_append.1 hy with hy | hy
        · exact hY j ⟨y, hy, hj⟩
        · rw [List.mem_singleton] at hy; subst hy
          exact ⟨_, hzm, hj⟩
  · have hne : n = zs.length := by omega
    refine ⟨r4, sl', zs', rfl, hR, ?_, hW, hY, hk⟩
    rw [hg, hne, List.take_of_length_le (by simp)]
theorem Stop_spec8 {w : World} {rd : Nat} {q : DevP} {d : DevS} (h : DevAt w rd q d) (n : Int) (hn : inR .i64 n) :
    Calls Tryd.prog fn_disk_Device_Stop ⟨[ptrR' rd, .int .i64 n]⟩ w fun e w' => e = .returned (.tuple #[]) ∧ DevAt w' rd q { d with stops := true, left := if 0 > n then 0 else n } ∧ Ext (fun k => k = rd) w w' := by
  refine disk_Device_Stop_ok _ _ ?_
  unfold disk_Device_Stop
  have hmax : n ≤ 9223372036854775807 := hn.2
  obtain ⟨c1, c2⟩ := h.o.setOne 2 (by simp) (.bool true)
  refine needSome_mk rfl ?_
  rw [add_lit]
  refine ⟨c1, fun w4 hw4 => needSome_mk rfl ?_⟩
  obtain ⟨o4, e4, _⟩ := c2 w4 hw4
  obtain ⟨c3, c4⟩ := o4.setOne 3 (by simp) (.int .i64 (if (0 : Int) > n then (0 : Int) else n))
  rw [add_lit]
  refine ⟨c3, fun w6 hw6 => ⟨rfl, ?_, ?_⟩⟩
  · obtain ⟨o6, e6, _⟩ := c4 w6 hw6
    exact ⟨o6, (h.i.ext e4 (fun k hk hh => h.di (hh ▸ hk))).ext e6 (fun k hk hh => h.di (hh ▸ hk)), (h.p.ext e4 (fun k hk hh => h.dp (hh ▸ hk)) (fun k hk hh => (h.df k hk).1 hh)).ext e6 (fun k hk hh => h.dp (hh ▸ hk)) (fun k hk hh => (h.df k hk).1 hh), h.di, h.dp, h.dd, h.df, ⟨h.ok.m, h.ok.l, h.ok.p, by dsimp only; split <;> omega⟩⟩
  · obtain ⟨o6, e6, _⟩ := c4 w6 hw6
    exact e4.trans e6 (fun _ h => h) (fun _ h => .inl h)
end Go.D

