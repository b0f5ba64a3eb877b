/-
  WHAT IS PROVED: contracts of functions, and the plain law, for this proof. No further conditions.
-/
import Derived.Test.YtjhhgmcigjgojaaDoorErrB
import Derived.Test.YtjhhgmcigjgojaaDoorCloneB
set_option linter.unusedVariables false
set_option linter.unusedSimpArgs false
namespace Go.D
open Go Go.Proofs

def markB : List UInt8 := [201, 202, 203, 204, 205, 206]

/-- A copy of b with marked room behind. -/
def Marked (w : World) (s : Slc) (b : List UInt8) : Prop :=
  ∃ s8 : Slc, s = ⟨s8.p, b.length, s8.c⟩ ∧ Own w s8 1 ((b ++ markB).map byteV)

theorem Own.cap {w : World} {s : Slc} {vs : List Value} (h : Own w s 1 vs) : s.l ≤ s.c := by
  obtain ⟨h1, ⟨_, h2, h3⟩ | ⟨b, pad, T, f, hp, hb, h2, h3⟩⟩ := h
  · subst h2; simp at h1; omega
  · simp at h1 h2; omega

theorem Marked.bytes {w : World} {s : Slc} {b : List UInt8} (h : Marked w s b) : bytesAt w s b := by
  obtain ⟨s8, rfl, h8⟩ := h
  have hb := h8.bytes
  refine ⟨rfl, ?_⟩
  rcases hb.2 with h0 | ⟨a, ha, hc⟩
  · simp [markB] at h0
  · refine .inr ⟨a, ha, fun i hi => ?_⟩
    have hi' : i < b.length := by simpa using hi
    rw [hc i (by simp; omega)]
    simp [List.getElem_append_left, hi']
theorem Marked.cap {w : World} {s : Slc} {b : List UInt8} (h : Marked w s b) : s.l ≤ s.c := by
  obtain ⟨s8, rfl, h8⟩ := h
  have := h8.cap
  have := h8.bytes.1
  simp [markB] at this
  show b.length ≤ s8.c
  omega
theorem Marked.keep {w w' : World} {s : Slc} {b : List UInt8} (h : Marked w s b) (k : Keep w w') : Marked w' s b := by
  obtain ⟨s8, h1, h8⟩ := h
  exact ⟨s8, h1, h8.keep k⟩

theorem Own.room {w : World} {r n : Nat} {cs : List Value} {T : TypeId} {f : Nat × Nat} (h : w.heap[r]? = some (.cells ⟨cs⟩ T f)) (hf : clear f cs.length) (hn : cs.length = n) : Own w ⟨some ⟨r, 0, none⟩, 0, n⟩ 1 [] :=
  ⟨by simp, .inr ⟨r, cs, T, f, rfl, by simpa using h, by simpa using hn, by simpa using hf⟩⟩

theorem Bytes_spec (s : Slc) (b : List UInt8) (w : World) (hb : bytesAt w s b) (hl : s.l ≤ 2 ^ 20) :
    Calls Tryd.prog fn_tidewaternum_Bytes ⟨[s.v]⟩ w fun e w' => ∃ t : Slc, e = .returned t.v ∧ Marked w' t b ∧ Fresh w t ∧ Keep w w' := by
  have hsl := hb.1
  refine tidewaternum_Bytes_ok _ ?_
  unfold tidewaternum_Bytes
  refine ⟨inR64 (by omega), by omega, by omega, by omega, newS_mk (fun r2 w3 hr2 hb2 hk2 hs2 => ?_)⟩
  refine append_bytes (vs := []) (w0 := w) (Own.room hb2 (.inl (by simp)) (by rw [repl_length]; simp)) rfl (Fresh.at (by omega)) hk2 (srcAt_bytes (bytesAt_keep hb hk2)) (by simp only [Src.n]; omega) (fun s4 w5 h1 h2 h3 h4 => ?_)
  refine newS_mk (fun r6 w7 hr6 hb6 hk6 hs6 => ?_)
  have hm : Own w7 ⟨some ⟨r6, 0, none⟩, 6, 6⟩ 1 (markB.map byteV) := Own.new (sz := 1) hb6 (.inl (by simp)) rfl
  have e1 := h1.1
  have l1 : s4.l = b.length := by simpa using e1
  refine append_bytes (w0 := w) (h1.keep hk6) rfl h3 (h2.trans hk6) (srcAt_bytes hm.bytes) (by simp only [Src.n]; omega) (fun s8 w9 h5 h6 h7 h8 => ?_)
  have hc := h5.cap
  have e2 := h5.1
  have l2 : s8.l = b.length + 6 := by simpa [markB] using e2
  have hsub : Slc.sub s8 1 0 s.l s8.c = ⟨s8.p, b.length, s8.c⟩ := by
    have hp : s8.p.map (·.add 0) = s8.p := by cases s8.p <;> simp [Addr.add]
    simp only [Slc.sub, Nat.zero_mul, Nat.sub_zero, hsl, hp, ite_self]
  refine ⟨by omega, by omega, by omega, by omega, _, rfl, ?_, ?_, h6⟩
  · rw [hsub]; exact ⟨s8, rfl, h5⟩
  · rw [hsub]
    rintro k ⟨a, ha, rfl⟩
    exact h7 _ ⟨a, ha, rfl⟩

theorem Kept_spec (s t : Slc) (b : List UInt8) (w : World) (hs : Marked w s b) (hb : bytesAt w t b) (hl : t.l ≤ 2 ^ 20) :
    Calls Tryd.prog fn_tidewaternum_Kept ⟨[s.v, t.v]⟩ w fun e w' => e = .returned (.bool true) ∧ Keep w w' := by
  have htl := hb.1
  have hsb := hs.bytes
  obtain ⟨s8, rfl, h8⟩ := hs
  have hb8 := h8.bytes
  have hc8 := h8.cap
  have l8 : s8.l = b.length + 6 := by simpa [markB] using hb8.1
  refine tidewaternum_Kept_ok _ _ ?_
  unfold tidewaternum_Kept
  have hp : s8.p.map (·.add 0) = s8.p := by cases s8.p <;> simp [Addr.add]
  have hsub : Slc.sub ⟨s8.p, b.length, s8.c⟩ 1 0 s8.c s8.c = ⟨s8.p, s8.c, s8.c⟩ := by
    simp only [Slc.sub, Nat.zero_mul, Nat.sub_zero, hp, ite_self]
  have hsub2 : Slc.sub ⟨s8.p, s8.c, s8.c⟩ 1 0 t.l s8.c = ⟨s8.p, b.length, s8.c⟩ := by
    simp only [Slc.sub, Nat.zero_mul, Nat.sub_zero, htl, hp, ite_self]
  rw [hsub]
  dsimp only
  refine ⟨by omega, by omega, by omega, by omega, fun w2 => Keep w w2, ⟨inR64 (by omega), BIf_dec (fun h => by omega) (fun h => ?_)⟩, ?_⟩
  · refine ⟨by omega, by omega, by omega, by omega, b, ?_, b, bytesAt_drew hb, BIf_ndec (fun h => absurd rfl h) (fun h => Ext.drew _ _)⟩
    rw [hsub2]; exact bytesAt_drew hsb
  · intro w2 hk
    intros
    refine ⟨fun i w3 => w3 = w2 ∧ ∃ n : Nat, i = n ∧ n ≤ 6, fun i _ => (6 - i).toNat, ⟨rfl, 0, rfl, by omega⟩, ?_⟩
    rintro i w3 ⟨rfl, n, rfl, hn⟩
    intros
    refine BIf_dec (fun h => ?_) (fun h => ⟨rfl, hk⟩)
    have hb8' := bytesAt_keep hb8 hk
    obtain ⟨a, ha, hcell⟩ := bytesAt_cell hb8' (i := b.length + n) (by simp [markB]; omega)
    refine ⟨inR64 (by omega), needSome_mk ha ⟨by omega, by omega, ((b ++ markB)[b.length + n]'(by simp [markB]; omega)).toNat, ?_, inR64 (by omega), ?_⟩⟩
    · have e : (Int.toNat ((t.l : Int) + (n : Int))) * 1 = b.length + n := by omega
      rw [e, hcell]; rfl
    · have hm : (((b ++ markB)[b.length + n]'(by simp [markB]; omega)).toNat : Int) = IntKind.wrap .u8 ((201 : Int) + (n : Int)) := by
        rw [List.getElem_append_right (by omega)]
        have hn6 : n < 6 := by omega
        have : ∀ n : Nat, ∀ (h : n < 6), ((markB[n]'(by simpa [markB] using h)).toNat : Int) = IntKind.wrap .u8 ((201 : Int) + (n : Int)) := by decide
        simp only [Nat.add_sub_cancel_left]
        exact this n hn6
      refine BIf_ndec (fun h1 => absurd hm h1) (fun h1 => ⟨inR64 (by omega), ⟨rfl, n + 1, rfl, by omega⟩, by dsimp only; omega⟩)
end Go.D
