/-
  WHAT IS PROVED: contracts of functions, and the plain law, for this proof. No further conditions.
-/
import Derived.Test.YtojcoegekkcojaaDoorPackOut
import Derived.Test.YtojcoegekkcojaaDoorCloneB
set_option linter.unusedVariables false
set_option linter.unusedSimpArgs false
namespace Go.D
open Go Go.Proofs

theorem Out_Text_spec (A : Nat → Addr) (r : Nat) (s : Slc) (bs : List UInt8) (ev : Value) (t : List UInt8) (w : World) (h : OutAt w r s bs ev) (hi : isI ev) (hl : bs.length ≤ 2 ^ 20) (ht : t.length ≤ 2 ^ 20)
    (hE : ErrIs tyErr w gl_ErrRange (A gl_ErrRange)) :
    Calls Tryd.prog fn_pack_Out_Text ⟨[.pointer (some ⟨r, 0, none⟩), strV t]⟩ w fun e w' => e = .returned (.tuple #[]) ∧
      ∃ s', OutAt w' r s' (bs ++ encN t.length ++ t) ev ∧ Foot (OutM r s) (OutM r s') w w' := by
  refine pack_Out_Text_ok _ _ ?_
  unfold pack_Out_Text
  refine (Out_Num_spec A r s bs ev t.length w h hi (by omega) hl hE).mono ?_
  rintro e w4 ⟨rfl, s4, h4, f4⟩
  rw [if_neg (by omega), if_neg (by omega)] at h4
  have hn : ((t.length : Nat) : Int).toNat = t.length := by omega
  rw [hn] at h4
  have hle := encN_len t.length 8 (by omega)
  have hsl : s4.l = bs.length + (encN t.length).length := by have := h4.2.1.1; simpa using this
  refine ⟨rfl, needSome_mk rfl ⟨s4, h4.c0, h4.append rfl ⟨rfl, rfl⟩ (by simp only [Src.n]; omega) (fun s7 w8 hc hh => needSome_mk rfl ⟨hc, ?_⟩)⟩⟩
  rintro w10 rfl
  obtain ⟨h5, h6⟩ := hh _ rfl
  exact ⟨rfl, s7, h5, f4.trans h6⟩

theorem Out_Done_spec (A : Nat → Addr) (r : Nat) (s : Slc) (bs : List UInt8) (ev : Value) (w : World) (h : OutAt w r s bs ev) (hi : isI ev) (hl : bs.length ≤ 2 ^ 22)
    (hE : ErrIs tyErr w gl_ErrLong (A gl_ErrLong)) :
    Calls Tryd.prog fn_pack_Out_Done ⟨[.pointer (some ⟨r, 0, none⟩)]⟩ w fun e w' => ∃ (t : Slc) (e2 : Value), e = .returned (.tuple ⟨[t.v, e2]⟩) ∧ Keep w w' ∧ Fresh w t ∧
      (if isNilI ev = false then t = ⟨none, 0, 0⟩ ∧ e2 = ev else if 65536 < bs.length then t = ⟨none, 0, 0⟩ ∧ e2 = errV A gl_ErrLong else e2 = .nilIface ∧ bytesAt w' t bs) := by
  refine pack_Out_Done_ok _ ?_
  unfold pack_Out_Done
  have hsl : s.l = bs.length := by have := h.2.1.1; simpa using this
  refine needSome_mk rfl ⟨_, by rw [add_lit]; exact h.c1, hi, BIf_mk (fun hn => ?_) (fun hn => ?_)⟩
  · have hn' : isNilI ev = false := by simpa using hn
    refine needSome_mk rfl ⟨ev, by rw [add_lit]; exact (h.keep (Ext.drew _ w)).c1, _, _, rfl, Ext.drew _ _, Fresh.nil _ _ _, ?_⟩
    rw [if_pos hn']; exact ⟨rfl, rfl⟩
  · have hn' : ¬ isNilI ev = false := by simpa using hn
    refine needSome_mk rfl ⟨s, h.c0, BIf_dec (fun h1 => ?_) (fun h1 => ?_)⟩
    · refine ⟨_, (hE.keep (Ext.drew _ w)).1, _, _, rfl, Ext.drew _ _, Fresh.nil _ _ _, ?_⟩
      rw [if_neg hn', if_pos (by omega)]; exact ⟨rfl, rfl⟩
    · refine needSome_mk rfl ⟨s, h.c0, ?_⟩
      refine (CloneB_own s bs w h.2.1.bytes (by omega)).mono ?_
      rintro e w' ⟨t, rfl, hb, hf, hk⟩
      refine ⟨t, rfl, t, _, rfl, hk, hf, ?_⟩
      rw [if_neg hn', if_neg (by omega)]; exact ⟨rfl, hb.bytes⟩
end Go.D
