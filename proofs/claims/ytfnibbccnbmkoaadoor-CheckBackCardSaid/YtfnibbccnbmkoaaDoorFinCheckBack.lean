/-
  WHAT IS PROVED: the parts of a checkpoint are found in any order. No further conditions.
-/
import Derived.Test.YtfnibbccnbmkoaaDoorCards
import Derived.Test.YtfnibbccnbmkoaaDoorTie
import Derived.WalkKit
import Derived.ProofKit
import Derived.OpenShut
import Derived.ShutString
import Derived.ChangeOld
import Derived.Below
import Derived.Deep.DeepHandedRow
import Derived.Lib.LaidTab
import Derived.SevenTiedAt
import Derived.Test.YtfnibbccnbmkoaaDoorArgs
import Derived.Test.YtfnibbccnbmkoaaDoorLaid
import Derived.Test.YtfnibbccnbmkoaaDoorRd
import Derived.Test.YtfnibbccnbmkoaaDoorAll1
set_option linter.unusedVariables false
set_option linter.unusedSimpArgs false
namespace Go.Proofs.YtfnibbccnbmkoaaDoor.checkBack
open Go.ChangeShapes Go.WideShapes Go.ChangeAt Go.RowKit
open Go.ChangeMaps (shut_string)
theorem own : ownKnob Tryd.prog.godebug = none := by kernel_rfl
theorem laidOut : laidOutB Tryd.prog = true := by kernel_rfl
theorem star : "*" ++ "errors.errorString" = "*errors.errorString" := by decide
theorem errRow (u : TypeId) (h : Tryd.prog.typeName? 3 u = some "*errors.errorString") : u = 130 :=
 typeName_ptr_named (nm := "errors.errorString") (by rw [star]; kernel_rfl) (by kernel_rfl) (by decide) u (by rw [star]; exact h)
/-- A world for the witness: each listed variable leads to an error of its text. -/
noncomputable def low : Nat := (World.holding Tryd.prog default ⟨#[], #[], []⟩).heap.size
noncomputable def laidWorld (os : Os) : World :=
 let w0 := World.holding Tryd.prog os ⟨#[.cells #[.string ⟨#[116, 105, 100, 101, 119, 97, 116, 101, 114, 58, 32, 114, 97, 110, 103, 101]⟩] 156, .cells #[.string ⟨#[116, 105, 100, 101, 119, 97, 116, 101, 114, 58, 32, 102, 117, 108, 108]⟩] 156], #[], []⟩
 { w0 with heap := D.kY 130 [0, 1] low w0.heap }
theorem laid_met (os : Os) : laidMet Tryd.prog Rows.checkBackRow.laid ((laidWorld os).forCall (fun _ _ => 0) ⟨#[], #[.slice none 0 0, .slice none 0 0, .slice none 0 0], []⟩).memory :=
 laidMet_of_run' 8 (by kernel_rfl) (by kernel_rfl)
theorem reads (os : Os) {H : Type} (enc : TypeId × Value -> H) : ∃ places, DataW.whole enc Tryd.prog ((laidWorld os).forCall (fun _ _ => 0) ⟨#[], #[.slice none 0 0, .slice none 0 0, .slice none 0 0], []⟩).memory Tryd.f4.params.toList Rows.checkBackSpec.vars false (#[.slice none 0 0, .slice none 0 0, .slice none 0 0] : Array Value).toList 8 = some ([.nil, .nil, .nil], [], places) :=
 ⟨[], by kernel_rfl⟩
/-- What the row's list gives. -/
theorem errs {W : World} (h : laidMetH Tryd.prog Rows.checkBackRow.laid W) : ∃ A, D.di 130 [0, 1] A W :=
 D.jD Tryd.underlying45 errRow Tryd.underlying130 Tryd.underlying156 rfl rfl Tryd.underlying9 (by kernel_rfl) (by kernel_rfl)
  [("tidewater/api.ErrRange", [116, 105, 100, 101, 119, 97, 116, 101, 114, 58, 32, 114, 97, 110, 103, 101]), ("tidewater/api.ErrFull", [116, 105, 100, 101, 119, 97, 116, 101, 114, 58, 32, 102, 117, 108, 108])] [0, 1] (by kernel_rfl) (List.forall_mem_cons.2 ⟨by kernel_rfl, (List.forall_mem_cons.2 ⟨by kernel_rfl, (fun _ h => by cases h)⟩)⟩) h
set_option maxRecDepth 100000 in
theorem contract (H : Type) (enc : TypeId × Value -> H) (W : World) (base : Nat) (args : Array Value) (ds gs : List (DataW H)) (before : List MemPlace)
  (hval : ∀ (j : Nat) t v, Tryd.f4.params[j]? = some t -> args[j]? = some v -> Value.okWide Tryd.prog W .any base t v)
  (hW : DataW.Whole enc Tryd.prog Tryd.f4.params.toList Rows.checkBackSpec.vars false W args.toList ds gs before) (hL : laidMetH Tryd.prog Rows.checkBackRow.laid W) :
  Calls Tryd.prog 4 args W fun e W' => ∃ v, e = .returned v /\ Rows.checkBackSpec.post enc Tryd.prog Tryd.f4 false true false false W args v W' := by
 have hW' := hW
 obtain ⟨p, q, hA0, hV, rfl, hfz, hnd⟩ := hW
 have hA : DataW.TrodAll enc Tryd.prog W 0 (fun _ => true) true Tryd.f4.params.toList args.toList ds p := hA0
 rw [Tryd.params4] at hA hval
 obtain ⟨v0, vs0, d0, ds0, p0, q0, hargs, rfl, rfl, h0, r0⟩ := trodAll_cons hA
 obtain ⟨v1, vs1, d1, ds1, p1, q1, rfl, rfl, rfl, h1, r1⟩ := trodAll_cons r0
 obtain ⟨v2, vs2, d2, ds2, p2, q2, rfl, rfl, rfl, h2, r2⟩ := trodAll_cons r1
 obtain ⟨rfl, rfl, rfl⟩ := trodAll_nil r2
 obtain rfl : args = #[v0, v1, v2] := by obtain ⟨l⟩ := args; exact congrArg Array.mk hargs
 obtain ⟨rfl, rfl⟩ := trodVars_none hV
 obtain ⟨A, hE⟩ := errs hL
 have k0 := h0
 have lt0 : ∀ x ∈ p0, x.block < W.heap.size := by obtain ⟨m, hm⟩ := k0; exact DataW.trod_lt m _ _ _ hm
 obtain ⟨x0, l0, c0, rfl⟩ := okWide_slice Tryd.underlying33 (hval 0 33 v0 rfl rfl)
 obtain ⟨s0, b0, hv0, w0, u0⟩ : ∃ (s : D.Slc) (b : List UInt8), Value.slice x0 l0 c0 = s.v /\ D.ag W s b /\ s.l <= s.c /\ s.c <= maxLen := by
  obtain ⟨fuel, hf⟩ := h0
  exact D.gG Tryd.underlying33 Tryd.underlying5 (by kernel_rfl) hf
 obtain rfl : s0 = ⟨x0, l0, c0⟩ := D.Slc.mA hv0.symm
 clear hv0
 have k1 := h1
 have lt1 : ∀ x ∈ p1, x.block < W.heap.size := by obtain ⟨m, hm⟩ := k1; exact DataW.trod_lt m _ _ _ hm
 obtain ⟨x1, l1, c1, rfl⟩ := okWide_slice Tryd.underlying42 (hval 1 42 v1 rfl rfl)
 obtain ⟨fu1, hf1⟩ := h1
 obtain ⟨⟨s1, b1⟩, hc1, w1⟩ := (D.Reads.ints Tryd.underlying42 Tryd.underlying3 (by kernel_rfl) (by kernel_rfl)).2 _ _ _ _ _ _ _ _ _ hf1
 have hv1 := (List.cons.inj hc1).1
 obtain rfl : s1 = ⟨x1, l1, c1⟩ := D.Slc.mA hv1.symm
 clear hv1
 have k2 := h2
 have lt2 : ∀ x ∈ p2, x.block < W.heap.size := by obtain ⟨m, hm⟩ := k2; exact DataW.trod_lt m _ _ _ hm
 obtain ⟨x2, l2, c2, rfl⟩ := okWide_slice Tryd.underlying43 (hval 2 43 v2 rfl rfl)
 obtain ⟨fu2, hf2⟩ := h2
 obtain ⟨⟨s2, b2⟩, hc2, w2⟩ := (D.Reads.slice Tryd.underlying43 (by kernel_rfl) (D.Reads.struct Tryd.underlying50 (by kernel_rfl) (D.aT.cons rfl (D.Reads.int Tryd.underlying3 (by kernel_rfl)) rfl (D.aT.cons rfl (D.Reads.int Tryd.underlying3 (by kernel_rfl)) rfl (D.aT.cons rfl (D.Reads.int Tryd.underlying3 (by kernel_rfl)) rfl (D.aT.cons rfl (D.Reads.int Tryd.underlying3 (by kernel_rfl)) rfl (D.aT.cons rfl (D.Reads.int Tryd.underlying3 (by kernel_rfl)) rfl (D.aT.cons rfl (D.Reads.int Tryd.underlying3 (by kernel_rfl)) rfl (D.aT.cons rfl (D.Reads.slice Tryd.underlying48 (by kernel_rfl) (D.Reads.struct Tryd.underlying59 (by kernel_rfl) (D.aT.cons rfl (D.Reads.int Tryd.underlying3 (by kernel_rfl)) rfl (D.aT.cons rfl (D.Reads.str Tryd.underlying9 (by kernel_rfl)) rfl (D.aT.cons rfl (D.Reads.str Tryd.underlying9 (by kernel_rfl)) rfl (D.aT.cons rfl (D.Reads.str Tryd.underlying9 (by kernel_rfl)) rfl (D.aT.one rfl (D.Reads.int Tryd.underlying3 (by kernel_rfl))))))))) rfl (D.aT.cons rfl (D.Reads.str Tryd.underlying9 (by kernel_rfl)) rfl (D.aT.cons rfl (D.Reads.int Tryd.underlying3 (by kernel_rfl)) rfl (D.aT.cons rfl (D.Reads.int Tryd.underlying3 (by kernel_rfl)) rfl (D.aT.cons rfl (D.Reads.int Tryd.underlying3 (by kernel_rfl)) rfl (D.aT.one rfl (D.Reads.bytes Tryd.underlying33 Tryd.underlying5 (by kernel_rfl) (by kernel_rfl)))))))))))))))).2 _ _ _ _ _ _ _ _ _ hf2
 have hv2 := (List.cons.inj hc2).1
 obtain rfl : s2 = ⟨x2, l2, c2⟩ := D.Slc.mA hv2.symm
 clear hv2
 clear hA0
 refine (D.gO ⟨x0, l0, c0⟩ b0 ⟨x1, l1, c1⟩ b1 ⟨x2, l2, c2⟩ b2 W w0 w1.1 w2 A (hE.sub (by decide))).mono fun e W' ⟨he, kp⟩ => ?_
 have bel := kp.below
 subst he
 exact ⟨_, rfl, _, _, _, [], _, [], hW', trodAll_mk1 (shut_bool Tryd.underlying4 _), (trodAll_cons_mk (Below.trod laidOut (by kernel_rfl) (of_decide_eq_true (by kernel_rfl)) k0 bel lt0) (trodAll_cons_mk (Below.trod laidOut (by kernel_rfl) (of_decide_eq_true (by kernel_rfl)) k1 bel lt1) (trodAll_cons_mk (Below.trod laidOut (by kernel_rfl) (of_decide_eq_true (by kernel_rfl)) k2 bel lt2) trodAll_mk0))), rfl, bel.frame _, fun h => by cases h⟩
set_option maxRecDepth 100000 in
theorem lifted (os : Os) (started : os.Started) (H : Type) (enc : TypeId × Value -> H) (F : Stop.Interp) :
  ReturnsInHanded {} Tryd.checked os 4 .any ((OpenSpec.ofChange Rows.checkBackSpec).preRow enc Tryd.prog Tryd.f4 Rows.checkBackRow.domain false Rows.checkBackRow.laid) (((OpenSpec.ofChange Rows.checkBackSpec).at F).post enc Tryd.prog Tryd.f4 false true false false) := by
 obtain ⟨places, hx⟩ := reads os enc
 refine returnsInHanded_of_row (C := Tryd.checked) (s := OpenSpec.ofChange Rows.checkBackSpec) own started (by kernel_rfl) Tryd.func4
  (witness_row_at (enc := enc) (C := Tryd.checked) false (laidWorld os) #[.slice none 0 0, .slice none 0 0, .slice none 0 0] rfl (by kernel_rfl) (by kernel_rfl) (by kernel_rfl)
   (OpenSpec.preRow_of_cond 8 hx (by kernel_rfl) (fun k hk => by cases hk) (by kernel_rfl) (laid_met os))) ?_
 intro W base args ds gs before hval hW _ _ _ hL _ _
 exact contract H enc W base args ds gs before hval hW hL
theorem said : Rows.CheckBackSaid :=
 OpenClaim.holds_of_cond 4 Tryd.f4 rfl rfl rfl rfl rfl rfl rfl ⟨rfl, rfl, rfl, rfl, rfl⟩ rfl rfl rfl rfl rfl (by kernel_rfl) Tryd.func4 (by kernel_rfl)
  (of_decide_eq_true (by kernel_rfl)) (by unfold Func.isWrapper; first | (rw [if_pos (by decide +kernel)]; kernel_rfl) | (rw [if_neg (by decide +kernel)]; exact ⟨rfl, rfl⟩))
  (fun os started H enc _ F => by rw [OpenClaim.pre_eq_preRow]; exact lifted os started H enc F)
theorem plain (f : FuncId) (fn : Func) (hf : Tryd.pinned.checked.prog.funcNamed "tidewater/tidewaterlaw24.CheckBack" = some f) (hfn : Tryd.pinned.checked.prog.funcs[f]? = some fn) :
  false = Tryd.pinned.checked.prog.looks [] /\ ∀ (j : Nat) t, fn.params[j]? = some t -> Tryd.pinned.checked.prog.wantsStandIn t = false := by
 obtain rfl : f = 4 := Option.some.inj ((show Tryd.prog.funcNamed "tidewater/tidewaterlaw24.CheckBack" = some 4 by kernel_rfl).symm.trans hf) |>.symm
 obtain rfl : fn = Tryd.f4 := (Option.some.inj (Tryd.func4.symm.trans hfn)).symm
 refine ⟨by kernel_rfl, fun j t ht => ?_⟩
 rw [Tryd.params4] at ht
 have hm := Array.mem_of_getElem? ht
 have ha : ∀ t ∈ ([33, 42, 43] : List Nat), Tryd.prog.wantsStandIn t = false := (List.forall_mem_cons.2 ⟨by kernel_rfl, (List.forall_mem_cons.2 ⟨by kernel_rfl, (List.forall_mem_cons.2 ⟨by kernel_rfl, (fun _ h => by cases h)⟩)⟩)⟩)
 exact ha t (by simpa using hm)
/-- THE CARD. -/
theorem card : Rows.CheckBackCardSaid :=
 Claim7.holds_tied_plain_at .later [] _ _ _ _ said (fun _ h => by cases h) (by kernel_rfl) (fun _ h => by cases h) checkBack_row_tie rfl ⟨rfl, rfl⟩ (by kernel_rfl) rfl plain (by kernel_rfl)
end Go.Proofs.YtfnibbccnbmkoaaDoor.checkBack

