/-
  WHAT IS PROVED: Find and Latest equal the reference for any pages. No further conditions.
-/
import Derived.Test.YtfnibbccnbmkoaaDoorCards
import Derived.Test.YtfnibbccnbmkoaaDoorTie
import Derived.WalkKit
import Derived.ProofKit
import Derived.OpenShut
import Derived.ShutString
import Derived.ChangeOld
import Derived.Below
import Derived.Deep.DeepHandedRow
import Derived.Lib.LaidTab
import Derived.SevenTiedAt
import Derived.Test.YtfnibbccnbmkoaaDoorArgs
import Derived.Test.YtfnibbccnbmkoaaDoorLaid
import Derived.Test.YtfnibbccnbmkoaaDoorRd
import Derived.Test.YtfnibbccnbmkoaaDoorAll2
set_option linter.unusedVariables false
set_option linter.unusedSimpArgs false
namespace Go.Proofs.YtfnibbccnbmkoaaDoor.checkFinds
open Go.ChangeShapes Go.WideShapes Go.ChangeAt Go.RowKit
open Go.ChangeMaps (shut_string)
theorem own : ownKnob Tryd.prog.godebug = none := by kernel_rfl
theorem laidOut : laidOutB Tryd.prog = true := by kernel_rfl
theorem star : "*" ++ "errors.errorString" = "*errors.errorString" := by decide
theorem errRow (u : TypeId) (h : Tryd.prog.typeName? 3 u = some "*errors.errorString") : u = 130 :=
 typeName_ptr_named (nm := "errors.errorString") (by rw [star]; kernel_rfl) (by kernel_rfl) (by decide) u (by rw [star]; exact h)
/-- A world for the witness: each listed variable leads to an error of its text. -/
noncomputable def low : Nat := (World.holding Tryd.prog default ⟨#[], #[], []⟩).heap.size
noncomputable def laidWorld (os : Os) : World :=
 let w0 := World.holding Tryd.prog os ⟨#[.cells #[.string ⟨#[116, 105, 100, 101, 119, 97, 116, 101, 114, 58, 32, 114, 97, 110, 103, 101]⟩] 156, .cells #[.string ⟨#[116, 105, 100, 101, 119, 97, 116, 101, 114, 58, 32, 102, 117, 108, 108]⟩] 156], #[], []⟩
 { w0 with heap := D.ov 130 [0, 1] low w0.heap }
theorem laid_met (os : Os) : laidMet Tryd.prog Rows.checkFindsRow.laid ((laidWorld os).forCall (fun _ _ => 0) ⟨#[], #[.slice none 0 0, .int .i64 0, .int .i64 0], []⟩).memory :=
 laidMet_of_run' 8 (by kernel_rfl) (by kernel_rfl)
theorem reads (os : Os) {H : Type} (enc : TypeId × Value -> H) : ∃ places, DataW.whole enc Tryd.prog ((laidWorld os).forCall (fun _ _ => 0) ⟨#[], #[.slice none 0 0, .int .i64 0, .int .i64 0], []⟩).memory Tryd.f3.params.toList Rows.checkFindsSpec.vars false (#[.slice none 0 0, .int .i64 0, .int .i64 0] : Array Value).toList 8 = some ([.nil, .lit (.int .i64 0), .lit (.int .i64 0)], [], places) :=
 ⟨[], by kernel_rfl⟩
/-- What the row's list gives. -/
theorem errs {W : World} (h : laidMetH Tryd.prog Rows.checkFindsRow.laid W) : ∃ A, D.eZ 130 [0, 1] A W :=
 D.mA Tryd.underlying45 errRow Tryd.underlying130 Tryd.underlying156 rfl rfl Tryd.underlying9 (by kernel_rfl) (by kernel_rfl)
  [("tidewater/api.ErrRange", [116, 105, 100, 101, 119, 97, 116, 101, 114, 58, 32, 114, 97, 110, 103, 101]), ("tidewater/api.ErrFull", [116, 105, 100, 101, 119, 97, 116, 101, 114, 58, 32, 102, 117, 108, 108])] [0, 1] (by kernel_rfl) (List.forall_mem_cons.2 ⟨by kernel_rfl, (List.forall_mem_cons.2 ⟨by kernel_rfl, (fun _ h => by cases h)⟩)⟩) h
set_option maxRecDepth 100000 in
theorem contract (H : Type) (enc : TypeId × Value -> H) (W : World) (base : Nat) (args : Array Value) (ds gs : List (DataW H)) (before : List MemPlace)
  (hval : ∀ (j : Nat) t v, Tryd.f3.params[j]? = some t -> args[j]? = some v -> Value.okWide Tryd.prog W .any base t v)
  (hW : DataW.Whole enc Tryd.prog Tryd.f3.params.toList Rows.checkFindsSpec.vars false W args.toList ds gs before) (hL : laidMetH Tryd.prog Rows.checkFindsRow.laid W) :
  Calls Tryd.prog 3 args W fun e W' => ∃ v, e = .returned v /\ Rows.checkFindsSpec.post enc Tryd.prog Tryd.f3 false true false false W args v W' := by
 have hW' := hW
 obtain ⟨p, q, hA0, hV, rfl, hfz, hnd⟩ := hW
 have hA : DataW.TrodAll enc Tryd.prog W 0 (fun _ => true) true Tryd.f3.params.toList args.toList ds p := hA0
 rw [Tryd.params3] at hA hval
 obtain ⟨v0, vs0, d0, ds0, p0, q0, hargs, rfl, rfl, h0, r0⟩ := trodAll_cons hA
 obtain ⟨v1, vs1, d1, ds1, p1, q1, rfl, rfl, rfl, h1, r1⟩ := trodAll_cons r0
 obtain ⟨v2, vs2, d2, ds2, p2, q2, rfl, rfl, rfl, h2, r2⟩ := trodAll_cons r1
 obtain ⟨rfl, rfl, rfl⟩ := trodAll_nil r2
 obtain rfl : args = #[v0, v1, v2] := by obtain ⟨l⟩ := args; exact congrArg Array.mk hargs
 obtain ⟨rfl, rfl⟩ := trodVars_none hV
 obtain ⟨A, hE⟩ := errs hL
 have k0 := h0
 have lt0 : ∀ x ∈ p0, x.block < W.heap.size := by obtain ⟨m, hm⟩ := k0; exact DataW.trod_lt m _ _ _ hm
 obtain ⟨x0, l0, c0, rfl⟩ := okWide_slice Tryd.underlying22 (hval 0 22 v0 rfl rfl)
 obtain ⟨fu0, hf0⟩ := h0
 obtain ⟨⟨s0, b0⟩, hc0, w0⟩ := (D.Reads.slice Tryd.underlying22 (by kernel_rfl) (D.Reads.struct Tryd.underlying57 (by kernel_rfl) (D.bx.cons rfl (D.Reads.int Tryd.underlying3 (by kernel_rfl)) rfl (D.bx.cons rfl (D.Reads.struct Tryd.underlying50 (by kernel_rfl) (D.bx.cons rfl (D.Reads.int Tryd.underlying3 (by kernel_rfl)) rfl (D.bx.cons rfl (D.Reads.int Tryd.underlying3 (by kernel_rfl)) rfl (D.bx.cons rfl (D.Reads.int Tryd.underlying3 (by kernel_rfl)) rfl (D.bx.cons rfl (D.Reads.int Tryd.underlying3 (by kernel_rfl)) rfl (D.bx.cons rfl (D.Reads.int Tryd.underlying3 (by kernel_rfl)) rfl (D.bx.cons rfl (D.Reads.int Tryd.underlying3 (by kernel_rfl)) rfl (D.bx.cons rfl (D.Reads.slice Tryd.underlying48 (by kernel_rfl) (D.Reads.struct Tryd.underlying59 (by kernel_rfl) (D.bx.cons rfl (D.Reads.int Tryd.underlying3 (by kernel_rfl)) rfl (D.bx.cons rfl (D.Reads.str Tryd.underlying9 (by kernel_rfl)) rfl (D.bx.cons rfl (D.Reads.str Tryd.underlying9 (by kernel_rfl)) rfl (D.bx.cons rfl (D.Reads.str Tryd.underlying9 (by kernel_rfl)) rfl (D.bx.one rfl (D.Reads.int Tryd.underlying3 (by kernel_rfl))))))))) rfl (D.bx.cons rfl (D.Reads.str Tryd.underlying9 (by kernel_rfl)) rfl (D.bx.cons rfl (D.Reads.int Tryd.underlying3 (by kernel_rfl)) rfl (D.bx.cons rfl (D.Reads.int Tryd.underlying3 (by kernel_rfl)) rfl (D.bx.cons rfl (D.Reads.int Tryd.underlying3 (by kernel_rfl)) rfl (D.bx.one rfl (D.Reads.bytes Tryd.underlying33 Tryd.underlying5 (by kernel_rfl) (by kernel_rfl))))))))))))))) rfl (D.bx.one rfl (D.Reads.bool Tryd.underlying4 (by kernel_rfl))))))).2 _ _ _ _ _ _ _ _ _ hf0
 have hv0 := (List.cons.inj hc0).1
 obtain rfl : s0 = ⟨x0, l0, c0⟩ := D.Slc.rV hv0.symm
 clear hv0
 obtain ⟨a1, rfl, rfl, rfl, w1⟩ := open_int Tryd.underlying3 (hval 1 3 v1 rfl rfl) h1
 obtain ⟨a2, rfl, rfl, rfl, w2⟩ := open_int Tryd.underlying3 (hval 2 3 v2 rfl rfl) h2
 clear hA0
 refine (D.jm ⟨x0, l0, c0⟩ b0 a1 a2 W w0 A (hE.sub (by decide))).mono fun e W' ⟨he, kp⟩ => ?_
 have bel := kp.below
 subst he
 exact ⟨_, rfl, _, _, _, [], _, [], hW', trodAll_mk1 (shut_bool Tryd.underlying4 _), (trodAll_cons_mk (Below.trod laidOut (by kernel_rfl) (of_decide_eq_true (by kernel_rfl)) k0 bel lt0) (trodAll_cons_mk (shut_int Tryd.underlying3 w1) (trodAll_cons_mk (shut_int Tryd.underlying3 w2) trodAll_mk0))), rfl, bel.frame _, fun h => by cases h⟩
set_option maxRecDepth 100000 in
theorem lifted (os : Os) (started : os.Started) (H : Type) (enc : TypeId × Value -> H) (F : Stop.Interp) :
  ReturnsInHanded {} Tryd.checked os 3 .any ((OpenSpec.ofChange Rows.checkFindsSpec).preRow enc Tryd.prog Tryd.f3 Rows.checkFindsRow.domain false Rows.checkFindsRow.laid) (((OpenSpec.ofChange Rows.checkFindsSpec).at F).post enc Tryd.prog Tryd.f3 false true false false) := by
 obtain ⟨places, hx⟩ := reads os enc
 refine returnsInHanded_of_row (C := Tryd.checked) (s := OpenSpec.ofChange Rows.checkFindsSpec) own started (by kernel_rfl) Tryd.func3
  (witness_row_at (enc := enc) (C := Tryd.checked) false (laidWorld os) #[.slice none 0 0, .int .i64 0, .int .i64 0] rfl (by kernel_rfl) (by kernel_rfl) (by kernel_rfl)
   (OpenSpec.preRow_of_cond 8 hx (by kernel_rfl) (fun k hk => by cases hk) (by kernel_rfl) (laid_met os))) ?_
 intro W base args ds gs before hval hW _ _ _ hL _ _
 exact contract H enc W base args ds gs before hval hW hL
theorem said : Rows.CheckFindsSaid :=
 OpenClaim.holds_of_cond 3 Tryd.f3 rfl rfl rfl rfl rfl rfl rfl ⟨rfl, rfl, rfl, rfl, rfl⟩ rfl rfl rfl rfl rfl (by kernel_rfl) Tryd.func3 (by kernel_rfl)
  (of_decide_eq_true (by kernel_rfl)) (by unfold Func.isWrapper; first | (rw [if_pos (by decide +kernel)]; kernel_rfl) | (rw [if_neg (by decide +kernel)]; exact ⟨rfl, rfl⟩))
  (fun os started H enc _ F => by rw [OpenClaim.pre_eq_preRow]; exact lifted os started H enc F)
theorem plain (f : FuncId) (fn : Func) (hf : Tryd.pinned.checked.prog.funcNamed "tidewater/tidewaterlaw24.CheckFinds" = some f) (hfn : Tryd.pinned.checked.prog.funcs[f]? = some fn) :
  false = Tryd.pinned.checked.prog.looks [] /\ ∀ (j : Nat) t, fn.params[j]? = some t -> Tryd.pinned.checked.prog.wantsStandIn t = false := by
 obtain rfl : f = 3 := Option.some.inj ((show Tryd.prog.funcNamed "tidewater/tidewaterlaw24.CheckFinds" = some 3 by kernel_rfl).symm.trans hf) |>.symm
 obtain rfl : fn = Tryd.f3 := (Option.some.inj (Tryd.func3.symm.trans hfn)).symm
 refine ⟨by kernel_rfl, fun j t ht => ?_⟩
 rw [Tryd.params3] at ht
 have hm := Array.mem_of_getElem? ht
 have ha : ∀ t ∈ ([22, 3, 3] : List Nat), Tryd.prog.wantsStandIn t = false := (List.forall_mem_cons.2 ⟨by kernel_rfl, (List.forall_mem_cons.2 ⟨by kernel_rfl, (List.forall_mem_cons.2 ⟨by kernel_rfl, (fun _ h => by cases h)⟩)⟩)⟩)
 exact ha t (by simpa using hm)
/-- THE CARD. -/
theorem card : Rows.CheckFindsCardSaid :=
 Claim7.holds_tied_plain_at .later [] _ _ _ _ said (fun _ h => by cases h) (by kernel_rfl) (fun _ h => by cases h) checkFinds_row_tie rfl ⟨rfl, rfl⟩ (by kernel_rfl) rfl plain (by kernel_rfl)
end Go.Proofs.YtfnibbccnbmkoaaDoor.checkFinds

