/-
  WHAT IS PROVED: Chains of units answer as those of the document do, in any order of acts, whichever units are down or sealed. No further conditions.
-/
import Derived.Test.YtnbddjghhmbmcaaGreatDoorCards
import Derived.Test.YtnbddjghhmbmcaaGreatDoorTie
import Derived.WalkKit
import Derived.ProofKit
import Derived.OpenShut
import Derived.ShutString
import Derived.ChangeOld
import Derived.Below
import Derived.Deep.DeepHandedRow
import Derived.Lib.LaidTab
import Derived.SevenTiedAt
import Derived.Test.YtnbddjghhmbmcaaGreatDoorArgs
import Derived.Test.YtnbddjghhmbmcaaGreatDoorLaid
import Derived.Test.YtnbddjghhmbmcaaGreatDoorRd
import Derived.Test.YtnbddjghhmbmcaaGreatDoorAll4
set_option linter.unusedVariables false
set_option linter.unusedSimpArgs false
namespace Go.Proofs.YtnbddjghhmbmcaaGreatDoor.chainPlays
open Go.ChangeShapes Go.WideShapes Go.ChangeAt Go.RowKit
open Go.ChangeMaps (shut_string)
theorem own : ownKnob Tryz.prog.godebug = none := by kernel_rfl
theorem laidOut : laidOutB Tryz.prog = true := by kernel_rfl
theorem star : "*" ++ "errors.errorString" = "*errors.errorString" := by decide
theorem errRow (u : TypeId) (h : Tryz.prog.typeName? 3 u = some "*errors.errorString") : u = 232 :=
 typeName_ptr_named (nm := "errors.errorString") (by rw [star]; kernel_rfl) (by kernel_rfl) (by decide) u (by rw [star]; exact h)
/-- A world for the witness: each listed variable leads to an error of its text. -/
noncomputable def low : Nat := (World.holding Tryz.prog default ⟨#[], #[], []⟩).heap.size
noncomputable def laidWorld (os : Os) : World :=
 let w0 := World.holding Tryz.prog os ⟨#[.cells #[.string ⟨#[116, 105, 100, 101, 119, 97, 116, 101, 114, 58, 32, 114, 97, 110, 103, 101]⟩] 256, .cells #[.string ⟨#[116, 105, 100, 101, 119, 97, 116, 101, 114, 58, 32, 115, 104, 111, 114, 116]⟩] 256, .cells #[.string ⟨#[116, 105, 100, 101, 119, 97, 116, 101, 114, 58, 32, 108, 111, 110, 103]⟩] 256, .cells #[.string ⟨#[116, 105, 100, 101, 119, 97, 116, 101, 114, 58, 32, 102, 111, 114, 109]⟩] 256, .cells #[.string ⟨#[116, 105, 100, 101, 119, 97, 116, 101, 114, 58, 32, 115, 117, 109]⟩] 256, .cells #[.string ⟨#[116, 105, 100, 101, 119, 97, 116, 101, 114, 58, 32, 114, 117, 110, 101]⟩] 256, .cells #[.string ⟨#[116, 105, 100, 101, 119, 97, 116, 101, 114, 58, 32, 110, 97, 109, 101]⟩] 256, .cells #[.string ⟨#[116, 105, 100, 101, 119, 97, 116, 101, 114, 58, 32, 115, 101, 97, 108, 101, 100]⟩] 256, .cells #[.string ⟨#[116, 105, 100, 101, 119, 97, 116, 101, 114, 58, 32, 119, 114, 105, 116, 116, 101, 110]⟩] 256, .cells #[.string ⟨#[116, 105, 100, 101, 119, 97, 116, 101, 114, 58, 32, 117, 110, 119, 114, 105, 116, 116, 101, 110]⟩] 256, .cells #[.string ⟨#[116, 105, 100, 101, 119, 97, 116, 101, 114, 58, 32, 116, 114, 105, 109, 109, 101, 100]⟩] 256, .cells #[.string ⟨#[116, 105, 100, 101, 119, 97, 116, 101, 114, 58, 32, 100, 111, 119, 110]⟩] 256, .cells #[.string ⟨#[116, 105, 100, 101, 119, 97, 116, 101, 114, 58, 32, 102, 117, 108, 108]⟩] 256, .cells #[.string ⟨#[116, 105, 100, 101, 119, 97, 116, 101, 114, 58, 32, 101, 112, 111, 99, 104]⟩] 256, .cells #[.string ⟨#[116, 105, 100, 101, 119, 97, 116, 101, 114, 58, 32, 109, 111, 118, 101, 100]⟩] 256, .cells #[.string ⟨#[116, 105, 100, 101, 119, 97, 116, 101, 114, 58, 32, 110, 111, 110, 101]⟩] 256, .cells #[.string ⟨#[116, 105, 100, 101, 119, 97, 116, 101, 114, 58, 32, 115, 116, 97, 116, 101]⟩] 256, .cells #[.string ⟨#[116, 105, 100, 101, 119, 97, 116, 101, 114, 58, 32, 99, 108, 97, 115, 104]⟩] 256, .cells #[.string ⟨#[116, 105, 100, 101, 119, 97, 116, 101, 114, 58, 32, 115, 116, 97, 108, 101]⟩] 256], #[], []⟩
 { w0 with heap := D.DB 232 [2, 3, 4, 1, 5, 6, 7, 8, 9, 0, 10, 11, 12, 13, 14, 15, 16, 17, 18] low w0.heap }
theorem laid_met (os : Os) : laidMet Tryz.prog Rows.chainPlaysRow.laid ((laidWorld os).forCall (fun _ _ => 0) ⟨#[], #[.agg #[.int .i64 0, .slice none 0 0], .slice none 0 0], []⟩).memory :=
 laidMet_of_run' 8 (by kernel_rfl) (by kernel_rfl)
theorem reads (os : Os) {H : Type} (enc : TypeId × Value -> H) : ∃ places, DataW.whole enc Tryz.prog ((laidWorld os).forCall (fun _ _ => 0) ⟨#[], #[.agg #[.int .i64 0, .slice none 0 0], .slice none 0 0], []⟩).memory Tryz.f4.params.toList Rows.chainPlaysSpec.vars false (#[.agg #[.int .i64 0, .slice none 0 0], .slice none 0 0] : Array Value).toList 8 = some ([.agg [.lit (.int .i64 0), .nil], .nil], [], places) :=
 ⟨[], by kernel_rfl⟩
/-- What the row's list gives. -/
theorem errs {W : World} (h : laidMetH Tryz.prog Rows.chainPlaysRow.laid W) : ∃ A, D.nc 232 [2, 3, 4, 1, 5, 6, 7, 8, 9, 0, 10, 11, 12, 13, 14, 15, 16, 17, 18] A W :=
 D.BE Tryz.underlying42 errRow Tryz.underlying232 Tryz.underlying256 rfl rfl Tryz.underlying9 (by kernel_rfl) (by kernel_rfl)
  [("tidewater/api.ErrRange", [116, 105, 100, 101, 119, 97, 116, 101, 114, 58, 32, 114, 97, 110, 103, 101]), ("tidewater/api.ErrShort", [116, 105, 100, 101, 119, 97, 116, 101, 114, 58, 32, 115, 104, 111, 114, 116]), ("tidewater/api.ErrLong", [116, 105, 100, 101, 119, 97, 116, 101, 114, 58, 32, 108, 111, 110, 103]), ("tidewater/api.ErrForm", [116, 105, 100, 101, 119, 97, 116, 101, 114, 58, 32, 102, 111, 114, 109]), ("tidewater/api.ErrSum", [116, 105, 100, 101, 119, 97, 116, 101, 114, 58, 32, 115, 117, 109]), ("tidewater/api.ErrRune", [116, 105, 100, 101, 119, 97, 116, 101, 114, 58, 32, 114, 117, 110, 101]), ("tidewater/api.ErrName", [116, 105, 100, 101, 119, 97, 116, 101, 114, 58, 32, 110, 97, 109, 101]), ("tidewater/api.ErrSealed", [116, 105, 100, 101, 119, 97, 116, 101, 114, 58, 32, 115, 101, 97, 108, 101, 100]), ("tidewater/api.ErrWritten", [116, 105, 100, 101, 119, 97, 116, 101, 114, 58, 32, 119, 114, 105, 116, 116, 101, 110]), ("tidewater/api.ErrUnwritten", [116, 105, 100, 101, 119, 97, 116, 101, 114, 58, 32, 117, 110, 119, 114, 105, 116, 116, 101, 110]), ("tidewater/api.ErrTrimmed", [116, 105, 100, 101, 119, 97, 116, 101, 114, 58, 32, 116, 114, 105, 109, 109, 101, 100]), ("tidewater/api.ErrDown", [116, 105, 100, 101, 119, 97, 116, 101, 114, 58, 32, 100, 111, 119, 110]), ("tidewater/api.ErrFull", [116, 105, 100, 101, 119, 97, 116, 101, 114, 58, 32, 102, 117, 108, 108]), ("tidewater/api.ErrEpoch", [116, 105, 100, 101, 119, 97, 116, 101, 114, 58, 32, 101, 112, 111, 99, 104]), ("tidewater/api.ErrMoved", [116, 105, 100, 101, 119, 97, 116, 101, 114, 58, 32, 109, 111, 118, 101, 100]), ("tidewater/api.ErrNone", [116, 105, 100, 101, 119, 97, 116, 101, 114, 58, 32, 110, 111, 110, 101]), ("tidewater/api.ErrState", [116, 105, 100, 101, 119, 97, 116, 101, 114, 58, 32, 115, 116, 97, 116, 101]), ("tidewater/api.ErrClash", [116, 105, 100, 101, 119, 97, 116, 101, 114, 58, 32, 99, 108, 97, 115, 104]), ("tidewater/api.ErrStale", [116, 105, 100, 101, 119, 97, 116, 101, 114, 58, 32, 115, 116, 97, 108, 101])] [2, 3, 4, 1, 5, 6, 7, 8, 9, 0, 10, 11, 12, 13, 14, 15, 16, 17, 18] (by kernel_rfl) (List.forall_mem_cons.2 ⟨by kernel_rfl, (List.forall_mem_cons.2 ⟨by kernel_rfl, (List.forall_mem_cons.2 ⟨by kernel_rfl, (List.forall_mem_cons.2 ⟨by kernel_rfl, (List.forall_mem_cons.2 ⟨by kernel_rfl, (List.forall_mem_cons.2 ⟨by kernel_rfl, (List.forall_mem_cons.2 ⟨by kernel_rfl, (List.forall_mem_cons.2 ⟨by kernel_rfl, (List.forall_mem_cons.2 ⟨by kernel_rfl, (List.forall_mem_cons.2 ⟨by kernel_rfl, (List.forall_mem_cons.2 ⟨by kernel_rfl, (List.forall_mem_cons.2 ⟨by kernel_rfl, (List.forall_mem_cons.2 ⟨by kernel_rfl, (List.forall_mem_cons.2 ⟨by kernel_rfl, (List.forall_mem_cons.2 ⟨by kernel_rfl, (List.forall_mem_cons.2 ⟨by kernel_rfl, (List.forall_mem_cons.2 ⟨by kernel_rfl, (List.forall_mem_cons.2 ⟨by kernel_rfl, (List.forall_mem_cons.2 ⟨by kernel_rfl, (fun _ h => by cases h)⟩)⟩)⟩)⟩)⟩)⟩)⟩)⟩)⟩)⟩)⟩)⟩)⟩)⟩)⟩)⟩)⟩)⟩)⟩) h
set_option maxRecDepth 100000 in
theorem contract (H : Type) (enc : TypeId × Value -> H) (W : World) (base : Nat) (args : Array Value) (ds gs : List (DataW H)) (before : List MemPlace)
  (hval : ∀ (j : Nat) t v, Tryz.f4.params[j]? = some t -> args[j]? = some v -> Value.okWide Tryz.prog W .any base t v)
  (hW : DataW.Whole enc Tryz.prog Tryz.f4.params.toList Rows.chainPlaysSpec.vars false W args.toList ds gs before) (hL : laidMetH Tryz.prog Rows.chainPlaysRow.laid W) :
  Calls Tryz.prog 4 args W fun e W' => ∃ v, e = .returned v /\ Rows.chainPlaysSpec.post enc Tryz.prog Tryz.f4 false true false false W args v W' := by
 have hW' := hW
 obtain ⟨p, q, hA0, hV, rfl, hfz, hnd⟩ := hW
 have hA : DataW.TrodAll enc Tryz.prog W 0 (fun _ => true) true Tryz.f4.params.toList args.toList ds p := hA0
 rw [Tryz.params4] at hA hval
 obtain ⟨v0, vs0, d0, ds0, p0, q0, hargs, rfl, rfl, h0, r0⟩ := trodAll_cons hA
 obtain ⟨v1, vs1, d1, ds1, p1, q1, rfl, rfl, rfl, h1, r1⟩ := trodAll_cons r0
 obtain ⟨rfl, rfl, rfl⟩ := trodAll_nil r1
 obtain rfl : args = #[v0, v1] := by obtain ⟨l⟩ := args; exact congrArg Array.mk hargs
 obtain ⟨rfl, rfl⟩ := trodVars_none hV
 obtain ⟨A, hE⟩ := errs hL
 have k0 := h0
 have lt0 : ∀ x ∈ p0, x.block < W.heap.size := by obtain ⟨m, hm⟩ := k0; exact DataW.trod_lt m _ _ _ hm
 obtain ⟨x0, rfl, sz0⟩ := okWide_struct Tryz.underlying24 (hval 0 24 v0 rfl rfl)
 obtain ⟨fu0, hf0⟩ := h0
 obtain ⟨b0, w0⟩ := (D.Reads.struct Tryz.underlying24 (by kernel_rfl) (D.ki.cons rfl (D.Reads.int Tryz.underlying3 (by kernel_rfl)) rfl (D.ki.one rfl (D.Reads.slice Tryz.underlying22 (by kernel_rfl) (D.Reads.ints Tryz.underlying37 Tryz.underlying3 (by kernel_rfl) (by kernel_rfl)))))).2 _ _ _ _ _ _ _ _ _ hf0
 have k1 := h1
 have lt1 : ∀ x ∈ p1, x.block < W.heap.size := by obtain ⟨m, hm⟩ := k1; exact DataW.trod_lt m _ _ _ hm
 obtain ⟨x1, l1, c1, rfl⟩ := okWide_slice Tryz.underlying25 (hval 1 25 v1 rfl rfl)
 obtain ⟨fu1, hf1⟩ := h1
 obtain ⟨⟨s1, b1⟩, hc1, w1⟩ := (D.Reads.slice Tryz.underlying25 (by kernel_rfl) (D.Reads.struct Tryz.underlying40 (by kernel_rfl) (D.ki.cons rfl (D.Reads.int Tryz.underlying3 (by kernel_rfl)) rfl (D.ki.cons rfl (D.Reads.int Tryz.underlying3 (by kernel_rfl)) rfl (D.ki.cons rfl (D.Reads.int Tryz.underlying3 (by kernel_rfl)) rfl (D.ki.one rfl (D.Reads.str Tryz.underlying9 (by kernel_rfl)))))))).2 _ _ _ _ _ _ _ _ _ hf1
 have hv1 := (List.cons.inj hc1).1
 obtain rfl : s1 = ⟨x1, l1, c1⟩ := D.Slc.Hi hv1.symm
 clear hv1
 clear hA0
 refine (D.xN x0 b0 ⟨x1, l1, c1⟩ b1 W w0 w1 A (hE.sub (by decide))).mono fun e W' ⟨he, kp⟩ => ?_
 have bel := kp.below
 subst he
 exact ⟨_, rfl, _, _, _, [], _, [], hW', trodAll_mk1 (shut_bool Tryz.underlying4 _), (trodAll_cons_mk (Below.trod laidOut (by kernel_rfl) (of_decide_eq_true (by kernel_rfl)) k0 bel lt0) (trodAll_cons_mk (Below.trod laidOut (by kernel_rfl) (of_decide_eq_true (by kernel_rfl)) k1 bel lt1) trodAll_mk0)), rfl, bel.frame _, fun h => by cases h⟩
set_option maxRecDepth 100000 in
theorem lifted (os : Os) (started : os.Started) (H : Type) (enc : TypeId × Value -> H) (F : Stop.Interp) :
  ReturnsInHanded {} Tryz.checked os 4 .any ((OpenSpec.ofChange Rows.chainPlaysSpec).preRow enc Tryz.prog Tryz.f4 Rows.chainPlaysRow.domain false Rows.chainPlaysRow.laid) (((OpenSpec.ofChange Rows.chainPlaysSpec).at F).post enc Tryz.prog Tryz.f4 false true false false) := by
 obtain ⟨places, hx⟩ := reads os enc
 refine returnsInHanded_of_row (C := Tryz.checked) (s := OpenSpec.ofChange Rows.chainPlaysSpec) own started (by kernel_rfl) Tryz.func4
  (witness_row_at (enc := enc) (C := Tryz.checked) false (laidWorld os) #[.agg #[.int .i64 0, .slice none 0 0], .slice none 0 0] rfl (by kernel_rfl) (by kernel_rfl) (by kernel_rfl)
   (OpenSpec.preRow_of_cond 8 hx (by kernel_rfl) (fun k hk => by cases hk) (by kernel_rfl) (laid_met os))) ?_
 intro W base args ds gs before hval hW _ _ _ hL _ _
 exact contract H enc W base args ds gs before hval hW hL
theorem said : Rows.ChainPlaysSaid :=
 OpenClaim.holds_of_cond 4 Tryz.f4 rfl rfl rfl rfl rfl rfl rfl ⟨rfl, rfl, rfl, rfl, rfl⟩ rfl rfl rfl rfl rfl (by kernel_rfl) Tryz.func4 (by kernel_rfl)
  (of_decide_eq_true (by kernel_rfl)) (by unfold Func.isWrapper; first | (rw [if_pos (by decide +kernel)]; kernel_rfl) | (rw [if_neg (by decide +kernel)]; exact ⟨rfl, rfl⟩))
  (fun os started H enc _ F => by rw [OpenClaim.pre_eq_preRow]; exact lifted os started H enc F)
theorem plain (f : FuncId) (fn : Func) (hf : Tryz.pinned.checked.prog.funcNamed "tidewater/tidewaterlaw14.ChainPlays" = some f) (hfn : Tryz.pinned.checked.prog.funcs[f]? = some fn) :
  true = Tryz.pinned.checked.prog.looks [] /\ ∀ (j : Nat) t, fn.params[j]? = some t -> Tryz.pinned.checked.prog.wantsStandIn t = false := by
 obtain rfl : f = 4 := Option.some.inj ((show Tryz.prog.funcNamed "tidewater/tidewaterlaw14.ChainPlays" = some 4 by kernel_rfl).symm.trans hf) |>.symm
 obtain rfl : fn = Tryz.f4 := (Option.some.inj (Tryz.func4.symm.trans hfn)).symm
 refine ⟨by kernel_rfl, fun j t ht => ?_⟩
 rw [Tryz.params4] at ht
 have hm := Array.mem_of_getElem? ht
 have ha : ∀ t ∈ ([24, 25] : List Nat), Tryz.prog.wantsStandIn t = false := (List.forall_mem_cons.2 ⟨by kernel_rfl, (List.forall_mem_cons.2 ⟨by kernel_rfl, (fun _ h => by cases h)⟩)⟩)
 exact ha t (by simpa using hm)
/-- THE CARD. -/
theorem card : Rows.ChainPlaysCardSaid :=
 Claim7.holds_tied_plain_at .later [] _ _ _ _ said (fun _ h => by cases h) (by kernel_rfl) (fun _ h => by cases h) chainPlays_row_tie rfl ⟨rfl, rfl⟩ (by kernel_rfl) rfl plain (by kernel_rfl)
end Go.Proofs.YtnbddjghhmbmcaaGreatDoor.chainPlays

