/-
  WHAT IS PROVED: verification conditions of functions of this program, each with its soundness. No further conditions.
-/
import Derived.Test.YtfnibbccnbmkoaaDoorBase
set_option linter.unusedSimpArgs false
set_option maxRecDepth 100000
set_option linter.unusedVariables false
namespace Go.D
open Go Go.Proofs
def bm (data1 : Slc) (lo2 : Int) (hi3 : Int) (first4 : Int) (w : World) (K : Value -> World -> Prop) : Prop :=
  ∃ (I5 : (Int) -> World -> Prop) (mu6 : (Int) -> World -> Nat), I5 (lo2) w /\ (
  ∀ root7 : Int, ∀ w8 : World, I5 root7 w8 -> ∀ _ _ _ _ _ _ _ _ _ _ _ _ _ _ _ _ _ _ _ _ _ _ _ _ _ _ _ _ _ _ _ _ _ _ _ _ _ _ _ _ _ _ _ _ _ _ _ _ _ _ _ _ _ _ _ _ _ _ _ _ _ _ _ _ _ _ _ _ _ _ : Value,
  inR .i64 ((2 : Int) * root7) /\
  inR .i64 (((2 : Int) * root7) + (1 : Int)) /\
  BIf (decide (hi3 <= (((2 : Int) * root7) + (1 : Int)))) (
  K (.tuple #[]) w8) (
  ∃ J79 : (Int) -> World -> Prop,
  (
  inR .i64 ((((2 : Int) * root7) + (1 : Int)) + (1 : Int)) /\
  BIf (decide (((((2 : Int) * root7) + (1 : Int)) + (1 : Int)) < hi3)) (
  inR .i64 (first4 + (((2 : Int) * root7) + (1 : Int))) /\
  needSome data1.p fun a80 =>
  0 <= (first4 + (((2 : Int) * root7) + (1 : Int))) /\ (first4 + (((2 : Int) * root7) + (1 : Int))) < (data1.l : Int) /\
  ∃ n81 : Int, ∃ n82 : Int, ∃ n83 : Int, ∃ n84 : Int, ∃ s85 : Slc, rowAt w8.drew (Addr.add a80 ((Int.toNat (first4 + (((2 : Int) * root7) + (1 : Int)))) * 5)) 0 [(.int .i64 n81), (.int .i64 n82), (.int .i64 n83), (.int .i64 n84), s85.v] /\
  inR .i64 (first4 + (((2 : Int) * root7) + (1 : Int))) /\
  inR .i64 ((first4 + (((2 : Int) * root7) + (1 : Int))) + (1 : Int)) /\
  needSome data1.p fun a86 =>
  0 <= ((first4 + (((2 : Int) * root7) + (1 : Int))) + (1 : Int)) /\ ((first4 + (((2 : Int) * root7) + (1 : Int))) + (1 : Int)) < (data1.l : Int) /\
  ∃ n87 : Int, ∃ n88 : Int, ∃ n89 : Int, ∃ n90 : Int, ∃ s91 : Slc, rowAt w8.drew (Addr.add a86 ((Int.toNat ((first4 + (((2 : Int) * root7) + (1 : Int))) + (1 : Int))) * 5)) 0 [(.int .i64 n87), (.int .i64 n88), (.int .i64 n89), (.int .i64 n90), s91.v] /\
  Calls Tryd.prog ak ⟨[(.agg ⟨[(.int .i64 n81), (.int .i64 n82), (.int .i64 n83), (.int .i64 n84), s85.v]⟩), (.agg ⟨[(.int .i64 n87), (.int .i64 n88), (.int .i64 n89), (.int .i64 n90), s91.v]⟩)]⟩ w8.drew fun e92 w93 =>
  ∃ n94, e92 = .returned (.int .i64 n94) /\
  BIf (decide (n94 < 0)) (
  inR .i64 ((((2 : Int) * root7) + (1 : Int)) + (1 : Int)) /\
  J79 (((((2 : Int) * root7) + (1 : Int)) + (1 : Int))) w93) (
  J79 ((((2 : Int) * root7) + (1 : Int))) w93)) (
  J79 ((((2 : Int) * root7) + (1 : Int))) w8.drew)) /\ (
  ∀ child95 : Int, ∀ w96 : World, J79 child95 w96 -> ∀ _ _ _ _ _ _ _ _ _ _ _ _ _ _ _ _ _ _ _ _ _ _ _ _ : Value,
  inR .i64 (first4 + root7) /\
  needSome data1.p fun a121 =>
  0 <= (first4 + root7) /\ (first4 + root7) < (data1.l : Int) /\
  ∃ n122 : Int, ∃ n123 : Int, ∃ n124 : Int, ∃ n125 : Int, ∃ s126 : Slc, rowAt w96.drew (Addr.add a121 ((Int.toNat (first4 + root7)) * 5)) 0 [(.int .i64 n122), (.int .i64 n123), (.int .i64 n124), (.int .i64 n125), s126.v] /\
  inR .i64 (first4 + child95) /\
  needSome data1.p fun a127 =>
  0 <= (first4 + child95) /\ (first4 + child95) < (data1.l : Int) /\
  ∃ n128 : Int, ∃ n129 : Int, ∃ n130 : Int, ∃ n131 : Int, ∃ s132 : Slc, rowAt w96.drew (Addr.add a127 ((Int.toNat (first4 + child95)) * 5)) 0 [(.int .i64 n128), (.int .i64 n129), (.int .i64 n130), (.int .i64 n131), s132.v] /\
  Calls Tryd.prog ak ⟨[(.agg ⟨[(.int .i64 n122), (.int .i64 n123), (.int .i64 n124), (.int .i64 n125), s126.v]⟩), (.agg ⟨[(.int .i64 n128), (.int .i64 n129), (.int .i64 n130), (.int .i64 n131), s132.v]⟩)]⟩ w96.drew fun e133 w134 =>
  ∃ n135, e133 = .returned (.int .i64 n135) /\
  BIf (!(decide (n135 < 0))) (
  K (.tuple #[]) w134) (
  inR .i64 (first4 + root7) /\
  inR .i64 (first4 + child95) /\
  inR .i64 (first4 + child95) /\
  needSome data1.p fun a136 =>
  0 <= (first4 + child95) /\ (first4 + child95) < (data1.l : Int) /\
  ∃ n137 : Int, ∃ n138 : Int, ∃ n139 : Int, ∃ n140 : Int, ∃ s141 : Slc, rowAt w134.drew (Addr.add a136 ((Int.toNat (first4 + child95)) * 5)) 0 [(.int .i64 n137), (.int .i64 n138), (.int .i64 n139), (.int .i64 n140), s141.v] /\
  inR .i64 (first4 + root7) /\
  needSome data1.p fun a142 =>
  0 <= (first4 + root7) /\ (first4 + root7) < (data1.l : Int) /\
  ∃ n143 : Int, ∃ n144 : Int, ∃ n145 : Int, ∃ n146 : Int, ∃ s147 : Slc, rowAt w134.drew (Addr.add a142 ((Int.toNat (first4 + root7)) * 5)) 0 [(.int .i64 n143), (.int .i64 n144), (.int .i64 n145), (.int .i64 n146), s147.v] /\
  needSome data1.p fun a148 =>
  0 <= (first4 + root7) /\ (first4 + root7) < (data1.l : Int) /\
  aw w134.drew (Addr.add a148 ((Int.toNat (first4 + root7)) * 5)) 5 /\ ∀ w149, w149 = setCells w134.drew (Addr.add a148 ((Int.toNat (first4 + root7)) * 5)) 0 [(.int .i64 n137), (.int .i64 n138), (.int .i64 n139), (.int .i64 n140), s141.v] ->
  needSome data1.p fun a150 =>
  0 <= (first4 + child95) /\ (first4 + child95) < (data1.l : Int) /\
  aw w149 (Addr.add a150 ((Int.toNat (first4 + child95)) * 5)) 5 /\ ∀ w151, w151 = setCells w149 (Addr.add a150 ((Int.toNat (first4 + child95)) * 5)) 0 [(.int .i64 n143), (.int .i64 n144), (.int .i64 n145), (.int .i64 n146), s147.v] ->
  (I5 (child95) w151 /\ mu6 (child95) w151 < mu6 root7 w8)))))
theorem cq (data1 : Slc) (lo2 : Int) (hi3 : Int) (first4 : Int) {w : World} {R : Ending -> World -> Prop} (h : bm data1 lo2 hi3 first4 w fun v w' => R (.returned v) w') : Calls Tryd.prog aM ⟨[data1.v, (.int .i64 lo2), (.int .i64 hi3), (.int .i64 first4), (.func (.func 16) ⟨[]⟩ ⟨[]⟩)]⟩ w R :=
  ae (ann := (.two .none (.one (.loop [(10, (Sh.int .i64))] ([11] ++ List.range' 13 69) (.one (.two .none (.two .none (.cut [(11, (Sh.int .i64))] (List.range' 19 24) .none .none)))))))) aj mixed Tryd.func46 (Eq.mp (by kernel_rfl) h)
def bn (data1 : Slc) (a2 : Int) (b3 : Int) (w : World) (K : Value -> World -> Prop) : Prop :=
  inR .i64 (b3 - a2) /\
  inR .i64 ((b3 - a2) - (1 : Int)) /\
  0 <= ((b3 - a2) - (1 : Int)) /\ 0 < (2 : Int) /\ inR .i64 ((b3 - a2) - (1 : Int)) /\
  ∃ (I4 : (Int) -> World -> Prop) (mu5 : (Int) -> World -> Nat), I4 ((((b3 - a2) - (1 : Int)) / (2 : Int))) w /\ (
  ∀ i6 : Int, ∀ w7 : World, I4 i6 w7 -> ∀ _ _ _ _ _ _ _ _ _ _ : Value,
  BIf (decide (0 <= i6)) (
  Calls Tryd.prog aM ⟨[data1.v, (.int .i64 i6), (.int .i64 (b3 - a2)), (.int .i64 a2), (.func (.func 16) ⟨[]⟩ ⟨[]⟩)]⟩ w7 fun e18 w19 =>
  e18 = .returned (.tuple #[]) /\
  inR .i64 (i6 - 1) /\
  (I4 ((i6 - 1)) w19 /\ mu5 ((i6 - 1)) w19 < mu5 i6 w7)) (
  inR .i64 ((b3 - a2) - (1 : Int)) /\
  ∃ (I20 : (Int) -> World -> Prop) (mu21 : (Int) -> World -> Nat), I20 (((b3 - a2) - (1 : Int))) w7 /\ (
  ∀ i22 : Int, ∀ w23 : World, I20 i22 w23 -> ∀ _ _ _ _ _ _ _ _ _ _ _ _ _ _ _ _ _ _ _ _ _ _ _ _ _ _ _ _ : Value,
  BIf (decide (0 <= i22)) (
  inR .i64 (a2 + i22) /\
  inR .i64 (a2 + i22) /\
  needSome data1.p fun a52 =>
  0 <= (a2 + i22) /\ (a2 + i22) < (data1.l : Int) /\
  ∃ n53 : Int, ∃ n54 : Int, ∃ n55 : Int, ∃ n56 : Int, ∃ s57 : Slc, rowAt w23.drew (Addr.add a52 ((Int.toNat (a2 + i22)) * 5)) 0 [(.int .i64 n53), (.int .i64 n54), (.int .i64 n55), (.int .i64 n56), s57.v] /\
  needSome data1.p fun a58 =>
  0 <= a2 /\ a2 < (data1.l : Int) /\
  ∃ n59 : Int, ∃ n60 : Int, ∃ n61 : Int, ∃ n62 : Int, ∃ s63 : Slc, rowAt w23.drew (Addr.add a58 ((Int.toNat a2) * 5)) 0 [(.int .i64 n59), (.int .i64 n60), (.int .i64 n61), (.int .i64 n62), s63.v] /\
  needSome data1.p fun a64 =>
  0 <= a2 /\ a2 < (data1.l : Int) /\
  aw w23.drew (Addr.add a64 ((Int.toNat a2) * 5)) 5 /\ ∀ w65, w65 = setCells w23.drew (Addr.add a64 ((Int.toNat a2) * 5)) 0 [(.int .i64 n53), (.int .i64 n54), (.int .i64 n55), (.int .i64 n56), s57.v] ->
  needSome data1.p fun a66 =>
  0 <= (a2 + i22) /\ (a2 + i22) < (data1.l : Int) /\
  aw w65 (Addr.add a66 ((Int.toNat (a2 + i22)) * 5)) 5 /\ ∀ w67, w67 = setCells w65 (Addr.add a66 ((Int.toNat (a2 + i22)) * 5)) 0 [(.int .i64 n59), (.int .i64 n60), (.int .i64 n61), (.int .i64 n62), s63.v] ->
  Calls Tryd.prog aM ⟨[data1.v, (.int .i64 0), (.int .i64 i22), (.int .i64 a2), (.func (.func 16) ⟨[]⟩ ⟨[]⟩)]⟩ w67 fun e68 w69 =>
  e68 = .returned (.tuple #[]) /\
  inR .i64 (i22 - 1) /\
  (I20 ((i22 - 1)) w69 /\ mu21 ((i22 - 1)) w69 < mu21 i22 w23)) (
  K (.tuple #[]) w23))))
theorem cr (data1 : Slc) (a2 : Int) (b3 : Int) {w : World} {R : Ending -> World -> Prop} (h : bn data1 a2 b3 w fun v w' => R (.returned v) w') : Calls Tryd.prog bo ⟨[data1.v, (.int .i64 a2), (.int .i64 b3), (.func (.func 16) ⟨[]⟩ ⟨[]⟩)]⟩ w R :=
  ae (ann := (.two .none (.two .none (.two .none (.two (.two .none (.one (.loop [(11, (Sh.int .i64))] (List.range' 20 10) .none))) (.two .none (.one (.loop [(12, (Sh.int .i64))] (List.range' 32 28) .none)))))))) aj mixed Tryd.func33 (Eq.mp (by kernel_rfl) h)
end Go.D

