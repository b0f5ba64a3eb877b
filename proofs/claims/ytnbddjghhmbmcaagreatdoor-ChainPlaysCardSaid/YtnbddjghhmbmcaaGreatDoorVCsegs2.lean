/-
  WHAT IS PROVED: verification conditions of functions of this program, each with its soundness. No further conditions.
-/
import Derived.Test.YtnbddjghhmbmcaaGreatDoorBase
set_option linter.unusedSimpArgs false
set_option maxRecDepth 100000
set_option linter.unusedVariables false
namespace Go.D
open Go Go.Proofs
def vm (a1 : Option Addr) (b2 : Option Addr) (w : World) (K : Value -> World -> Prop) : Prop :=
  needSome a1 fun a3 =>
  ∃ n4, w.drew.cell? (a3.add 1) = some (.int .i64 n4) /\
  needSome b2 fun a5 =>
  ∃ n6, w.drew.cell? (a5.add 1) = some (.int .i64 n6) /\
  Calls Tryz.prog iE ⟨[(.int .i64 n4), (.int .i64 n6)]⟩ w.drew fun e7 w8 =>
  ∃ n9, e7 = .returned (.int .i64 n9) /\
  K (.int .i64 n9) w8
theorem xu (a1 : Option Addr) (b2 : Option Addr) {w : World} {R : Ending -> World -> Prop} (h : vm a1 b2 w fun v w' => R (.returned v) w') : Calls Tryz.prog jc ⟨[(.pointer a1), (.pointer b2)]⟩ w R :=
  ab (ann := .none) ag mixed Tryz.func107 (Eq.mp (by kernel_rfl) h)
def pG (x1 : Int) (y2 : Int) (w : World) (K : Value -> World -> Prop) : Prop :=
  Calls Tryz.prog cN ⟨[(.int .i64 x1)]⟩ w fun e3 w4 =>
  ∃ b5, e3 = .returned (.bool b5) /\
  Calls Tryz.prog cN ⟨[(.int .i64 y2)]⟩ w4 fun e6 w7 =>
  ∃ b8, e6 = .returned (.bool b8) /\
  BIf b5 (
  BIf b8 (
  K (.int .i64 0) w7) (
  K (.int .i64 (-1 : Int)) w7)) (
  BIf b8 (
  K (.int .i64 1) w7) (
  BIf (decide (x1 < y2)) (
  K (.int .i64 (-1 : Int)) w7) (
  BIf (decide (y2 < x1)) (
  K (.int .i64 1) w7) (
  K (.int .i64 0) w7))))
theorem rY (x1 : Int) (y2 : Int) {w : World} {R : Ending -> World -> Prop} (h : pG x1 y2 w fun v w' => R (.returned v) w') : Calls Tryz.prog iE ⟨[(.int .i64 x1), (.int .i64 y2)]⟩ w R :=
  ab (ann := .none) ag mixed Tryz.func108 (Eq.mp (by kernel_rfl) h)
def np (x1 : Int) (w : World) (K : Value -> World -> Prop) : Prop :=
  K (.bool (!decide (x1 = x1))) w
theorem nM (x1 : Int) {w : World} {R : Ending -> World -> Prop} (h : np x1 w fun v w' => R (.returned v) w') : Calls Tryz.prog cN ⟨[(.int .i64 x1)]⟩ w R :=
  ab (ann := .none) ag mixed Tryz.func140 (Eq.mp (by kernel_rfl) h)
def cG (x1 : Slc) (w : World) (K : Value -> World -> Prop) : Prop :=
  Calls Tryz.prog eQ ⟨[x1.v, (.int .i64 (x1.l : Int)), (.func (.func 107) ⟨[]⟩ ⟨[]⟩)]⟩ w fun e2 w3 =>
  e2 = .returned (.tuple #[]) /\
  K (.tuple #[]) w3
theorem fh (x1 : Slc) {w : World} {R : Ending -> World -> Prop} (h : cG x1 w fun v w' => R (.returned v) w') : Calls Tryz.prog ct ⟨[x1.v, (.func (.func 107) ⟨[]⟩ ⟨[]⟩)]⟩ w R :=
  ab (ann := .none) ag mixed Tryz.func106 (Eq.mp (by kernel_rfl) h)
def cL (data1 : Slc) (n2 : Int) (w : World) (K : Value -> World -> Prop) : Prop :=
  ∃ (I3 : (Int) -> (Int) -> World -> Prop) (mu4 : (Int) -> (Int) -> World -> Nat), I3 ((0 : Int)) ((20 : Int)) w /\ (
  ∀ a5 : Int, ∀ b6 : Int, ∀ w7 : World, I3 a5 b6 w7 -> ∀ _ _ _ _ _ _ _ _ _ _ _ _ : Value,
  BIf (decide (b6 <= n2)) (
  Calls Tryz.prog bd ⟨[data1.v, (.int .i64 a5), (.int .i64 b6), (.func (.func 107) ⟨[]⟩ ⟨[]⟩)]⟩ w7 fun e20 w21 =>
  e20 = .returned (.tuple #[]) /\
  inR .i64 (b6 + 20) /\
  (I3 (b6) ((b6 + 20)) w21 /\ mu4 (b6) ((b6 + 20)) w21 < mu4 a5 b6 w7)) (
  Calls Tryz.prog bd ⟨[data1.v, (.int .i64 a5), (.int .i64 n2), (.func (.func 107) ⟨[]⟩ ⟨[]⟩)]⟩ w7 fun e22 w23 =>
  e22 = .returned (.tuple #[]) /\
  ∃ (I24 : (Int) -> World -> Prop) (mu25 : (Int) -> World -> Nat), I24 ((20 : Int)) w23 /\ (
  ∀ blockSize26 : Int, ∀ w27 : World, I24 blockSize26 w27 -> ∀ _ _ _ _ _ _ _ _ _ _ _ _ _ _ _ _ _ _ _ _ _ _ _ _ _ _ _ _ _ _ _ _ _ _ _ _ _ _ : Value,
  BIf (decide (blockSize26 < n2)) (
  inR .i64 ((2 : Int) * blockSize26) /\
  ∃ (I66 : (Int) -> (Int) -> World -> Prop) (mu67 : (Int) -> (Int) -> World -> Nat), I66 ((0 : Int)) (((2 : Int) * blockSize26)) w27 /\ (
  ∀ a68 : Int, ∀ b69 : Int, ∀ w70 : World, I66 a68 b69 w70 -> ∀ _ _ _ _ _ _ _ _ _ _ _ _ _ _ _ _ : Value,
  BIf (decide (b69 <= n2)) (
  inR .i64 (a68 + blockSize26) /\
  Calls Tryz.prog ee ⟨[data1.v, (.int .i64 a68), (.int .i64 (a68 + blockSize26)), (.int .i64 b69), (.func (.func 107) ⟨[]⟩ ⟨[]⟩)]⟩ w70 fun e87 w88 =>
  e87 = .returned (.tuple #[]) /\
  inR .i64 ((2 : Int) * blockSize26) /\
  inR .i64 (b69 + ((2 : Int) * blockSize26)) /\
  (I66 (b69) ((b69 + ((2 : Int) * blockSize26))) w88 /\ mu67 (b69) ((b69 + ((2 : Int) * blockSize26))) w88 < mu67 a68 b69 w70)) (
  inR .i64 (a68 + blockSize26) /\
  BIf (decide ((a68 + blockSize26) < n2)) (
  Calls Tryz.prog ee ⟨[data1.v, (.int .i64 a68), (.int .i64 (a68 + blockSize26)), (.int .i64 n2), (.func (.func 107) ⟨[]⟩ ⟨[]⟩)]⟩ w70 fun e89 w90 =>
  e89 = .returned (.tuple #[]) /\
  inR .i64 (blockSize26 * 2) /\
  (I24 ((blockSize26 * 2)) w90 /\ mu25 ((blockSize26 * 2)) w90 < mu25 blockSize26 w27)) (
  inR .i64 (blockSize26 * 2) /\
  (I24 ((blockSize26 * 2)) w70 /\ mu25 ((blockSize26 * 2)) w70 < mu25 blockSize26 w27))))) (
  K (.tuple #[]) w27))))
theorem fl (data1 : Slc) (n2 : Int) {w : World} {R : Ending -> World -> Prop} (h : cL data1 n2 w fun v w' => R (.returned v) w') : Calls Tryz.prog eQ ⟨[data1.v, (.int .i64 n2), (.func (.func 107) ⟨[]⟩ ⟨[]⟩)]⟩ w R :=
  ab (ann := (.two .none (.two .none (.two (.one (.loop [(7, (Sh.int .i64)), (8, (Sh.int .i64))] (List.range' 11 12) .none)) (.two .none (.one (.loop [(6, (Sh.int .i64))] ([7, 8, 9] ++ List.range' 28 35) (.two .none (.one (.two .none (.two (.one (.loop [(7, (Sh.int .i64)), (8, (Sh.int .i64))] (List.range' 33 16) .none)) .none))))))))))) ag mixed Tryz.func139 (Eq.mp (by kernel_rfl) h)
def bM (data1 : Slc) (a2 : Int) (b3 : Int) (w : World) (K : Value -> World -> Prop) : Prop :=
  inR .i64 (a2 + 1) /\
  ∃ (I4 : (Int) -> World -> Prop) (mu5 : (Int) -> World -> Nat), I4 ((a2 + 1)) w /\ (
  ∀ i6 : Int, ∀ w7 : World, I4 i6 w7 -> ∀ _ _ _ _ _ _ _ _ _ _ _ _ _ _ _ _ _ _ _ _ _ _ _ _ _ _ _ _ _ _ _ _ _ _ _ _ _ _ _ _ _ _ : Value,
  BIf (decide (i6 < b3)) (
  ∃ (I50 : (Int) -> World -> Prop) (mu51 : (Int) -> World -> Nat), I50 (i6) w7 /\ (
  ∀ j52 : Int, ∀ w53 : World, I50 j52 w53 -> ∀ _ _ _ _ _ _ _ _ _ _ _ _ _ _ _ _ _ _ _ _ _ _ _ _ _ _ _ _ _ _ _ _ _ _ _ : Value,
  ∃ J89 : World -> Prop,
  (
  BIf (decide (a2 < j52)) (
  needSome data1.p fun a90 =>
  0 <= j52 /\ j52 < (data1.l : Int) /\
  ∃ p91 : Option Addr, w53.drew.cell? (Addr.add a90 ((Int.toNat j52) * 1)) = some (.pointer p91) /\
  inR .i64 (j52 - 1) /\
  needSome data1.p fun a92 =>
  0 <= (j52 - 1) /\ (j52 - 1) < (data1.l : Int) /\
  ∃ p93 : Option Addr, w53.drew.cell? (Addr.add a92 ((Int.toNat (j52 - 1)) * 1)) = some (.pointer p93) /\
  Calls Tryz.prog jc ⟨[(.pointer p91), (.pointer p93)]⟩ w53.drew fun e94 w95 =>
  ∃ n96, e94 = .returned (.int .i64 n96) /\
  BIf (decide (n96 < 0)) (
  J89 w95) (
  inR .i64 (i6 + 1) /\
  (I4 ((i6 + 1)) w95 /\ mu5 ((i6 + 1)) w95 < mu5 i6 w7))) (
  inR .i64 (i6 + 1) /\
  (I4 ((i6 + 1)) w53.drew /\ mu5 ((i6 + 1)) w53.drew < mu5 i6 w7))) /\ (
  ∀ w97 : World, J89 w97 -> ∀ _ _ _ _ _ _ _ _ _ _ _ _ _ _ _ _ _ : Value,
  inR .i64 (j52 - 1) /\
  inR .i64 (j52 - 1) /\
  needSome data1.p fun a115 =>
  0 <= (j52 - 1) /\ (j52 - 1) < (data1.l : Int) /\
  ∃ p116 : Option Addr, w97.drew.cell? (Addr.add a115 ((Int.toNat (j52 - 1)) * 1)) = some (.pointer p116) /\
  needSome data1.p fun a117 =>
  0 <= j52 /\ j52 < (data1.l : Int) /\
  ∃ p118 : Option Addr, w97.drew.cell? (Addr.add a117 ((Int.toNat j52) * 1)) = some (.pointer p118) /\
  needSome data1.p fun a119 =>
  0 <= j52 /\ j52 < (data1.l : Int) /\
  aw w97.drew (Addr.add a119 ((Int.toNat j52) * 1)) 1 /\ ∀ w120, w120 = w97.drew.setCell (Addr.add a119 ((Int.toNat j52) * 1)) (.pointer p116) ->
  needSome data1.p fun a121 =>
  0 <= (j52 - 1) /\ (j52 - 1) < (data1.l : Int) /\
  aw w120 (Addr.add a121 ((Int.toNat (j52 - 1)) * 1)) 1 /\ ∀ w122, w122 = w120.setCell (Addr.add a121 ((Int.toNat (j52 - 1)) * 1)) (.pointer p118) ->
  inR .i64 (j52 - 1) /\
  (I50 ((j52 - 1)) w122 /\ mu51 ((j52 - 1)) w122 < mu51 j52 w53)))) (
  K (.tuple #[]) w7))
theorem dX (data1 : Slc) (a2 : Int) (b3 : Int) {w : World} {R : Ending -> World -> Prop} (h : bM data1 a2 b3 w fun v w' => R (.returned v) w') : Calls Tryz.prog bd ⟨[data1.v, (.int .i64 a2), (.int .i64 b3), (.func (.func 107) ⟨[]⟩ ⟨[]⟩)]⟩ w R :=
  ab (ann := (.two .none (.one (.loop [(8, (Sh.int .i64))] ([9] ++ List.range' 12 41) (.two .none (.two (.one (.two .none (.one (.loop [(9, (Sh.int .i64))] (List.range' 18 35) (.cut [] (List.range' 18 17) .none .none))))) .none)))))) ag mixed Tryz.func157 (Eq.mp (by kernel_rfl) h)
def zP (d1 : Option Addr) (w : World) (K : Value -> World -> Prop) : Prop :=
  aA w (.cells ⟨[(.pointer d1), (Slc.v ⟨none, 0, 0⟩)]⟩ 175) fun r2 w3 =>
  Calls Tryz.prog dR ⟨[(.pointer (some ⟨r2, 0, none⟩))]⟩ w3 fun e4 w5 =>
  ∃ n6, e4 = .returned (.int .i64 n6) /\
  BIf (decide (n6 = 0)) (
  ∃ v7, w5.drew.cell? ⟨iQ, 0, none⟩ = some v7 /\
  K (.tuple ⟨[(.pointer none), v7]⟩) w5.drew) (
  Calls Tryz.prog dR ⟨[(.pointer (some ⟨r2, 0, none⟩))]⟩ w5 fun e8 w9 =>
  ∃ n10, e8 = .returned (.int .i64 n10) /\
  ∃ (I11 : (Int) -> World -> Prop) (mu12 : (Int) -> World -> Nat), I11 ((0 : Int)) w9 /\ (
  ∀ i13 : Int, ∀ w14 : World, I11 i13 w14 -> ∀ _ _ _ _ _ _ _ _ _ _ _ _ _ _ _ _ _ _ _ _ _ _ _ _ _ _ : Value,
  BIf (decide (i13 < n10)) (
  Calls Tryz.prog bZ ⟨[(.pointer (some ⟨r2, 0, none⟩)), (.int .i64 i13), (.int .i64 0)]⟩ w14 fun e41 w42 =>
  ∃ s43, e41 = .returned (Slc.v s43) /\
  needSome s43.p fun a44 =>
  0 <= (63 : Int) /\ (63 : Int) < (s43.l : Int) /\
  ∃ n45, w42.cell? (a44.add 63) = some (.int .u8 n45) /\
  BIf (decide (n45 = 1)) (
  ∃ s46, w42.drew.cell? ⟨r2, 1, none⟩ = some (Slc.v s46) /\
  Calls Tryz.prog jb ⟨[s43.v, (.int .i64 8)]⟩ w42.drew fun e47 w48 =>
  ∃ n49, e47 = .returned (.int .i64 n49) /\
  (ckSx (w48.cell? ⟨r2, 1, none⟩) s46) /\
  Calls Tryz.prog iD ⟨[(.pointer (some ⟨r2, 0, none⟩)), (.int .i64 i13), (.int .i64 n49)]⟩ w48 fun e51 w52 =>
  ∃ p53, e51 = .returned (.pointer p53) /\
  (ckSx (w52.cell? ⟨r2, 1, none⟩) s46) /\
  aA w52 (.cells ⟨[(.pointer p53)]⟩ 177) fun r55 w56 =>
  (ckSx (w56.cell? ⟨r2, 1, none⟩) s46) /\
  ak 1 177 [(.pointer none)] w56 s46 (.slc (⟨(some ⟨r55, 0, none⟩), 1, 1⟩ : Slc)) fun s58 w59 =>
  aw w59 ⟨r2, 1, none⟩ 1 /\ ∀ w60, w60 = w59.setCell ⟨r2, 1, none⟩ (Slc.v s58) ->
  inR .i64 (i13 + 1) /\
  (I11 ((i13 + 1)) w60 /\ mu12 ((i13 + 1)) w60 < mu12 i13 w14)) (
  inR .i64 (i13 + 1) /\
  (I11 ((i13 + 1)) w42 /\ mu12 ((i13 + 1)) w42 < mu12 i13 w14))) (
  ∃ s61, w14.cell? ⟨r2, 1, none⟩ = some (Slc.v s61) /\
  Calls Tryz.prog ct ⟨[s61.v, (.func (.func 107) ⟨[]⟩ ⟨[]⟩)]⟩ w14 fun e62 w63 =>
  e62 = .returned (.tuple #[]) /\
  K (.tuple ⟨[(.pointer (some ⟨r2, 0, none⟩)), .nilIface]⟩) w63)))
theorem AD (d1 : Option Addr) {w : World} {R : Ending -> World -> Prop} (h : zP d1 w fun v w' => R (.returned v) w') : Calls Tryz.prog kY ⟨[(.pointer d1)]⟩ w R :=
  ab (ann := (.two .none (.two .none (.two .none (.two (.two .none (.one (.loop [(16, (Sh.int .i64))] ([5, 6] ++ List.range' 17 24) .none))) .none))))) ag mixed Tryz.func77 (Eq.mp (by kernel_rfl) h)
end Go.D

