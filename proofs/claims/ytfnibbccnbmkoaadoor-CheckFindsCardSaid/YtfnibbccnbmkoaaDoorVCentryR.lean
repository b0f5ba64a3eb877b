/-
  WHAT IS PROVED: verification conditions of functions of this program, each with its soundness. No further conditions.
-/
import Derived.Test.YtfnibbccnbmkoaaDoorBase
set_option linter.unusedSimpArgs false
set_option maxRecDepth 100000
set_option linter.unusedVariables false
namespace Go.D
open Go Go.Proofs
def iq (n1 : Int) (most2 : Int) (w : World) (K : Value -> World -> Prop) : Prop :=
  BIf (decide (1 <= n1)) (
  K (.bool (decide (n1 <= most2))) w) (
  K (.bool false) w)
theorem jg (n1 : Int) (most2 : Int) {w : World} {R : Ending -> World -> Prop} (h : iq n1 most2 w fun v w' => R (.returned v) w') : Calls Tryd.prog cB ⟨[(.int .i64 n1), (.int .i64 most2)]⟩ w R :=
  ae (ann := .none) aj mixed Tryd.func76 (Eq.mp (by kernel_rfl) h)
def iX (n1 : Int) (w : World) (K : Value -> World -> Prop) : Prop :=
  Calls Tryd.prog cB ⟨[(.int .i64 n1), (.int .i64 12)]⟩ w fun e2 w3 =>
  ∃ b4, e2 = .returned (.bool b4) /\
  K (.bool b4) w3
theorem jY (n1 : Int) {w : World} {R : Ending -> World -> Prop} (h : iX n1 w fun v w' => R (.returned v) w') : Calls Tryd.prog ez ⟨[(.int .i64 n1)]⟩ w R :=
  ae (ann := .none) aj mixed Tryd.func75 (Eq.mp (by kernel_rfl) h)
def dR (c1 : Int) (c2 : Int) (c3 : Int) (c4 : Int) (c5 : Slc) (w : World) (K : Value -> World -> Prop) : Prop :=
  aK w (.cells ⟨[(.int .i64 c1), (.int .i64 c2), (.int .i64 c3), (.int .i64 c4), c5.v]⟩ 117) fun r6 w7 =>
  ∃ n8, w7.cell? ⟨r6, 0, none⟩ = some (.int .i64 n8) /\
  BIf (decide (n8 = 0)) (
  ∃ n9, w7.cell? ⟨r6, 1, none⟩ = some (.int .i64 n9) /\
  BIf (decide (0 <= n9)) (
  ∃ n10, w7.cell? ⟨r6, 1, none⟩ = some (.int .i64 n10) /\
  BIf (decide (n10 <= 4096)) (
  ∃ n11, w7.cell? ⟨r6, 2, none⟩ = some (.int .i64 n11) /\
  Calls Tryd.prog cB ⟨[(.int .i64 n11), (.int .i64 64)]⟩ w7 fun e12 w13 =>
  ∃ b14, e12 = .returned (.bool b14) /\
  BIf b14 (
  ∃ n15, w13.cell? ⟨r6, 3, none⟩ = some (.int .i64 n15) /\
  BIf (decide (0 <= n15)) (
  ∃ n16, w13.cell? ⟨r6, 3, none⟩ = some (.int .i64 n16) /\
  ∃ n17, w13.cell? ⟨r6, 2, none⟩ = some (.int .i64 n17) /\
  BIf (decide (n16 < n17)) (
  ∃ s18, w13.cell? ⟨r6, 4, none⟩ = some (Slc.v s18) /\
  K (.bool (decide ((s18.l : Int) <= (256 : Int)))) w13) (
  K (.bool false) w13)) (
  K (.bool false) w13)) (
  K (.bool false) w13)) (
  K (.bool false) w7)) (
  K (.bool false) w7)) (
  ∃ n19, w7.cell? ⟨r6, 0, none⟩ = some (.int .i64 n19) /\
  Calls Tryd.prog ez ⟨[(.int .i64 n19)]⟩ w7 fun e20 w21 =>
  ∃ b22, e20 = .returned (.bool b22) /\
  BIf b22 (
  ∃ n23, w21.cell? ⟨r6, 1, none⟩ = some (.int .i64 n23) /\
  BIf (decide (0 <= n23)) (
  ∃ n24, w21.cell? ⟨r6, 1, none⟩ = some (.int .i64 n24) /\
  BIf (decide (n24 <= 4096)) (
  ∃ n25, w21.cell? ⟨r6, 2, none⟩ = some (.int .i64 n25) /\
  Calls Tryd.prog cB ⟨[(.int .i64 n25), (.int .i64 64)]⟩ w21 fun e26 w27 =>
  ∃ b28, e26 = .returned (.bool b28) /\
  BIf b28 (
  ∃ n29, w27.cell? ⟨r6, 3, none⟩ = some (.int .i64 n29) /\
  BIf (decide (0 <= n29)) (
  ∃ n30, w27.cell? ⟨r6, 3, none⟩ = some (.int .i64 n30) /\
  ∃ n31, w27.cell? ⟨r6, 2, none⟩ = some (.int .i64 n31) /\
  BIf (decide (n30 < n31)) (
  ∃ s32, w27.cell? ⟨r6, 4, none⟩ = some (Slc.v s32) /\
  K (.bool (decide ((s32.l : Int) <= (256 : Int)))) w27) (
  K (.bool false) w27)) (
  K (.bool false) w27)) (
  K (.bool false) w27)) (
  K (.bool false) w21)) (
  K (.bool false) w21)) (
  K (.bool false) w21))
theorem fk (c1 : Int) (c2 : Int) (c3 : Int) (c4 : Int) (c5 : Slc) {w : World} {R : Ending -> World -> Prop} (h : dR c1 c2 c3 c4 c5 w fun v w' => R (.returned v) w') : Calls Tryd.prog cp ⟨[(.agg ⟨[(.int .i64 c1), (.int .i64 c2), (.int .i64 c3), (.int .i64 c4), c5.v]⟩)]⟩ w R :=
  ae (ann := .none) aj mixed Tryd.func90 (Eq.mp (by kernel_rfl) h)
def mJ (e1 : Int) (e2 : Int) (e3 : Int) (e4 : Int) (e5 : Int) (e6 : Int) (e7 : Slc) (e8 : List UInt8) (e9 : Int) (e10 : Int) (e11 : Int) (e12 : Slc) (w : World) (K : Value -> World -> Prop) : Prop :=
  aK w (.cells ⟨[(.int .i64 e1), (.int .i64 e2), (.int .i64 e3), (.int .i64 e4), (.int .i64 e5), (.int .i64 e6), e7.v, (aq e8), (.int .i64 e9), (.int .i64 e10), (.int .i64 e11), e12.v]⟩ 50) fun r13 w14 =>
  ∃ n15, w14.cell? ⟨r13, 0, none⟩ = some (.int .i64 n15) /\
  BIf (decide (n15 = 1)) (
  ∃ n16, w14.cell? ⟨r13, 1, none⟩ = some (.int .i64 n16) /\
  ∃ n17, w14.cell? ⟨r13, 4, none⟩ = some (.int .i64 n17) /\
  ∃ n18, w14.cell? ⟨r13, 5, none⟩ = some (.int .i64 n18) /\
  ∃ s19, w14.cell? ⟨r13, 6, none⟩ = some (Slc.v s19) /\
  K (Value.iface 109 (.agg ⟨[(.int .i64 n16), (.int .i64 n17), (.int .i64 n18), s19.v]⟩)) w14) (
  BIf (decide (n15 = 2)) (
  ∃ n20, w14.cell? ⟨r13, 1, none⟩ = some (.int .i64 n20) /\
  ∃ n21, w14.cell? ⟨r13, 3, none⟩ = some (.int .i64 n21) /\
  K (Value.iface 111 (.agg ⟨[(.int .i64 n20), (.int .i64 n21)]⟩)) w14) (
  BIf (decide (n15 = 3)) (
  ∃ n22, w14.cell? ⟨r13, 1, none⟩ = some (.int .i64 n22) /\
  ∃ n23, w14.cell? ⟨r13, 2, none⟩ = some (.int .i64 n23) /\
  ∃ n24, w14.cell? ⟨r13, 3, none⟩ = some (.int .i64 n24) /\
  ∃ t25 : List UInt8, w14.cell? ⟨r13, 7, none⟩ = some (aq t25) /\
  K (Value.iface 113 (.agg ⟨[(.int .i64 n22), (.int .i64 n23), (.int .i64 n24), (aq t25)]⟩)) w14) (
  BIf (decide (n15 = 4)) (
  ∃ n26, w14.cell? ⟨r13, 1, none⟩ = some (.int .i64 n26) /\
  ∃ n27, w14.cell? ⟨r13, 2, none⟩ = some (.int .i64 n27) /\
  K (Value.iface 115 (.agg ⟨[(.int .i64 n26), (.int .i64 n27)]⟩)) w14) (
  BIf (decide (n15 = 5)) (
  ∃ n28, w14.cell? ⟨r13, 1, none⟩ = some (.int .i64 n28) /\
  ∃ n29, w14.cell? ⟨r13, 8, none⟩ = some (.int .i64 n29) /\
  ∃ n30, w14.cell? ⟨r13, 10, none⟩ = some (.int .i64 n30) /\
  ∃ n31, w14.cell? ⟨r13, 9, none⟩ = some (.int .i64 n31) /\
  ∃ s32, w14.cell? ⟨r13, 11, none⟩ = some (Slc.v s32) /\
  K (Value.iface 117 (.agg ⟨[(.int .i64 n28), (.int .i64 n29), (.int .i64 n30), (.int .i64 n31), s32.v]⟩)) w14) (
  K .nilIface w14)))))
theorem mK (e1 : Int) (e2 : Int) (e3 : Int) (e4 : Int) (e5 : Int) (e6 : Int) (e7 : Slc) (e8 : List UInt8) (e9 : Int) (e10 : Int) (e11 : Int) (e12 : Slc) {w : World} {R : Ending -> World -> Prop} (h : mJ e1 e2 e3 e4 e5 e6 e7 e8 e9 e10 e11 e12 w fun v w' => R (.returned v) w') : Calls Tryd.prog gu ⟨[(.agg ⟨[(.int .i64 e1), (.int .i64 e2), (.int .i64 e3), (.int .i64 e4), (.int .i64 e5), (.int .i64 e6), e7.v, (aq e8), (.int .i64 e9), (.int .i64 e10), (.int .i64 e11), e12.v]⟩)]⟩ w R :=
  ae (ann := .none) aj mixed Tryd.func31 (Eq.mp (by kernel_rfl) h)
def iY (e1 : Int) (e2 : Int) (e3 : Int) (e4 : Int) (e5 : Int) (e6 : Int) (e7 : Slc) (e8 : List UInt8) (e9 : Int) (e10 : Int) (e11 : Int) (e12 : Slc) (w : World) (K : Value -> World -> Prop) : Prop :=
  aK w (.cells ⟨[(.int .i64 e1), (.int .i64 e2), (.int .i64 e3), (.int .i64 e4), (.int .i64 e5), (.int .i64 e6), e7.v, (aq e8), (.int .i64 e9), (.int .i64 e10), (.int .i64 e11), e12.v]⟩ 50) fun r13 w14 =>
  ∃ n15 : Int, ∃ n16 : Int, ∃ n17 : Int, ∃ n18 : Int, ∃ n19 : Int, ∃ n20 : Int, ∃ s21 : Slc, ∃ t22 : List UInt8, ∃ n23 : Int, ∃ n24 : Int, ∃ n25 : Int, ∃ s26 : Slc, rowAt w14 ⟨r13, 0, none⟩ 0 [(.int .i64 n15), (.int .i64 n16), (.int .i64 n17), (.int .i64 n18), (.int .i64 n19), (.int .i64 n20), s21.v, (aq t22), (.int .i64 n23), (.int .i64 n24), (.int .i64 n25), s26.v] /\
  Calls Tryd.prog gu ⟨[(.agg ⟨[(.int .i64 n15), (.int .i64 n16), (.int .i64 n17), (.int .i64 n18), (.int .i64 n19), (.int .i64 n20), s21.v, (aq t22), (.int .i64 n23), (.int .i64 n24), (.int .i64 n25), s26.v]⟩)]⟩ w14 fun e27 w28 =>
  ∃ e29, e27 = .returned e29 /\
  isI e29 /\
  BIf (!isNilI e29) (
  ∃ (t30 : Nat) (v31 rv32 : Value) (g33 : Nat), e29 = .iface t30 v31 /\ (∀ w : World, (method (Array.size Tryd.prog.types + Made.depth) t30 v31 "tidewater/entry.right").run Tryd.prog w = .ok (g33, rv32) w) /\ mB g33 = true /\
  Calls Tryd.prog g33 ⟨rv32 :: []⟩ w28 fun e34 w35 =>
  ∃ b36, e34 = .returned (.bool b36) /\
  K (.bool b36) w35) (
  K (.bool false) w28)
theorem jZ (e1 : Int) (e2 : Int) (e3 : Int) (e4 : Int) (e5 : Int) (e6 : Int) (e7 : Slc) (e8 : List UInt8) (e9 : Int) (e10 : Int) (e11 : Int) (e12 : Slc) {w : World} {R : Ending -> World -> Prop} (h : iY e1 e2 e3 e4 e5 e6 e7 e8 e9 e10 e11 e12 w fun v w' => R (.returned v) w') : Calls Tryd.prog ey ⟨[(.agg ⟨[(.int .i64 e1), (.int .i64 e2), (.int .i64 e3), (.int .i64 e4), (.int .i64 e5), (.int .i64 e6), e7.v, (aq e8), (.int .i64 e9), (.int .i64 e10), (.int .i64 e11), e12.v]⟩)]⟩ w R :=
  ae (ann := .none) aj mixed Tryd.func22 (Eq.mp (by kernel_rfl) h)
end Go.D

