/-
  WHAT IS PROVED: verification conditions of functions of this program, each with its soundness. No further conditions.
-/
import Derived.Test.YtnbddjghhmbmcaaGreatDoorBase
import Derived.Test.YtnbddjghhmbmcaaGreatDoorVCsegs2
set_option linter.unusedSimpArgs false
set_option maxRecDepth 100000
set_option linter.unusedVariables false
namespace Go.D
open Go Go.Proofs
def pL (x1 : Slc) (w : World) (K : Value -> World -> Prop) : Prop :=
  Calls Tryz.prog jG ⟨[(.int .u64 (IntKind.wrap .u64 (x1.l : Int)))]⟩ w fun e2 w3 =>
  ∃ n4, e2 = .returned (.int .i64 n4) /\
  Calls Tryz.prog bq ⟨[x1.v, (.int .i64 0), (.int .i64 (x1.l : Int)), (.int .i64 n4)]⟩ w3 fun e5 w6 =>
  e5 = .returned (.tuple #[]) /\
  K (.tuple #[]) w6
theorem sh (x1 : Slc) {w : World} {R : Ending -> World -> Prop} (h : pL x1 w fun v w' => R (.returned v) w') : Calls Tryz.prog iy ⟨[x1.v]⟩ w R :=
  ab (ann := .none) ag mixed Tryz.func52 (Eq.mp (by kernel_rfl) h)
def gW (data1 : Slc) (a2 : Int) (b3 : Int) (limit4 : Int) (w : World) (K : Value -> World -> Prop) : Prop :=
  ∃ (I5 : (Int) -> (Int) -> (Int) -> (Bool) -> (Bool) -> World -> Prop) (mu6 : (Int) -> (Int) -> (Int) -> (Bool) -> (Bool) -> World -> Nat), I5 (a2) (b3) (limit4) (true) (true) w /\ (
  ∀ a7 : Int, ∀ b8 : Int, ∀ limit9 : Int, ∀ wasBalanced10 : Bool, ∀ wasPartitioned11 : Bool, ∀ w12 : World, I5 a7 b8 limit9 wasBalanced10 wasPartitioned11 w12 -> ∀ _ _ _ _ _ _ _ _ _ _ _ _ _ _ _ _ _ _ _ _ _ _ _ _ _ _ _ _ _ _ _ _ _ _ _ _ _ _ _ _ _ _ _ _ _ _ _ _ _ _ _ _ _ _ _ _ _ _ _ _ _ _ _ _ _ _ _ _ _ _ _ _ _ _ _ _ _ _ _ _ _ _ _ _ _ _ _ _ _ _ _ _ _ _ _ _ _ _ _ _ _ _ _ _ _ _ _ _ _ _ _ _ _ _ _ _ _ _ _ _ _ _ _ _ : Value,
  inR .i64 (b8 - a7) /\
  BIf (decide ((b8 - a7) <= (12 : Int))) (
  Calls Tryz.prog bV ⟨[data1.v, (.int .i64 a7), (.int .i64 b8)]⟩ w12 fun e137 w138 =>
  e137 = .returned (.tuple #[]) /\
  K (.tuple #[]) w138) (
  BIf (decide (limit9 = 0)) (
  Calls Tryz.prog jV ⟨[data1.v, (.int .i64 a7), (.int .i64 b8)]⟩ w12 fun e139 w140 =>
  e139 = .returned (.tuple #[]) /\
  K (.tuple #[]) w140) (
  ∃ J141 : (Int) -> World -> Prop,
  (
  BIf (!wasBalanced10) (
  Calls Tryz.prog iF ⟨[data1.v, (.int .i64 a7), (.int .i64 b8)]⟩ w12 fun e142 w143 =>
  e142 = .returned (.tuple #[]) /\
  inR .i64 (limit9 - 1) /\
  J141 ((limit9 - 1)) w143) (
  J141 (limit9) w12)) /\ (
  ∀ limit144 : Int, ∀ w145 : World, J141 limit144 w145 -> ∀ _ _ _ _ _ _ _ _ : Value,
  Calls Tryz.prog je ⟨[data1.v, (.int .i64 a7), (.int .i64 b8)]⟩ w145 fun e154 w155 =>
  ∃ n156 : Int, ∃ n157, e154 = .returned (.tuple ⟨[(.int .i64 n156), (.int .i64 n157)]⟩) /\
  ∃ J158 : (Int) -> (Int) -> World -> Prop,
  (
  BIf (decide (n157 = 2)) (
  Calls Tryz.prog iW ⟨[data1.v, (.int .i64 a7), (.int .i64 b8)]⟩ w155 fun e159 w160 =>
  e159 = .returned (.tuple #[]) /\
  inR .i64 (b8 - 1) /\
  inR .i64 (n156 - a7) /\
  inR .i64 ((b8 - 1) - (n156 - a7)) /\
  J158 (((b8 - 1) - (n156 - a7))) ((1 : Int)) w160) (
  J158 (n156) (n157) w155)) /\ (
  ∀ pivot161 : Int, ∀ hint162 : Int, ∀ w163 : World, J158 pivot161 hint162 w163 -> ∀ _ _ _ _ _ _ _ _ _ _ _ _ : Value,
  ∃ J176 : World -> Prop,
  (
  BIf wasBalanced10 (
  BIf wasPartitioned11 (
  BIf (decide (hint162 = 1)) (
  Calls Tryz.prog fT ⟨[data1.v, (.int .i64 a7), (.int .i64 b8)]⟩ w163 fun e177 w178 =>
  ∃ b179, e177 = .returned (.bool b179) /\
  BIf b179 (
  K (.tuple #[]) w178) (
  J176 w178)) (
  J176 w163)) (
  J176 w163)) (
  J176 w163)) /\ (
  ∀ w180 : World, J176 w180 -> ∀ _ _ _ _ _ _ _ _ _ _ _ _ : Value,
  ∃ J193 : (Int) -> World -> Prop,
  (
  BIf (decide (0 < a7)) (
  inR .i64 (a7 - 1) /\
  needSome data1.p fun a194 =>
  0 <= (a7 - 1) /\ (a7 - 1) < (data1.l : Int) /\
  ∃ n195, w180.drew.cell? (Addr.add a194 ((Int.toNat (a7 - 1)) * 1)) = some (.int .i64 n195) /\
  needSome data1.p fun a196 =>
  0 <= pivot161 /\ pivot161 < (data1.l : Int) /\
  ∃ n197, w180.drew.cell? (Addr.add a196 ((Int.toNat pivot161) * 1)) = some (.int .i64 n197) /\
  Calls Tryz.prog iq ⟨[(.int .i64 n195), (.int .i64 n197)]⟩ w180.drew fun e198 w199 =>
  ∃ b200, e198 = .returned (.bool b200) /\
  BIf (!b200) (
  Calls Tryz.prog hZ ⟨[data1.v, (.int .i64 a7), (.int .i64 b8), (.int .i64 pivot161)]⟩ w199 fun e201 w202 =>
  ∃ n203, e201 = .returned (.int .i64 n203) /\
  (I5 (n203) (b8) (limit144) (wasBalanced10) (wasPartitioned11) w202 /\ mu6 (n203) (b8) (limit144) (wasBalanced10) (wasPartitioned11) w202 < mu6 a7 b8 limit9 wasBalanced10 wasPartitioned11 w12)) (
  J193 (a7) w199)) (
  J193 (a7) w180.drew)) /\ (
  ∀ a204 : Int, ∀ w205 : World, J193 a204 w205 -> ∀ _ _ _ _ _ _ _ _ _ _ _ _ _ _ _ _ _ _ _ _ _ _ : Value,
  Calls Tryz.prog jI ⟨[data1.v, (.int .i64 a204), (.int .i64 b8), (.int .i64 pivot161)]⟩ w205 fun e228 w229 =>
  ∃ n230 : Int, ∃ b231, e228 = .returned (.tuple ⟨[(.int .i64 n230), (.bool b231)]⟩) /\
  inR .i64 (n230 - a204) /\
  inR .i64 (b8 - n230) /\
  0 <= (b8 - a7) /\ 0 < (8 : Int) /\ inR .i64 (b8 - a7) /\
  BIf (decide ((n230 - a204) < (b8 - n230))) (
  Calls Tryz.prog bq ⟨[data1.v, (.int .i64 a204), (.int .i64 n230), (.int .i64 limit144)]⟩ w229 fun e232 w233 =>
  e232 = .returned (.tuple #[]) /\
  inR .i64 (n230 + 1) /\
  (I5 ((n230 + 1)) (b8) (limit144) ((decide (((b8 - a7) / (8 : Int)) <= (n230 - a204)))) (b231) w233 /\ mu6 ((n230 + 1)) (b8) (limit144) ((decide (((b8 - a7) / (8 : Int)) <= (n230 - a204)))) (b231) w233 < mu6 a7 b8 limit9 wasBalanced10 wasPartitioned11 w12)) (
  inR .i64 (n230 + 1) /\
  Calls Tryz.prog bq ⟨[data1.v, (.int .i64 (n230 + 1)), (.int .i64 b8), (.int .i64 limit144)]⟩ w229 fun e234 w235 =>
  e234 = .returned (.tuple #[]) /\
  (I5 (a204) (n230) (limit144) ((decide (((b8 - a7) / (8 : Int)) <= (b8 - n230)))) (b231) w235 /\ mu6 (a204) (n230) (limit144) ((decide (((b8 - a7) / (8 : Int)) <= (b8 - n230)))) (b231) w235 < mu6 a7 b8 limit9 wasBalanced10 wasPartitioned11 w12)))))))))
theorem kx (data1 : Slc) (a2 : Int) (b3 : Int) (limit4 : Int) {w : World} {R : Ending -> World -> Prop} (h : gW data1 a2 b3 limit4 w fun v w' => R (.returned v) w') : Calls Tryz.prog bq ⟨[data1.v, (.int .i64 a2), (.int .i64 b3), (.int .i64 limit4)]⟩ w R :=
  ab (ann := (.two .none (.two .none (.one (.loop [(1, (Sh.int .i64)), (2, (Sh.int .i64)), (3, (Sh.int .i64)), (8, Sh.bool), (9, Sh.bool)] (List.range' 10 124) (.one (.two .none (.two .none (.two .none (.cut [(3, (Sh.int .i64))] (List.range' 34 8) .none (.two .none (.cut [(11, (Sh.int .i64)), (12, (Sh.int .i64))] (List.range' 49 12) .none (.cut [] (List.range' 61 12) .none (.cut [(1, (Sh.int .i64))] ([13] ++ List.range' 73 21) .none .none)))))))))))))) ag mixed Tryz.func83 (Eq.mp (by kernel_rfl) h)
def eR (data1 : Slc) (a2 : Int) (b3 : Int) (w : World) (K : Value -> World -> Prop) : Prop :=
  inR .i64 (a2 + 1) /\
  ∃ (I4 : (Int) -> World -> Prop) (mu5 : (Int) -> World -> Nat), I4 ((a2 + 1)) w /\ (
  ∀ i6 : Int, ∀ w7 : World, I4 i6 w7 -> ∀ _ _ _ _ _ _ _ _ _ _ _ _ _ _ _ _ _ _ _ _ _ _ _ _ _ _ _ _ _ _ _ _ _ _ _ _ _ _ _ _ : Value,
  BIf (decide (i6 < b3)) (
  ∃ (I48 : (Int) -> World -> Prop) (mu49 : (Int) -> World -> Nat), I48 (i6) w7 /\ (
  ∀ j50 : Int, ∀ w51 : World, I48 j50 w51 -> ∀ _ _ _ _ _ _ _ _ _ _ _ _ _ _ _ _ _ _ _ _ _ _ _ _ _ _ _ _ _ _ _ _ _ : Value,
  ∃ J85 : World -> Prop,
  (
  BIf (decide (a2 < j50)) (
  needSome data1.p fun a86 =>
  0 <= j50 /\ j50 < (data1.l : Int) /\
  ∃ n87, w51.drew.cell? (Addr.add a86 ((Int.toNat j50) * 1)) = some (.int .i64 n87) /\
  inR .i64 (j50 - 1) /\
  needSome data1.p fun a88 =>
  0 <= (j50 - 1) /\ (j50 - 1) < (data1.l : Int) /\
  ∃ n89, w51.drew.cell? (Addr.add a88 ((Int.toNat (j50 - 1)) * 1)) = some (.int .i64 n89) /\
  Calls Tryz.prog iq ⟨[(.int .i64 n87), (.int .i64 n89)]⟩ w51.drew fun e90 w91 =>
  ∃ b92, e90 = .returned (.bool b92) /\
  BIf b92 (
  J85 w91) (
  inR .i64 (i6 + 1) /\
  (I4 ((i6 + 1)) w91 /\ mu5 ((i6 + 1)) w91 < mu5 i6 w7))) (
  inR .i64 (i6 + 1) /\
  (I4 ((i6 + 1)) w51.drew /\ mu5 ((i6 + 1)) w51.drew < mu5 i6 w7))) /\ (
  ∀ w93 : World, J85 w93 -> ∀ _ _ _ _ _ _ _ _ _ _ _ _ _ _ _ : Value,
  inR .i64 (j50 - 1) /\
  inR .i64 (j50 - 1) /\
  needSome data1.p fun a109 =>
  0 <= (j50 - 1) /\ (j50 - 1) < (data1.l : Int) /\
  ∃ n110, w93.drew.cell? (Addr.add a109 ((Int.toNat (j50 - 1)) * 1)) = some (.int .i64 n110) /\
  needSome data1.p fun a111 =>
  0 <= j50 /\ j50 < (data1.l : Int) /\
  ∃ n112, w93.drew.cell? (Addr.add a111 ((Int.toNat j50) * 1)) = some (.int .i64 n112) /\
  needSome data1.p fun a113 =>
  0 <= j50 /\ j50 < (data1.l : Int) /\
  aw w93.drew (Addr.add a113 ((Int.toNat j50) * 1)) 1 /\ ∀ w114, w114 = w93.drew.setCell (Addr.add a113 ((Int.toNat j50) * 1)) (.int .i64 n110) ->
  needSome data1.p fun a115 =>
  0 <= (j50 - 1) /\ (j50 - 1) < (data1.l : Int) /\
  aw w114 (Addr.add a115 ((Int.toNat (j50 - 1)) * 1)) 1 /\ ∀ w116, w116 = w114.setCell (Addr.add a115 ((Int.toNat (j50 - 1)) * 1)) (.int .i64 n112) ->
  inR .i64 (j50 - 1) /\
  (I48 ((j50 - 1)) w116 /\ mu49 ((j50 - 1)) w116 < mu49 j50 w51)))) (
  K (.tuple #[]) w7))
theorem iJ (data1 : Slc) (a2 : Int) (b3 : Int) {w : World} {R : Ending -> World -> Prop} (h : eR data1 a2 b3 w fun v w' => R (.returned v) w') : Calls Tryz.prog bV ⟨[data1.v, (.int .i64 a2), (.int .i64 b3)]⟩ w R :=
  ab (ann := (.two .none (.one (.loop [(6, (Sh.int .i64))] ([7] ++ List.range' 10 39) (.two .none (.two (.one (.two .none (.one (.loop [(7, (Sh.int .i64))] (List.range' 16 33) (.cut [] (List.range' 16 15) .none .none))))) .none)))))) ag mixed Tryz.func114 (Eq.mp (by kernel_rfl) h)
def tO (x1 : Int) (y2 : Int) (w : World) (K : Value -> World -> Prop) : Prop :=
  Calls Tryz.prog cN ⟨[(.int .i64 x1)]⟩ w fun e3 w4 =>
  ∃ b5, e3 = .returned (.bool b5) /\
  BIf b5 (
  Calls Tryz.prog cN ⟨[(.int .i64 y2)]⟩ w4 fun e6 w7 =>
  ∃ b8, e6 = .returned (.bool b8) /\
  BIf (!b8) (
  K (.bool true) w7) (
  K (.bool (decide (x1 < y2))) w7)) (
  K (.bool (decide (x1 < y2))) w4)
theorem vX (x1 : Int) (y2 : Int) {w : World} {R : Ending -> World -> Prop} (h : tO x1 y2 w fun v w' => R (.returned v) w') : Calls Tryz.prog iq ⟨[(.int .i64 x1), (.int .i64 y2)]⟩ w R :=
  ab (ann := .none) ag mixed Tryz.func120 (Eq.mp (by kernel_rfl) h)
def rE (x1 : Int) (w : World) (K : Value -> World -> Prop) : Prop :=
  Calls Tryz.prog iG ⟨[(.int .u64 x1)]⟩ w fun e2 w3 =>
  ∃ n4, e2 = .returned (.int .i64 n4) /\
  K (.int .i64 n4) w3
theorem uL (x1 : Int) {w : World} {R : Ending -> World -> Prop} (h : rE x1 w fun v w' => R (.returned v) w') : Calls Tryz.prog jG ⟨[(.int .u64 x1)]⟩ w R :=
  ab (ann := .none) ag mixed Tryz.func84 (Eq.mp (by kernel_rfl) h)
def pM (x1 : Int) (w : World) (K : Value -> World -> Prop) : Prop :=
  ∃ J2 : (Int) -> (Int) -> World -> Prop,
  (
  BIf (decide (4294967296 <= x1)) (
  0 <= (32 : Int) /\ 0 <= x1 /\
  J2 ((x1 / 4294967296)) ((32 : Int)) w) (
  J2 (x1) ((0 : Int)) w)) /\ (
  ∀ x3 : Int, ∀ n4 : Int, ∀ w5 : World, J2 x3 n4 w5 -> ∀ _ _ _ _ : Value,
  ∃ J10 : (Int) -> (Int) -> World -> Prop,
  (
  BIf (decide (65536 <= x3)) (
  0 <= (16 : Int) /\ 0 <= x3 /\
  inR .i64 (n4 + 16) /\
  J10 ((x3 / 65536)) ((n4 + 16)) w5) (
  J10 (x3) (n4) w5)) /\ (
  ∀ x11 : Int, ∀ n12 : Int, ∀ w13 : World, J10 x11 n12 w13 -> ∀ _ _ _ _ _ _ : Value,
  BIf (decide (256 <= x11)) (
  0 <= (8 : Int) /\ 0 <= x11 /\
  inR .i64 (n12 + 8) /\
  0 <= (IntKind.wrap .u8 (x11 / 256)) /\ (IntKind.wrap .u8 (x11 / 256)) < ((List.length ([0, 1, 2, 2, 3, 3, 3, 3, 4, 4, 4, 4, 4, 4, 4, 4, 5, 5, 5, 5, 5, 5, 5, 5, 5, 5, 5, 5, 5, 5, 5, 5, 6, 6, 6, 6, 6, 6, 6, 6, 6, 6, 6, 6, 6, 6, 6, 6, 6, 6, 6, 6, 6, 6, 6, 6, 6, 6, 6, 6, 6, 6, 6, 6, 7, 7, 7, 7, 7, 7, 7, 7, 7, 7, 7, 7, 7, 7, 7, 7, 7, 7, 7, 7, 7, 7, 7, 7, 7, 7, 7, 7, 7, 7, 7, 7, 7, 7, 7, 7, 7, 7, 7, 7, 7, 7, 7, 7, 7, 7, 7, 7, 7, 7, 7, 7, 7, 7, 7, 7, 7, 7, 7, 7, 7, 7, 7, 7, 8, 8, 8, 8, 8, 8, 8, 8, 8, 8, 8, 8, 8, 8, 8, 8, 8, 8, 8, 8, 8, 8, 8, 8, 8, 8, 8, 8, 8, 8, 8, 8, 8, 8, 8, 8, 8, 8, 8, 8, 8, 8, 8, 8, 8, 8, 8, 8, 8, 8, 8, 8, 8, 8, 8, 8, 8, 8, 8, 8, 8, 8, 8, 8, 8, 8, 8, 8, 8, 8, 8, 8, 8, 8, 8, 8, 8, 8, 8, 8, 8, 8, 8, 8, 8, 8, 8, 8, 8, 8, 8, 8, 8, 8, 8, 8, 8, 8, 8, 8, 8, 8, 8, 8, 8, 8, 8, 8, 8, 8, 8, 8, 8, 8, 8, 8, 8, 8, 8, 8, 8, 8, 8, 8, 8, 8, 8, 8] : List UInt8) : Nat) : Int) /\
  inR .i64 ((UInt8.toNat (List.getD ([0, 1, 2, 2, 3, 3, 3, 3, 4, 4, 4, 4, 4, 4, 4, 4, 5, 5, 5, 5, 5, 5, 5, 5, 5, 5, 5, 5, 5, 5, 5, 5, 6, 6, 6, 6, 6, 6, 6, 6, 6, 6, 6, 6, 6, 6, 6, 6, 6, 6, 6, 6, 6, 6, 6, 6, 6, 6, 6, 6, 6, 6, 6, 6, 7, 7, 7, 7, 7, 7, 7, 7, 7, 7, 7, 7, 7, 7, 7, 7, 7, 7, 7, 7, 7, 7, 7, 7, 7, 7, 7, 7, 7, 7, 7, 7, 7, 7, 7, 7, 7, 7, 7, 7, 7, 7, 7, 7, 7, 7, 7, 7, 7, 7, 7, 7, 7, 7, 7, 7, 7, 7, 7, 7, 7, 7, 7, 7, 8, 8, 8, 8, 8, 8, 8, 8, 8, 8, 8, 8, 8, 8, 8, 8, 8, 8, 8, 8, 8, 8, 8, 8, 8, 8, 8, 8, 8, 8, 8, 8, 8, 8, 8, 8, 8, 8, 8, 8, 8, 8, 8, 8, 8, 8, 8, 8, 8, 8, 8, 8, 8, 8, 8, 8, 8, 8, 8, 8, 8, 8, 8, 8, 8, 8, 8, 8, 8, 8, 8, 8, 8, 8, 8, 8, 8, 8, 8, 8, 8, 8, 8, 8, 8, 8, 8, 8, 8, 8, 8, 8, 8, 8, 8, 8, 8, 8, 8, 8, 8, 8, 8, 8, 8, 8, 8, 8, 8, 8, 8, 8, 8, 8, 8, 8, 8, 8, 8, 8, 8, 8, 8, 8, 8, 8, 8, 8] : List UInt8) (Int.toNat (IntKind.wrap .u8 (x11 / 256))) 0) : Nat) : Int) /\
  inR .i64 ((n12 + 8) + ((UInt8.toNat (List.getD ([0, 1, 2, 2, 3, 3, 3, 3, 4, 4, 4, 4, 4, 4, 4, 4, 5, 5, 5, 5, 5, 5, 5, 5, 5, 5, 5, 5, 5, 5, 5, 5, 6, 6, 6, 6, 6, 6, 6, 6, 6, 6, 6, 6, 6, 6, 6, 6, 6, 6, 6, 6, 6, 6, 6, 6, 6, 6, 6, 6, 6, 6, 6, 6, 7, 7, 7, 7, 7, 7, 7, 7, 7, 7, 7, 7, 7, 7, 7, 7, 7, 7, 7, 7, 7, 7, 7, 7, 7, 7, 7, 7, 7, 7, 7, 7, 7, 7, 7, 7, 7, 7, 7, 7, 7, 7, 7, 7, 7, 7, 7, 7, 7, 7, 7, 7, 7, 7, 7, 7, 7, 7, 7, 7, 7, 7, 7, 7, 8, 8, 8, 8, 8, 8, 8, 8, 8, 8, 8, 8, 8, 8, 8, 8, 8, 8, 8, 8, 8, 8, 8, 8, 8, 8, 8, 8, 8, 8, 8, 8, 8, 8, 8, 8, 8, 8, 8, 8, 8, 8, 8, 8, 8, 8, 8, 8, 8, 8, 8, 8, 8, 8, 8, 8, 8, 8, 8, 8, 8, 8, 8, 8, 8, 8, 8, 8, 8, 8, 8, 8, 8, 8, 8, 8, 8, 8, 8, 8, 8, 8, 8, 8, 8, 8, 8, 8, 8, 8, 8, 8, 8, 8, 8, 8, 8, 8, 8, 8, 8, 8, 8, 8, 8, 8, 8, 8, 8, 8, 8, 8, 8, 8, 8, 8, 8, 8, 8, 8, 8, 8, 8, 8, 8, 8, 8, 8] : List UInt8) (Int.toNat (IntKind.wrap .u8 (x11 / 256))) 0) : Nat) : Int)) /\
  K (.int .i64 ((n12 + 8) + ((UInt8.toNat (List.getD ([0, 1, 2, 2, 3, 3, 3, 3, 4, 4, 4, 4, 4, 4, 4, 4, 5, 5, 5, 5, 5, 5, 5, 5, 5, 5, 5, 5, 5, 5, 5, 5, 6, 6, 6, 6, 6, 6, 6, 6, 6, 6, 6, 6, 6, 6, 6, 6, 6, 6, 6, 6, 6, 6, 6, 6, 6, 6, 6, 6, 6, 6, 6, 6, 7, 7, 7, 7, 7, 7, 7, 7, 7, 7, 7, 7, 7, 7, 7, 7, 7, 7, 7, 7, 7, 7, 7, 7, 7, 7, 7, 7, 7, 7, 7, 7, 7, 7, 7, 7, 7, 7, 7, 7, 7, 7, 7, 7, 7, 7, 7, 7, 7, 7, 7, 7, 7, 7, 7, 7, 7, 7, 7, 7, 7, 7, 7, 7, 8, 8, 8, 8, 8, 8, 8, 8, 8, 8, 8, 8, 8, 8, 8, 8, 8, 8, 8, 8, 8, 8, 8, 8, 8, 8, 8, 8, 8, 8, 8, 8, 8, 8, 8, 8, 8, 8, 8, 8, 8, 8, 8, 8, 8, 8, 8, 8, 8, 8, 8, 8, 8, 8, 8, 8, 8, 8, 8, 8, 8, 8, 8, 8, 8, 8, 8, 8, 8, 8, 8, 8, 8, 8, 8, 8, 8, 8, 8, 8, 8, 8, 8, 8, 8, 8, 8, 8, 8, 8, 8, 8, 8, 8, 8, 8, 8, 8, 8, 8, 8, 8, 8, 8, 8, 8, 8, 8, 8, 8, 8, 8, 8, 8, 8, 8, 8, 8, 8, 8, 8, 8, 8, 8, 8, 8, 8, 8] : List UInt8) (Int.toNat (IntKind.wrap .u8 (x11 / 256))) 0) : Nat) : Int))) w13) (
  0 <= (IntKind.wrap .u8 x11) /\ (IntKind.wrap .u8 x11) < ((List.length ([0, 1, 2, 2, 3, 3, 3, 3, 4, 4, 4, 4, 4, 4, 4, 4, 5, 5, 5, 5, 5, 5, 5, 5, 5, 5, 5, 5, 5, 5, 5, 5, 6, 6, 6, 6, 6, 6, 6, 6, 6, 6, 6, 6, 6, 6, 6, 6, 6, 6, 6, 6, 6, 6, 6, 6, 6, 6, 6, 6, 6, 6, 6, 6, 7, 7, 7, 7, 7, 7, 7, 7, 7, 7, 7, 7, 7, 7, 7, 7, 7, 7, 7, 7, 7, 7, 7, 7, 7, 7, 7, 7, 7, 7, 7, 7, 7, 7, 7, 7, 7, 7, 7, 7, 7, 7, 7, 7, 7, 7, 7, 7, 7, 7, 7, 7, 7, 7, 7, 7, 7, 7, 7, 7, 7, 7, 7, 7, 8, 8, 8, 8, 8, 8, 8, 8, 8, 8, 8, 8, 8, 8, 8, 8, 8, 8, 8, 8, 8, 8, 8, 8, 8, 8, 8, 8, 8, 8, 8, 8, 8, 8, 8, 8, 8, 8, 8, 8, 8, 8, 8, 8, 8, 8, 8, 8, 8, 8, 8, 8, 8, 8, 8, 8, 8, 8, 8, 8, 8, 8, 8, 8, 8, 8, 8, 8, 8, 8, 8, 8, 8, 8, 8, 8, 8, 8, 8, 8, 8, 8, 8, 8, 8, 8, 8, 8, 8, 8, 8, 8, 8, 8, 8, 8, 8, 8, 8, 8, 8, 8, 8, 8, 8, 8, 8, 8, 8, 8, 8, 8, 8, 8, 8, 8, 8, 8, 8, 8, 8, 8, 8, 8, 8, 8, 8, 8] : List UInt8) : Nat) : Int) /\
  inR .i64 ((UInt8.toNat (List.getD ([0, 1, 2, 2, 3, 3, 3, 3, 4, 4, 4, 4, 4, 4, 4, 4, 5, 5, 5, 5, 5, 5, 5, 5, 5, 5, 5, 5, 5, 5, 5, 5, 6, 6, 6, 6, 6, 6, 6, 6, 6, 6, 6, 6, 6, 6, 6, 6, 6, 6, 6, 6, 6, 6, 6, 6, 6, 6, 6, 6, 6, 6, 6, 6, 7, 7, 7, 7, 7, 7, 7, 7, 7, 7, 7, 7, 7, 7, 7, 7, 7, 7, 7, 7, 7, 7, 7, 7, 7, 7, 7, 7, 7, 7, 7, 7, 7, 7, 7, 7, 7, 7, 7, 7, 7, 7, 7, 7, 7, 7, 7, 7, 7, 7, 7, 7, 7, 7, 7, 7, 7, 7, 7, 7, 7, 7, 7, 7, 8, 8, 8, 8, 8, 8, 8, 8, 8, 8, 8, 8, 8, 8, 8, 8, 8, 8, 8, 8, 8, 8, 8, 8, 8, 8, 8, 8, 8, 8, 8, 8, 8, 8, 8, 8, 8, 8, 8, 8, 8, 8, 8, 8, 8, 8, 8, 8, 8, 8, 8, 8, 8, 8, 8, 8, 8, 8, 8, 8, 8, 8, 8, 8, 8, 8, 8, 8, 8, 8, 8, 8, 8, 8, 8, 8, 8, 8, 8, 8, 8, 8, 8, 8, 8, 8, 8, 8, 8, 8, 8, 8, 8, 8, 8, 8, 8, 8, 8, 8, 8, 8, 8, 8, 8, 8, 8, 8, 8, 8, 8, 8, 8, 8, 8, 8, 8, 8, 8, 8, 8, 8, 8, 8, 8, 8, 8, 8] : List UInt8) (Int.toNat (IntKind.wrap .u8 x11)) 0) : Nat) : Int) /\
  inR .i64 (n12 + ((UInt8.toNat (List.getD ([0, 1, 2, 2, 3, 3, 3, 3, 4, 4, 4, 4, 4, 4, 4, 4, 5, 5, 5, 5, 5, 5, 5, 5, 5, 5, 5, 5, 5, 5, 5, 5, 6, 6, 6, 6, 6, 6, 6, 6, 6, 6, 6, 6, 6, 6, 6, 6, 6, 6, 6, 6, 6, 6, 6, 6, 6, 6, 6, 6, 6, 6, 6, 6, 7, 7, 7, 7, 7, 7, 7, 7, 7, 7, 7, 7, 7, 7, 7, 7, 7, 7, 7, 7, 7, 7, 7, 7, 7, 7, 7, 7, 7, 7, 7, 7, 7, 7, 7, 7, 7, 7, 7, 7, 7, 7, 7, 7, 7, 7, 7, 7, 7, 7, 7, 7, 7, 7, 7, 7, 7, 7, 7, 7, 7, 7, 7, 7, 8, 8, 8, 8, 8, 8, 8, 8, 8, 8, 8, 8, 8, 8, 8, 8, 8, 8, 8, 8, 8, 8, 8, 8, 8, 8, 8, 8, 8, 8, 8, 8, 8, 8, 8, 8, 8, 8, 8, 8, 8, 8, 8, 8, 8, 8, 8, 8, 8, 8, 8, 8, 8, 8, 8, 8, 8, 8, 8, 8, 8, 8, 8, 8, 8, 8, 8, 8, 8, 8, 8, 8, 8, 8, 8, 8, 8, 8, 8, 8, 8, 8, 8, 8, 8, 8, 8, 8, 8, 8, 8, 8, 8, 8, 8, 8, 8, 8, 8, 8, 8, 8, 8, 8, 8, 8, 8, 8, 8, 8, 8, 8, 8, 8, 8, 8, 8, 8, 8, 8, 8, 8, 8, 8, 8, 8, 8, 8] : List UInt8) (Int.toNat (IntKind.wrap .u8 x11)) 0) : Nat) : Int)) /\
  K (.int .i64 (n12 + ((UInt8.toNat (List.getD ([0, 1, 2, 2, 3, 3, 3, 3, 4, 4, 4, 4, 4, 4, 4, 4, 5, 5, 5, 5, 5, 5, 5, 5, 5, 5, 5, 5, 5, 5, 5, 5, 6, 6, 6, 6, 6, 6, 6, 6, 6, 6, 6, 6, 6, 6, 6, 6, 6, 6, 6, 6, 6, 6, 6, 6, 6, 6, 6, 6, 6, 6, 6, 6, 7, 7, 7, 7, 7, 7, 7, 7, 7, 7, 7, 7, 7, 7, 7, 7, 7, 7, 7, 7, 7, 7, 7, 7, 7, 7, 7, 7, 7, 7, 7, 7, 7, 7, 7, 7, 7, 7, 7, 7, 7, 7, 7, 7, 7, 7, 7, 7, 7, 7, 7, 7, 7, 7, 7, 7, 7, 7, 7, 7, 7, 7, 7, 7, 8, 8, 8, 8, 8, 8, 8, 8, 8, 8, 8, 8, 8, 8, 8, 8, 8, 8, 8, 8, 8, 8, 8, 8, 8, 8, 8, 8, 8, 8, 8, 8, 8, 8, 8, 8, 8, 8, 8, 8, 8, 8, 8, 8, 8, 8, 8, 8, 8, 8, 8, 8, 8, 8, 8, 8, 8, 8, 8, 8, 8, 8, 8, 8, 8, 8, 8, 8, 8, 8, 8, 8, 8, 8, 8, 8, 8, 8, 8, 8, 8, 8, 8, 8, 8, 8, 8, 8, 8, 8, 8, 8, 8, 8, 8, 8, 8, 8, 8, 8, 8, 8, 8, 8, 8, 8, 8, 8, 8, 8, 8, 8, 8, 8, 8, 8, 8, 8, 8, 8, 8, 8, 8, 8, 8, 8, 8, 8] : List UInt8) (Int.toNat (IntKind.wrap .u8 x11)) 0) : Nat) : Int))) w13)))
theorem sj (x1 : Int) {w : World} {R : Ending -> World -> Prop} (h : pM x1 w fun v w' => R (.returned v) w') : Calls Tryz.prog iG ⟨[(.int .u64 x1)]⟩ w R :=
  ab (ann := (.two .none (.cut [(0, (Sh.int .u64)), (2, (Sh.int .i64))] [3, 4, 5, 6] .none (.cut [(0, (Sh.int .u64)), (2, (Sh.int .i64))] [7, 8, 9, 10, 11, 12] .none .none)))) ag mixed Tryz.func124 (Eq.mp (by kernel_rfl) h)
end Go.D

