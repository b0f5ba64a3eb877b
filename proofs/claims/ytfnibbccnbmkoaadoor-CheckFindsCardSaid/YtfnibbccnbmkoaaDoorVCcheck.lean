/-
  WHAT IS PROVED: verification conditions of functions of this program, each with its soundness. No further conditions.
-/
import Derived.Test.YtfnibbccnbmkoaaDoorBase
set_option linter.unusedSimpArgs false
set_option maxRecDepth 100000
set_option linter.unusedVariables false
namespace Go.D
open Go Go.Proofs
def eR (s1 : Slc) (s2 : Slc) (w : World) (K : Value -> World -> Prop) : Prop :=
  BIf (!decide ((s1.l : Int) = (s2.l : Int))) (
  K (.bool false) w) (
  ∃ (I3 : (Int) -> World -> Prop) (mu4 : (Int) -> World -> Nat), I3 ((0 : Int)) w /\ (
  ∀ i5 : Int, ∀ w6 : World, I3 i5 w6 -> ∀ _ _ _ _ _ _ _ _ _ _ _ _ _ _ : Value,
  BIf (decide (i5 < (s1.l : Int))) (
  needSome s1.p fun a21 =>
  0 <= i5 /\ i5 < (s1.l : Int) /\
  ∃ n22, w6.drew.cell? (Addr.add a21 ((Int.toNat i5) * 1)) = some (.int .u8 n22) /\
  needSome s2.p fun a23 =>
  0 <= i5 /\ i5 < (s2.l : Int) /\
  ∃ n24, w6.drew.cell? (Addr.add a23 ((Int.toNat i5) * 1)) = some (.int .u8 n24) /\
  BIf (!decide (n22 = n24)) (
  K (.bool false) w6.drew) (
  inR .i64 (i5 + 1) /\
  (I3 ((i5 + 1)) w6.drew /\ mu4 ((i5 + 1)) w6.drew < mu4 i5 w6))) (
  K (.bool true) w6)))
theorem gv (s1 : Slc) (s2 : Slc) {w : World} {R : Ending -> World -> Prop} (h : eR s1 s2 w fun v w' => R (.returned v) w') : Calls Tryd.prog bP ⟨[s1.v, s2.v]⟩ w R :=
  ae (ann := (.two .none (.two .none (.two (.two .none (.one (.loop [(13, (Sh.int .i64))] ([4, 5] ++ List.range' 14 12) .none))) .none)))) aj mixed Tryd.func23 (Eq.mp (by kernel_rfl) h)
def dS (g1 : Option Addr) (w : World) (K : Value -> World -> Prop) : Prop :=
  aK w (.cells ⟨[(.int .i64 0), (.int .i64 0), (.int .i64 0), (.int .i64 0), (Slc.v ⟨none, 0, 0⟩)]⟩ 35) fun r2 w3 =>
  needSome g1 fun a4 =>
  ∃ m5 : Option Nat, w3.drew.cell? (a4.add 2) = some (Value.map m5) /\
  ∃ es6 : Array MapEntry, mapIs w3.drew m5 es6 /\
  needSome g1 fun a7 =>
  ∃ n8, w3.drew.cell? (a7.add 1) = some (.int .i64 n8) /\
  BIf (!decide ((((Array.size es6) : Nat) : Int) = n8)) (
  aw w3.drew ⟨r2, 0, none⟩ 5 /\ ∀ w9, w9 = setCells w3.drew ⟨r2, 0, none⟩ 0 [(.int .i64 0), (.int .i64 0), (.int .i64 0), (.int .i64 0), (Slc.v ⟨none, 0, 0⟩)] ->
  ∃ n10 : Int, ∃ n11 : Int, ∃ n12 : Int, ∃ n13 : Int, ∃ s14 : Slc, rowAt w9 ⟨r2, 0, none⟩ 0 [(.int .i64 n10), (.int .i64 n11), (.int .i64 n12), (.int .i64 n13), s14.v] /\
  K (.tuple ⟨[(.agg ⟨[(.int .i64 n10), (.int .i64 n11), (.int .i64 n12), (.int .i64 n13), s14.v]⟩), (.bool false)]⟩) w9) (
  needSome g1 fun a15 =>
  ∃ n16, World.cell? (w3.drew.drew) a15 = some (.int .i64 n16) /\
  needSome g1 fun a17 =>
  ∃ n18, World.cell? (w3.drew.drew) (a17.add 1) = some (.int .i64 n18) /\
  needSome g1 fun a19 =>
  ∃ m20 : Option Nat, World.cell? (w3.drew.drew) (a19.add 2) = some (Value.map m20) /\
  ∃ es21 : Array MapEntry, mapIs (w3.drew.drew) m20 es21 /\
  ((bw (.int .i64) (.int .i64 0) es21 = some none /\
  aK (w3.drew.drew) (.cells ⟨[(.int .i64 0), (.int .i64 0), (.int .i64 0), (.int .i64 0), (Slc.v ⟨none, 0, 0⟩)]⟩ 35) fun r37 w38 =>
  (∃ es39 : Array MapEntry, mapIs w38 m20 es39 /\
  ((bw (.int .i64) (.int .i64 0) es39 = some none /\
  (Value.agg ⟨[(Value.int .i64 0), (Value.int .i64 0), (Value.int .i64 0), (Value.int .i64 0), (Value.int .i64 0), (Value.int .i64 0), (Value.int .i64 0), (Slc.v ⟨none, 0, 0⟩), (aq ([] : List UInt8)), (Value.int .i64 0), (Value.int .i64 0), (Value.int .i64 0), (Slc.v ⟨none, 0, 0⟩), (Slc.v ⟨none, 0, 0⟩), (Value.bool false)]⟩) = (Value.agg ⟨[(Value.int .i64 0), (Value.int .i64 0), (Value.int .i64 0), (Value.int .i64 0), (Value.int .i64 0), (Value.int .i64 0), (Value.int .i64 0), (Slc.v ⟨none, 0, 0⟩), (aq ([] : List UInt8)), (Value.int .i64 0), (Value.int .i64 0), (Value.int .i64 0), (Slc.v ⟨none, 0, 0⟩), (Slc.v ⟨none, 0, 0⟩), (Value.bool false)]⟩)) \/
  (∃ x40 : Int, ∃ x41 : Int, ∃ x42 : Int, ∃ x43 : Int, ∃ x44 : Int, ∃ x45 : Int, ∃ x46 : Int, ∃ x47 : Slc, ∃ x48 : List UInt8, ∃ x49 : Int, ∃ x50 : Int, ∃ x51 : Int, ∃ x52 : Slc, ∃ x53 : Slc, ∃ x54 : Bool, bw (.int .i64) (.int .i64 0) es39 = some (some (.agg ⟨[(.int .i64 x40), (.int .i64 x41), (.int .i64 x42), (.int .i64 x43), (.int .i64 x44), (.int .i64 x45), (.int .i64 x46), x47.v, (aq x48), (.int .i64 x49), (.int .i64 x50), (.int .i64 x51), x52.v, x53.v, (.bool x54)]⟩)) /\
  (Value.agg ⟨[(Value.int .i64 x40), (Value.int .i64 x41), (Value.int .i64 x42), (Value.int .i64 x43), (Value.int .i64 x44), (Value.int .i64 x45), (Value.int .i64 x46), x47.v, (aq x48), (Value.int .i64 x49), (Value.int .i64 x50), (Value.int .i64 x51), x52.v, x53.v, (Value.bool x54)]⟩) = (Value.agg ⟨[(Value.int .i64 0), (Value.int .i64 0), (Value.int .i64 0), (Value.int .i64 0), (Value.int .i64 0), (Value.int .i64 0), (Value.int .i64 0), (Slc.v ⟨none, 0, 0⟩), (aq ([] : List UInt8)), (Value.int .i64 0), (Value.int .i64 0), (Value.int .i64 0), (Slc.v ⟨none, 0, 0⟩), (Slc.v ⟨none, 0, 0⟩), (Value.bool false)]⟩)))) /\
  (∃ m55 : Option Nat, w38.cell? (a19.add 2) = some (Value.map m55) /\
  (Value.map m55) = (Value.map m20)) /\
  (ckIx .i64 (w38.cell? (a17.add 1)) n18) /\
  (ckIx .i64 (w38.cell? a15) n16) /\
  aw w38 ⟨r37, 0, none⟩ 5 /\ ∀ w58, w58 = setCells w38 ⟨r37, 0, none⟩ 0 [(.int .i64 n16), (.int .i64 n18), (.int .i64 0), (.int .i64 0), (Slc.v ⟨none, 0, 0⟩)] ->
  needSome g1 fun a59 =>
  ∃ n60, w58.cell? (a59.add 1) = some (.int .i64 n60) /\
  ∃ (I61 : (Slc) -> (Int) -> World -> Prop) (mu62 : (Slc) -> (Int) -> World -> Nat), I61 (⟨none, 0, 0⟩) ((0 : Int)) w58 /\ (
  ∀ all63 : Slc, ∀ i64 : Int, ∀ w65 : World, I61 all63 i64 w65 -> ∀ _ _ _ _ _ _ _ _ _ _ _ _ _ _ _ _ _ _ _ _ _ _ _ _ _ _ _ _ : Value,
  BIf (decide (i64 < n60)) (
  needSome g1 fun a94 =>
  ∃ m95 : Option Nat, w65.cell? (a94.add 2) = some (Value.map m95) /\
  ∃ es96 : Array MapEntry, mapIs w65 m95 es96 /\
  ((bw (.int .i64) (.int .i64 i64) es96 = some none /\
  aK w65 (.cells ⟨[(.int .i64 0), (.int .i64 0), (.int .i64 0), (.int .i64 0), (.int .i64 0), (.int .i64 0), (.int .i64 0), (Slc.v ⟨none, 0, 0⟩), (aq ([] : List UInt8)), (.int .i64 0), (.int .i64 0), (.int .i64 0), (Slc.v ⟨none, 0, 0⟩), (Slc.v ⟨none, 0, 0⟩), (.bool false)]⟩ 54) fun r112 w113 =>
  aw w113 ⟨r112, 0, none⟩ 15 /\ ∀ w114, w114 = setCells w113 ⟨r112, 0, none⟩ 0 [(.int .i64 0), (.int .i64 0), (.int .i64 0), (.int .i64 0), (.int .i64 0), (.int .i64 0), (.int .i64 0), (Slc.v ⟨none, 0, 0⟩), (aq ([] : List UInt8)), (.int .i64 0), (.int .i64 0), (.int .i64 0), (Slc.v ⟨none, 0, 0⟩), (Slc.v ⟨none, 0, 0⟩), (.bool false)] ->
  ∃ n115, w114.drew.cell? ⟨r37, 2, none⟩ = some (.int .i64 n115) /\
  ∃ n116, w114.drew.cell? ⟨r112, 0, none⟩ = some (.int .i64 n116) /\
  ∃ n117, w114.drew.cell? ⟨r37, 3, none⟩ = some (.int .i64 n117) /\
  ∃ n118, w114.drew.cell? ⟨r112, 0, none⟩ = some (.int .i64 n118) /\
  aw w114.drew ⟨r37, 2, none⟩ 1 /\ ∀ w119, w119 = w114.drew.setCell ⟨r37, 2, none⟩ (.int .i64 (if n116 < n115 then n116 else n115)) ->
  (ckIx .i64 (w119.cell? ⟨r112, 0, none⟩) n118) /\
  aw w119 ⟨r37, 3, none⟩ 1 /\ ∀ w121, w121 = w119.setCell ⟨r37, 3, none⟩ (.int .i64 (if n118 > n117 then n118 else n117)) ->
  ∃ s122, w121.cell? ⟨r112, 12, none⟩ = some (Slc.v s122) /\
  bA 1 5 [(.int .u8 0)] w121 all63 (.slc s122) fun s123 w124 =>
  inR .i64 (i64 + 1) /\
  (I61 (s123) ((i64 + 1)) w124 /\ mu62 (s123) ((i64 + 1)) w124 < mu62 all63 i64 w65)) \/
  (∃ x97 : Int, ∃ x98 : Int, ∃ x99 : Int, ∃ x100 : Int, ∃ x101 : Int, ∃ x102 : Int, ∃ x103 : Int, ∃ x104 : Slc, ∃ x105 : List UInt8, ∃ x106 : Int, ∃ x107 : Int, ∃ x108 : Int, ∃ x109 : Slc, ∃ x110 : Slc, ∃ x111 : Bool, bw (.int .i64) (.int .i64 i64) es96 = some (some (.agg ⟨[(.int .i64 x97), (.int .i64 x98), (.int .i64 x99), (.int .i64 x100), (.int .i64 x101), (.int .i64 x102), (.int .i64 x103), x104.v, (aq x105), (.int .i64 x106), (.int .i64 x107), (.int .i64 x108), x109.v, x110.v, (.bool x111)]⟩)) /\
  aK w65 (.cells ⟨[(.int .i64 0), (.int .i64 0), (.int .i64 0), (.int .i64 0), (.int .i64 0), (.int .i64 0), (.int .i64 0), (Slc.v ⟨none, 0, 0⟩), (aq ([] : List UInt8)), (.int .i64 0), (.int .i64 0), (.int .i64 0), (Slc.v ⟨none, 0, 0⟩), (Slc.v ⟨none, 0, 0⟩), (.bool false)]⟩ 54) fun r125 w126 =>
  aw w126 ⟨r125, 0, none⟩ 15 /\ ∀ w127, w127 = setCells w126 ⟨r125, 0, none⟩ 0 [(.int .i64 x97), (.int .i64 x98), (.int .i64 x99), (.int .i64 x100), (.int .i64 x101), (.int .i64 x102), (.int .i64 x103), x104.v, (aq x105), (.int .i64 x106), (.int .i64 x107), (.int .i64 x108), x109.v, x110.v, (.bool x111)] ->
  ∃ n128, w127.drew.cell? ⟨r37, 2, none⟩ = some (.int .i64 n128) /\
  ∃ n129, w127.drew.cell? ⟨r125, 0, none⟩ = some (.int .i64 n129) /\
  ∃ n130, w127.drew.cell? ⟨r37, 3, none⟩ = some (.int .i64 n130) /\
  ∃ n131, w127.drew.cell? ⟨r125, 0, none⟩ = some (.int .i64 n131) /\
  aw w127.drew ⟨r37, 2, none⟩ 1 /\ ∀ w132, w132 = w127.drew.setCell ⟨r37, 2, none⟩ (.int .i64 (if n129 < n128 then n129 else n128)) ->
  (ckIx .i64 (w132.cell? ⟨r125, 0, none⟩) n131) /\
  aw w132 ⟨r37, 3, none⟩ 1 /\ ∀ w134, w134 = w132.setCell ⟨r37, 3, none⟩ (.int .i64 (if n131 > n130 then n131 else n130)) ->
  ∃ s135, w134.cell? ⟨r125, 12, none⟩ = some (Slc.v s135) /\
  bA 1 5 [(.int .u8 0)] w134 all63 (.slc s135) fun s136 w137 =>
  inR .i64 (i64 + 1) /\
  (I61 (s136) ((i64 + 1)) w137 /\ mu62 (s136) ((i64 + 1)) w137 < mu62 all63 i64 w65)))) (
  BIf (decide ((all63.l : Int) < (4 : Int))) (
  aw w65 ⟨r2, 0, none⟩ 5 /\ ∀ w138, w138 = setCells w65 ⟨r2, 0, none⟩ 0 [(.int .i64 0), (.int .i64 0), (.int .i64 0), (.int .i64 0), (Slc.v ⟨none, 0, 0⟩)] ->
  ∃ n139 : Int, ∃ n140 : Int, ∃ n141 : Int, ∃ n142 : Int, ∃ s143 : Slc, rowAt w138 ⟨r2, 0, none⟩ 0 [(.int .i64 n139), (.int .i64 n140), (.int .i64 n141), (.int .i64 n142), s143.v] /\
  K (.tuple ⟨[(.agg ⟨[(.int .i64 n139), (.int .i64 n140), (.int .i64 n141), (.int .i64 n142), s143.v]⟩), (.bool false)]⟩) w138) (
  0 <= (4 : Int) /\ (4 : Int) <= (all63.l : Int) /\ (all63.l : Int) <= (all63.c : Int) /\ (all63.c : Int) <= (all63.c : Int) /\
  Calls Tryd.prog cA ⟨[(Slc.v (Slc.sub all63 1 4 all63.l all63.c))]⟩ w65 fun e145 w146 =>
  ∃ s147, e145 = .returned (Slc.v s147) /\
  Calls Tryd.prog bP ⟨[s147.v, all63.v]⟩ w146 fun e148 w149 =>
  ∃ b150, e148 = .returned (.bool b150) /\
  BIf (!b150) (
  aw w149 ⟨r2, 0, none⟩ 5 /\ ∀ w151, w151 = setCells w149 ⟨r2, 0, none⟩ 0 [(.int .i64 0), (.int .i64 0), (.int .i64 0), (.int .i64 0), (Slc.v ⟨none, 0, 0⟩)] ->
  ∃ n152 : Int, ∃ n153 : Int, ∃ n154 : Int, ∃ n155 : Int, ∃ s156 : Slc, rowAt w151 ⟨r2, 0, none⟩ 0 [(.int .i64 n152), (.int .i64 n153), (.int .i64 n154), (.int .i64 n155), s156.v] /\
  K (.tuple ⟨[(.agg ⟨[(.int .i64 n152), (.int .i64 n153), (.int .i64 n154), (.int .i64 n155), s156.v]⟩), (.bool false)]⟩) w151) (
  0 <= (4 : Int) /\ (4 : Int) <= (all63.l : Int) /\ (all63.l : Int) <= (all63.c : Int) /\ (all63.c : Int) <= (all63.c : Int) /\
  aw w149 ⟨r37, 4, none⟩ 1 /\ ∀ w158, w158 = w149.setCell ⟨r37, 4, none⟩ (Slc.v (Slc.sub all63 1 4 all63.l all63.c)) ->
  ∃ n159 : Int, ∃ n160 : Int, ∃ n161 : Int, ∃ n162 : Int, ∃ s163 : Slc, rowAt w158 ⟨r37, 0, none⟩ 0 [(.int .i64 n159), (.int .i64 n160), (.int .i64 n161), (.int .i64 n162), s163.v] /\
  aw w158 ⟨r2, 0, none⟩ 5 /\ ∀ w164, w164 = setCells w158 ⟨r2, 0, none⟩ 0 [(.int .i64 n159), (.int .i64 n160), (.int .i64 n161), (.int .i64 n162), s163.v] ->
  ∃ n165 : Int, ∃ n166 : Int, ∃ n167 : Int, ∃ n168 : Int, ∃ s169 : Slc, rowAt w164 ⟨r2, 0, none⟩ 0 [(.int .i64 n165), (.int .i64 n166), (.int .i64 n167), (.int .i64 n168), s169.v] /\
  K (.tuple ⟨[(.agg ⟨[(.int .i64 n165), (.int .i64 n166), (.int .i64 n167), (.int .i64 n168), s169.v]⟩), (.bool true)]⟩) w164))))) \/
  (∃ x22 : Int, ∃ x23 : Int, ∃ x24 : Int, ∃ x25 : Int, ∃ x26 : Int, ∃ x27 : Int, ∃ x28 : Int, ∃ x29 : Slc, ∃ x30 : List UInt8, ∃ x31 : Int, ∃ x32 : Int, ∃ x33 : Int, ∃ x34 : Slc, ∃ x35 : Slc, ∃ x36 : Bool, bw (.int .i64) (.int .i64 0) es21 = some (some (.agg ⟨[(.int .i64 x22), (.int .i64 x23), (.int .i64 x24), (.int .i64 x25), (.int .i64 x26), (.int .i64 x27), (.int .i64 x28), x29.v, (aq x30), (.int .i64 x31), (.int .i64 x32), (.int .i64 x33), x34.v, x35.v, (.bool x36)]⟩)) /\
  aK (w3.drew.drew) (.cells ⟨[(.int .i64 0), (.int .i64 0), (.int .i64 0), (.int .i64 0), (Slc.v ⟨none, 0, 0⟩)]⟩ 35) fun r170 w171 =>
  (∃ es172 : Array MapEntry, mapIs w171 m20 es172 /\
  ((bw (.int .i64) (.int .i64 0) es172 = some none /\
  (Value.agg ⟨[(Value.int .i64 0), (Value.int .i64 0), (Value.int .i64 0), (Value.int .i64 0), (Value.int .i64 0), (Value.int .i64 0), (Value.int .i64 0), (Slc.v ⟨none, 0, 0⟩), (aq ([] : List UInt8)), (Value.int .i64 0), (Value.int .i64 0), (Value.int .i64 0), (Slc.v ⟨none, 0, 0⟩), (Slc.v ⟨none, 0, 0⟩), (Value.bool false)]⟩) = (Value.agg ⟨[(Value.int .i64 x22), (Value.int .i64 x23), (Value.int .i64 x24), (Value.int .i64 x25), (Value.int .i64 x26), (Value.int .i64 x27), (Value.int .i64 x28), x29.v, (aq x30), (Value.int .i64 x31), (Value.int .i64 x32), (Value.int .i64 x33), x34.v, x35.v, (Value.bool x36)]⟩)) \/
  (∃ x173 : Int, ∃ x174 : Int, ∃ x175 : Int, ∃ x176 : Int, ∃ x177 : Int, ∃ x178 : Int, ∃ x179 : Int, ∃ x180 : Slc, ∃ x181 : List UInt8, ∃ x182 : Int, ∃ x183 : Int, ∃ x184 : Int, ∃ x185 : Slc, ∃ x186 : Slc, ∃ x187 : Bool, bw (.int .i64) (.int .i64 0) es172 = some (some (.agg ⟨[(.int .i64 x173), (.int .i64 x174), (.int .i64 x175), (.int .i64 x176), (.int .i64 x177), (.int .i64 x178), (.int .i64 x179), x180.v, (aq x181), (.int .i64 x182), (.int .i64 x183), (.int .i64 x184), x185.v, x186.v, (.bool x187)]⟩)) /\
  (Value.agg ⟨[(Value.int .i64 x173), (Value.int .i64 x174), (Value.int .i64 x175), (Value.int .i64 x176), (Value.int .i64 x177), (Value.int .i64 x178), (Value.int .i64 x179), x180.v, (aq x181), (Value.int .i64 x182), (Value.int .i64 x183), (Value.int .i64 x184), x185.v, x186.v, (Value.bool x187)]⟩) = (Value.agg ⟨[(Value.int .i64 x22), (Value.int .i64 x23), (Value.int .i64 x24), (Value.int .i64 x25), (Value.int .i64 x26), (Value.int .i64 x27), (Value.int .i64 x28), x29.v, (aq x30), (Value.int .i64 x31), (Value.int .i64 x32), (Value.int .i64 x33), x34.v, x35.v, (Value.bool x36)]⟩)))) /\
  (∃ m188 : Option Nat, w171.cell? (a19.add 2) = some (Value.map m188) /\
  (Value.map m188) = (Value.map m20)) /\
  (ckIx .i64 (w171.cell? (a17.add 1)) n18) /\
  (ckIx .i64 (w171.cell? a15) n16) /\
  aw w171 ⟨r170, 0, none⟩ 5 /\ ∀ w191, w191 = setCells w171 ⟨r170, 0, none⟩ 0 [(.int .i64 n16), (.int .i64 n18), (.int .i64 x22), (.int .i64 0), (Slc.v ⟨none, 0, 0⟩)] ->
  needSome g1 fun a192 =>
  ∃ n193, w191.cell? (a192.add 1) = some (.int .i64 n193) /\
  ∃ (I194 : (Slc) -> (Int) -> World -> Prop) (mu195 : (Slc) -> (Int) -> World -> Nat), I194 (⟨none, 0, 0⟩) ((0 : Int)) w191 /\ (
  ∀ all196 : Slc, ∀ i197 : Int, ∀ w198 : World, I194 all196 i197 w198 -> ∀ _ _ _ _ _ _ _ _ _ _ _ _ _ _ _ _ _ _ _ _ _ _ _ _ _ _ _ _ : Value,
  BIf (decide (i197 < n193)) (
  needSome g1 fun a227 =>
  ∃ m228 : Option Nat, w198.cell? (a227.add 2) = some (Value.map m228) /\
  ∃ es229 : Array MapEntry, mapIs w198 m228 es229 /\
  ((bw (.int .i64) (.int .i64 i197) es229 = some none /\
  aK w198 (.cells ⟨[(.int .i64 0), (.int .i64 0), (.int .i64 0), (.int .i64 0), (.int .i64 0), (.int .i64 0), (.int .i64 0), (Slc.v ⟨none, 0, 0⟩), (aq ([] : List UInt8)), (.int .i64 0), (.int .i64 0), (.int .i64 0), (Slc.v ⟨none, 0, 0⟩), (Slc.v ⟨none, 0, 0⟩), (.bool false)]⟩ 54) fun r245 w246 =>
  aw w246 ⟨r245, 0, none⟩ 15 /\ ∀ w247, w247 = setCells w246 ⟨r245, 0, none⟩ 0 [(.int .i64 0), (.int .i64 0), (.int .i64 0), (.int .i64 0), (.int .i64 0), (.int .i64 0), (.int .i64 0), (Slc.v ⟨none, 0, 0⟩), (aq ([] : List UInt8)), (.int .i64 0), (.int .i64 0), (.int .i64 0), (Slc.v ⟨none, 0, 0⟩), (Slc.v ⟨none, 0, 0⟩), (.bool false)] ->
  ∃ n248, w247.drew.cell? ⟨r170, 2, none⟩ = some (.int .i64 n248) /\
  ∃ n249, w247.drew.cell? ⟨r245, 0, none⟩ = some (.int .i64 n249) /\
  ∃ n250, w247.drew.cell? ⟨r170, 3, none⟩ = some (.int .i64 n250) /\
  ∃ n251, w247.drew.cell? ⟨r245, 0, none⟩ = some (.int .i64 n251) /\
  aw w247.drew ⟨r170, 2, none⟩ 1 /\ ∀ w252, w252 = w247.drew.setCell ⟨r170, 2, none⟩ (.int .i64 (if n249 < n248 then n249 else n248)) ->
  (ckIx .i64 (w252.cell? ⟨r245, 0, none⟩) n251) /\
  aw w252 ⟨r170, 3, none⟩ 1 /\ ∀ w254, w254 = w252.setCell ⟨r170, 3, none⟩ (.int .i64 (if n251 > n250 then n251 else n250)) ->
  ∃ s255, w254.cell? ⟨r245, 12, none⟩ = some (Slc.v s255) /\
  bA 1 5 [(.int .u8 0)] w254 all196 (.slc s255) fun s256 w257 =>
  inR .i64 (i197 + 1) /\
  (I194 (s256) ((i197 + 1)) w257 /\ mu195 (s256) ((i197 + 1)) w257 < mu195 all196 i197 w198)) \/
  (∃ x230 : Int, ∃ x231 : Int, ∃ x232 : Int, ∃ x233 : Int, ∃ x234 : Int, ∃ x235 : Int, ∃ x236 : Int, ∃ x237 : Slc, ∃ x238 : List UInt8, ∃ x239 : Int, ∃ x240 : Int, ∃ x241 : Int, ∃ x242 : Slc, ∃ x243 : Slc, ∃ x244 : Bool, bw (.int .i64) (.int .i64 i197) es229 = some (some (.agg ⟨[(.int .i64 x230), (.int .i64 x231), (.int .i64 x232), (.int .i64 x233), (.int .i64 x234), (.int .i64 x235), (.int .i64 x236), x237.v, (aq x238), (.int .i64 x239), (.int .i64 x240), (.int .i64 x241), x242.v, x243.v, (.bool x244)]⟩)) /\
  aK w198 (.cells ⟨[(.int .i64 0), (.int .i64 0), (.int .i64 0), (.int .i64 0), (.int .i64 0), (.int .i64 0), (.int .i64 0), (Slc.v ⟨none, 0, 0⟩), (aq ([] : List UInt8)), (.int .i64 0), (.int .i64 0), (.int .i64 0), (Slc.v ⟨none, 0, 0⟩), (Slc.v ⟨none, 0, 0⟩), (.bool false)]⟩ 54) fun r258 w259 =>
  aw w259 ⟨r258, 0, none⟩ 15 /\ ∀ w260, w260 = setCells w259 ⟨r258, 0, none⟩ 0 [(.int .i64 x230), (.int .i64 x231), (.int .i64 x232), (.int .i64 x233), (.int .i64 x234), (.int .i64 x235), (.int .i64 x236), x237.v, (aq x238), (.int .i64 x239), (.int .i64 x240), (.int .i64 x241), x242.v, x243.v, (.bool x244)] ->
  ∃ n261, w260.drew.cell? ⟨r170, 2, none⟩ = some (.int .i64 n261) /\
  ∃ n262, w260.drew.cell? ⟨r258, 0, none⟩ = some (.int .i64 n262) /\
  ∃ n263, w260.drew.cell? ⟨r170, 3, none⟩ = some (.int .i64 n263) /\
  ∃ n264, w260.drew.cell? ⟨r258, 0, none⟩ = some (.int .i64 n264) /\
  aw w260.drew ⟨r170, 2, none⟩ 1 /\ ∀ w265, w265 = w260.drew.setCell ⟨r170, 2, none⟩ (.int .i64 (if n262 < n261 then n262 else n261)) ->
  (ckIx .i64 (w265.cell? ⟨r258, 0, none⟩) n264) /\
  aw w265 ⟨r170, 3, none⟩ 1 /\ ∀ w267, w267 = w265.setCell ⟨r170, 3, none⟩ (.int .i64 (if n264 > n263 then n264 else n263)) ->
  ∃ s268, w267.cell? ⟨r258, 12, none⟩ = some (Slc.v s268) /\
  bA 1 5 [(.int .u8 0)] w267 all196 (.slc s268) fun s269 w270 =>
  inR .i64 (i197 + 1) /\
  (I194 (s269) ((i197 + 1)) w270 /\ mu195 (s269) ((i197 + 1)) w270 < mu195 all196 i197 w198)))) (
  BIf (decide ((all196.l : Int) < (4 : Int))) (
  aw w198 ⟨r2, 0, none⟩ 5 /\ ∀ w271, w271 = setCells w198 ⟨r2, 0, none⟩ 0 [(.int .i64 0), (.int .i64 0), (.int .i64 0), (.int .i64 0), (Slc.v ⟨none, 0, 0⟩)] ->
  ∃ n272 : Int, ∃ n273 : Int, ∃ n274 : Int, ∃ n275 : Int, ∃ s276 : Slc, rowAt w271 ⟨r2, 0, none⟩ 0 [(.int .i64 n272), (.int .i64 n273), (.int .i64 n274), (.int .i64 n275), s276.v] /\
  K (.tuple ⟨[(.agg ⟨[(.int .i64 n272), (.int .i64 n273), (.int .i64 n274), (.int .i64 n275), s276.v]⟩), (.bool false)]⟩) w271) (
  0 <= (4 : Int) /\ (4 : Int) <= (all196.l : Int) /\ (all196.l : Int) <= (all196.c : Int) /\ (all196.c : Int) <= (all196.c : Int) /\
  Calls Tryd.prog cA ⟨[(Slc.v (Slc.sub all196 1 4 all196.l all196.c))]⟩ w198 fun e278 w279 =>
  ∃ s280, e278 = .returned (Slc.v s280) /\
  Calls Tryd.prog bP ⟨[s280.v, all196.v]⟩ w279 fun e281 w282 =>
  ∃ b283, e281 = .returned (.bool b283) /\
  BIf (!b283) (
  aw w282 ⟨r2, 0, none⟩ 5 /\ ∀ w284, w284 = setCells w282 ⟨r2, 0, none⟩ 0 [(.int .i64 0), (.int .i64 0), (.int .i64 0), (.int .i64 0), (Slc.v ⟨none, 0, 0⟩)] ->
  ∃ n285 : Int, ∃ n286 : Int, ∃ n287 : Int, ∃ n288 : Int, ∃ s289 : Slc, rowAt w284 ⟨r2, 0, none⟩ 0 [(.int .i64 n285), (.int .i64 n286), (.int .i64 n287), (.int .i64 n288), s289.v] /\
  K (.tuple ⟨[(.agg ⟨[(.int .i64 n285), (.int .i64 n286), (.int .i64 n287), (.int .i64 n288), s289.v]⟩), (.bool false)]⟩) w284) (
  0 <= (4 : Int) /\ (4 : Int) <= (all196.l : Int) /\ (all196.l : Int) <= (all196.c : Int) /\ (all196.c : Int) <= (all196.c : Int) /\
  aw w282 ⟨r170, 4, none⟩ 1 /\ ∀ w291, w291 = w282.setCell ⟨r170, 4, none⟩ (Slc.v (Slc.sub all196 1 4 all196.l all196.c)) ->
  ∃ n292 : Int, ∃ n293 : Int, ∃ n294 : Int, ∃ n295 : Int, ∃ s296 : Slc, rowAt w291 ⟨r170, 0, none⟩ 0 [(.int .i64 n292), (.int .i64 n293), (.int .i64 n294), (.int .i64 n295), s296.v] /\
  aw w291 ⟨r2, 0, none⟩ 5 /\ ∀ w297, w297 = setCells w291 ⟨r2, 0, none⟩ 0 [(.int .i64 n292), (.int .i64 n293), (.int .i64 n294), (.int .i64 n295), s296.v] ->
  ∃ n298 : Int, ∃ n299 : Int, ∃ n300 : Int, ∃ n301 : Int, ∃ s302 : Slc, rowAt w297 ⟨r2, 0, none⟩ 0 [(.int .i64 n298), (.int .i64 n299), (.int .i64 n300), (.int .i64 n301), s302.v] /\
  K (.tuple ⟨[(.agg ⟨[(.int .i64 n298), (.int .i64 n299), (.int .i64 n300), (.int .i64 n301), s302.v]⟩), (.bool true)]⟩) w297)))))))
theorem fm (g1 : Option Addr) {w : World} {R : Ending -> World -> Prop} (h : dS g1 w fun v w' => R (.returned v) w') : Calls Tryd.prog cj ⟨[(.pointer g1)]⟩ w R :=
  ae (ann := (.two .none (.two .none (.two .none (.two .none (.two (.two .none (.one (.loop [(5, Sh.slc), (42, (Sh.int .i64))] ([6, 7] ++ List.range' 43 26) .none))) .none)))))) aj mixed Tryd.func14 (Eq.mp (by kernel_rfl) h)
def ir (pages1 : Slc) (shard2 : Int) (w : World) (K : Value -> World -> Prop) : Prop :=
  aK w (.map #[] 0) fun r3 w4 =>
  ∃ (I5 : (Int) -> World -> Prop) (mu6 : (Int) -> World -> Nat), I5 ((0 : Int)) w4 /\ (
  ∀ i7 : Int, ∀ w8 : World, I5 i7 w8 -> ∀ _ _ _ _ _ _ _ _ _ _ _ _ _ _ _ _ _ _ _ _ _ _ _ _ _ _ _ _ _ _ _ _ _ _ _ _ _ _ _ _ _ _ _ _ _ _ _ _ _ _ _ _ _ _ _ _ _ _ _ _ _ _ _ _ _ _ _ : Value,
  BIf (decide (i7 < (pages1.l : Int))) (
  needSome pages1.p fun a76 =>
  0 <= i7 /\ i7 < (pages1.l : Int) /\
  ∃ n77 : Int, ∃ n78 : Int, ∃ n79 : Int, ∃ n80 : Int, ∃ n81 : Int, ∃ n82 : Int, ∃ n83 : Int, ∃ s84 : Slc, ∃ t85 : List UInt8, ∃ n86 : Int, ∃ n87 : Int, ∃ n88 : Int, ∃ s89 : Slc, ∃ s90 : Slc, ∃ b91 : Bool, rowAt w8 (Addr.add a76 ((Int.toNat i7) * 15)) 0 [(.int .i64 n77), (.int .i64 n78), (.int .i64 n79), (.int .i64 n80), (.int .i64 n81), (.int .i64 n82), (.int .i64 n83), s84.v, (aq t85), (.int .i64 n86), (.int .i64 n87), (.int .i64 n88), s89.v, s90.v, (.bool b91)] /\
  aK w8 (.cells ⟨[(.int .i64 0), (.int .i64 0), (.int .i64 0), (.int .i64 0), (.int .i64 0), (.int .i64 0), (.int .i64 0), (Slc.v ⟨none, 0, 0⟩), (aq ([] : List UInt8)), (.int .i64 0), (.int .i64 0), (.int .i64 0), (Slc.v ⟨none, 0, 0⟩), (Slc.v ⟨none, 0, 0⟩), (.bool false)]⟩ 54) fun r92 w93 =>
  aw w93 ⟨r92, 0, none⟩ 15 /\ ∀ w94, w94 = setCells w93 ⟨r92, 0, none⟩ 0 [(.int .i64 n77), (.int .i64 n78), (.int .i64 n79), (.int .i64 n80), (.int .i64 n81), (.int .i64 n82), (.int .i64 n83), s84.v, (aq t85), (.int .i64 n86), (.int .i64 n87), (.int .i64 n88), s89.v, s90.v, (.bool b91)] ->
  ∃ n95 : Int, ∃ n96 : Int, ∃ n97 : Int, ∃ n98 : Int, ∃ n99 : Int, ∃ n100 : Int, ∃ s101 : Slc, ∃ t102 : List UInt8, ∃ n103 : Int, ∃ n104 : Int, ∃ n105 : Int, ∃ s106 : Slc, rowAt w94 ⟨r92, 1, none⟩ 0 [(.int .i64 n95), (.int .i64 n96), (.int .i64 n97), (.int .i64 n98), (.int .i64 n99), (.int .i64 n100), s101.v, (aq t102), (.int .i64 n103), (.int .i64 n104), (.int .i64 n105), s106.v] /\
  aK w94 (.cells ⟨[(.int .i64 0), (.int .i64 0), (.int .i64 0), (.int .i64 0), (.int .i64 0), (.int .i64 0), (Slc.v ⟨none, 0, 0⟩), (aq ([] : List UInt8)), (.int .i64 0), (.int .i64 0), (.int .i64 0), (Slc.v ⟨none, 0, 0⟩)]⟩ 50) fun r107 w108 =>
  aw w108 ⟨r107, 0, none⟩ 12 /\ ∀ w109, w109 = setCells w108 ⟨r107, 0, none⟩ 0 [(.int .i64 n95), (.int .i64 n96), (.int .i64 n97), (.int .i64 n98), (.int .i64 n99), (.int .i64 n100), s101.v, (aq t102), (.int .i64 n103), (.int .i64 n104), (.int .i64 n105), s106.v] ->
  ∃ J110 : World -> Prop,
  (
  ∃ b111, w109.cell? ⟨r92, 14, none⟩ = some (.bool b111) /\
  BIf b111 (
  inR .i64 (i7 + 1) /\
  (I5 ((i7 + 1)) w109 /\ mu6 ((i7 + 1)) w109 < mu6 i7 w8)) (
  ∃ n112, w109.cell? ⟨r107, 0, none⟩ = some (.int .i64 n112) /\
  BIf (!decide (n112 = 5)) (
  inR .i64 (i7 + 1) /\
  (I5 ((i7 + 1)) w109 /\ mu6 ((i7 + 1)) w109 < mu6 i7 w8)) (
  ∃ n113, w109.cell? ⟨r107, 1, none⟩ = some (.int .i64 n113) /\
  BIf (!decide (n113 = shard2)) (
  inR .i64 (i7 + 1) /\
  (I5 ((i7 + 1)) w109 /\ mu6 ((i7 + 1)) w109 < mu6 i7 w8)) (
  ∃ n114 : Int, ∃ n115 : Int, ∃ n116 : Int, ∃ n117 : Int, ∃ n118 : Int, ∃ n119 : Int, ∃ s120 : Slc, ∃ t121 : List UInt8, ∃ n122 : Int, ∃ n123 : Int, ∃ n124 : Int, ∃ s125 : Slc, rowAt w109 ⟨r107, 0, none⟩ 0 [(.int .i64 n114), (.int .i64 n115), (.int .i64 n116), (.int .i64 n117), (.int .i64 n118), (.int .i64 n119), s120.v, (aq t121), (.int .i64 n122), (.int .i64 n123), (.int .i64 n124), s125.v] /\
  Calls Tryd.prog ey ⟨[(.agg ⟨[(.int .i64 n114), (.int .i64 n115), (.int .i64 n116), (.int .i64 n117), (.int .i64 n118), (.int .i64 n119), s120.v, (aq t121), (.int .i64 n122), (.int .i64 n123), (.int .i64 n124), s125.v]⟩)]⟩ w109 fun e126 w127 =>
  ∃ b128, e126 = .returned (.bool b128) /\
  BIf (!b128) (
  inR .i64 (i7 + 1) /\
  (I5 ((i7 + 1)) w127 /\ mu6 ((i7 + 1)) w127 < mu6 i7 w8)) (
  J110 w127))))) /\ (
  ∀ w129 : World, J110 w129 -> ∀ _ _ _ _ _ _ _ _ _ _ _ _ _ _ _ _ _ _ : Value,
  ∃ n148, w129.cell? ⟨r107, 8, none⟩ = some (.int .i64 n148) /\
  ∃ n149, w129.cell? ⟨r107, 10, none⟩ = some (.int .i64 n149) /\
  aK w129 (.cells ⟨[(.int .i64 0), (.int .i64 0)]⟩ 64) fun r150 w151 =>
  aw w151 ⟨r150, 0, none⟩ 2 /\ ∀ w152, w152 = setCells w151 ⟨r150, 0, none⟩ 0 [(.int .i64 n148), (.int .i64 n149)] ->
  ∃ J153 : World -> Prop,
  (
  ∃ n154 : Int, ∃ n155 : Int, rowAt w152 ⟨r150, 0, none⟩ 0 [(.int .i64 n154), (.int .i64 n155)] /\
  ∃ es156 : Array MapEntry, mapIs w152 (some r3) es156 /\
  eu Tryd.prog 64 (.agg ⟨[(.int .i64 n154), (.int .i64 n155)]⟩) es156 /\
  ∃ q157 : Option (Option Addr), kB (.agg ⟨[(.int .i64 n154), (.int .i64 n155)]⟩) es156 (Option.map (Sh.v Sh.ptr) q157) /\
  BIf (Option.isNone ((Option.getD q157 none) : Option Addr)) (
  ∃ n158 : Int, ∃ n159 : Int, rowAt w152 ⟨r150, 0, none⟩ 0 [(.int .i64 n158), (.int .i64 n159)] /\
  ∃ n160 : Int, ∃ n161 : Int, rowAt w152 ⟨r150, 0, none⟩ 0 [(.int .i64 n160), (.int .i64 n161)] /\
  aK w152 (.map #[] 0) fun r162 w163 =>
  aK w163 (.cells ⟨[(.int .i64 n160), (.int .i64 n161), (Value.map (some r162))]⟩ 80) fun r164 w165 =>
  ∃ (mb166 : Nat) (es167 : Array MapEntry) (ck168 : Nat) (es169 : Array MapEntry) (ck170 : Nat), (some r3) = some mb166 /\ (World.heap (w165))[mb166]? = some (.map es167 ck168) /\ eu Tryd.prog 64 (.agg ⟨[(.int .i64 n158), (.int .i64 n159)]⟩) es167 /\ rm (.agg ⟨[(.int .i64 n158), (.int .i64 n159)]⟩) (.pointer (some ⟨r164, 0, none⟩)) es167 ck168 es169 ck170 /\ ∀ w171, w171 = aQ w165 mb166 (.map es169 ck170) ->
  J153 w171) (
  J153 w152)) /\ (
  ∀ w172 : World, J153 w172 -> ∀ _ _ _ _ _ _ _ _ _ _ : Value,
  ∃ n183 : Int, ∃ n184 : Int, rowAt w172.drew ⟨r150, 0, none⟩ 0 [(.int .i64 n183), (.int .i64 n184)] /\
  ∃ es185 : Array MapEntry, mapIs w172.drew (some r3) es185 /\
  eu Tryd.prog 64 (.agg ⟨[(.int .i64 n183), (.int .i64 n184)]⟩) es185 /\
  ∃ q186 : Option (Option Addr), kB (.agg ⟨[(.int .i64 n183), (.int .i64 n184)]⟩) es185 (Option.map (Sh.v Sh.ptr) q186) /\
  needSome (Option.getD q186 none) fun a187 =>
  ∃ m188 : Option Nat, w172.drew.cell? (a187.add 2) = some (Value.map m188) /\
  ∃ n189, w172.drew.cell? ⟨r107, 9, none⟩ = some (.int .i64 n189) /\
  ∃ es190 : Array MapEntry, mapIs w172.drew m188 es190 /\
  ((bw (.int .i64) (.int .i64 n189) es190 = some none /\
  aK w172.drew (.cells ⟨[(.int .i64 0), (.int .i64 0), (.int .i64 0), (.int .i64 0), (.int .i64 0), (.int .i64 0), (.int .i64 0), (Slc.v ⟨none, 0, 0⟩), (aq ([] : List UInt8)), (.int .i64 0), (.int .i64 0), (.int .i64 0), (Slc.v ⟨none, 0, 0⟩), (Slc.v ⟨none, 0, 0⟩), (.bool false)]⟩ 54) fun r206 w207 =>
  (∃ es208 : Array MapEntry, mapIs w207 m188 es208 /\
  ((bw (.int .i64) (.int .i64 n189) es208 = some none /\
  (Value.tuple ⟨[(Value.agg ⟨[(Value.int .i64 0), (Value.int .i64 0), (Value.int .i64 0), (Value.int .i64 0), (Value.int .i64 0), (Value.int .i64 0), (Value.int .i64 0), (Slc.v ⟨none, 0, 0⟩), (aq ([] : List UInt8)), (Value.int .i64 0), (Value.int .i64 0), (Value.int .i64 0), (Slc.v ⟨none, 0, 0⟩), (Slc.v ⟨none, 0, 0⟩), (Value.bool false)]⟩), (Value.bool false)]⟩) = (Value.tuple ⟨[(Value.agg ⟨[(Value.int .i64 0), (Value.int .i64 0), (Value.int .i64 0), (Value.int .i64 0), (Value.int .i64 0), (Value.int .i64 0), (Value.int .i64 0), (Slc.v ⟨none, 0, 0⟩), (aq ([] : List UInt8)), (Value.int .i64 0), (Value.int .i64 0), (Value.int .i64 0), (Slc.v ⟨none, 0, 0⟩), (Slc.v ⟨none, 0, 0⟩), (Value.bool false)]⟩), (Value.bool false)]⟩)) \/
  (∃ x209 : Int, ∃ x210 : Int, ∃ x211 : Int, ∃ x212 : Int, ∃ x213 : Int, ∃ x214 : Int, ∃ x215 : Int, ∃ x216 : Slc, ∃ x217 : List UInt8, ∃ x218 : Int, ∃ x219 : Int, ∃ x220 : Int, ∃ x221 : Slc, ∃ x222 : Slc, ∃ x223 : Bool, bw (.int .i64) (.int .i64 n189) es208 = some (some (.agg ⟨[(.int .i64 x209), (.int .i64 x210), (.int .i64 x211), (.int .i64 x212), (.int .i64 x213), (.int .i64 x214), (.int .i64 x215), x216.v, (aq x217), (.int .i64 x218), (.int .i64 x219), (.int .i64 x220), x221.v, x222.v, (.bool x223)]⟩)) /\
  (Value.tuple ⟨[(Value.agg ⟨[(Value.int .i64 x209), (Value.int .i64 x210), (Value.int .i64 x211), (Value.int .i64 x212), (Value.int .i64 x213), (Value.int .i64 x214), (Value.int .i64 x215), x216.v, (aq x217), (Value.int .i64 x218), (Value.int .i64 x219), (Value.int .i64 x220), x221.v, x222.v, (Value.bool x223)]⟩), (Value.bool true)]⟩) = (Value.tuple ⟨[(Value.agg ⟨[(Value.int .i64 0), (Value.int .i64 0), (Value.int .i64 0), (Value.int .i64 0), (Value.int .i64 0), (Value.int .i64 0), (Value.int .i64 0), (Slc.v ⟨none, 0, 0⟩), (aq ([] : List UInt8)), (Value.int .i64 0), (Value.int .i64 0), (Value.int .i64 0), (Slc.v ⟨none, 0, 0⟩), (Slc.v ⟨none, 0, 0⟩), (Value.bool false)]⟩), (Value.bool false)]⟩)))) /\
  (ckIx .i64 (w207.cell? ⟨r107, 9, none⟩) n189) /\
  (∃ m225 : Option Nat, w207.cell? (a187.add 2) = some (Value.map m225) /\
  (Value.map m225) = (Value.map m188)) /\
  (∃ es226 : Array MapEntry, mapIs w207 (some r3) es226 /\
  eu Tryd.prog 64 (.agg ⟨[(.int .i64 n183), (.int .i64 n184)]⟩) es226 /\
  ∃ q227 : Option (Option Addr), kB (.agg ⟨[(.int .i64 n183), (.int .i64 n184)]⟩) es226 (Option.map (Sh.v Sh.ptr) q227) /\
  (Value.pointer (Option.getD q227 none)) = (Value.pointer (Option.getD q186 none))) /\
  (∃ n228 : Int, ∃ n229 : Int, rowAt w207 ⟨r150, 0, none⟩ 0 [(.int .i64 n228), (.int .i64 n229)] /\
  (Value.agg ⟨[(Value.int .i64 n228), (Value.int .i64 n229)]⟩) = (Value.agg ⟨[(Value.int .i64 n183), (Value.int .i64 n184)]⟩)) /\
  aw w207 ⟨r206, 0, none⟩ 15 /\ ∀ w230, w230 = setCells w207 ⟨r206, 0, none⟩ 0 [(.int .i64 0), (.int .i64 0), (.int .i64 0), (.int .i64 0), (.int .i64 0), (.int .i64 0), (.int .i64 0), (Slc.v ⟨none, 0, 0⟩), (aq ([] : List UInt8)), (.int .i64 0), (.int .i64 0), (.int .i64 0), (Slc.v ⟨none, 0, 0⟩), (Slc.v ⟨none, 0, 0⟩), (.bool false)] ->
  ∃ n231 : Int, ∃ n232 : Int, rowAt w230.drew ⟨r150, 0, none⟩ 0 [(.int .i64 n231), (.int .i64 n232)] /\
  ∃ es233 : Array MapEntry, mapIs w230.drew (some r3) es233 /\
  eu Tryd.prog 64 (.agg ⟨[(.int .i64 n231), (.int .i64 n232)]⟩) es233 /\
  ∃ q234 : Option (Option Addr), kB (.agg ⟨[(.int .i64 n231), (.int .i64 n232)]⟩) es233 (Option.map (Sh.v Sh.ptr) q234) /\
  needSome (Option.getD q234 none) fun a235 =>
  ∃ m236 : Option Nat, w230.drew.cell? (a235.add 2) = some (Value.map m236) /\
  ∃ n237, w230.drew.cell? ⟨r107, 9, none⟩ = some (.int .i64 n237) /\
  ∃ n238 : Int, ∃ n239 : Int, ∃ n240 : Int, ∃ n241 : Int, ∃ n242 : Int, ∃ n243 : Int, ∃ n244 : Int, ∃ s245 : Slc, ∃ t246 : List UInt8, ∃ n247 : Int, ∃ n248 : Int, ∃ n249 : Int, ∃ s250 : Slc, ∃ s251 : Slc, ∃ b252 : Bool, rowAt w230.drew ⟨r92, 0, none⟩ 0 [(.int .i64 n238), (.int .i64 n239), (.int .i64 n240), (.int .i64 n241), (.int .i64 n242), (.int .i64 n243), (.int .i64 n244), s245.v, (aq t246), (.int .i64 n247), (.int .i64 n248), (.int .i64 n249), s250.v, s251.v, (.bool b252)] /\
  ∃ (mb253 : Nat) (es254 : Array MapEntry) (ck255 : Nat) (es256 : Array MapEntry) (ck257 : Nat), m236 = some mb253 /\ (World.heap (w230.drew))[mb253]? = some (.map es254 ck255) /\ mapPut (.int .i64) (.int .i64 n237) (.agg ⟨[(.int .i64 n238), (.int .i64 n239), (.int .i64 n240), (.int .i64 n241), (.int .i64 n242), (.int .i64 n243), (.int .i64 n244), s245.v, (aq t246), (.int .i64 n247), (.int .i64 n248), (.int .i64 n249), s250.v, s251.v, (.bool b252)]⟩) es254 ck255 = some (es256, ck257) /\ ∀ w258, w258 = aQ w230.drew mb253 (.map es256 ck257) ->
  inR .i64 (i7 + 1) /\
  (I5 ((i7 + 1)) w258 /\ mu6 ((i7 + 1)) w258 < mu6 i7 w8)) \/
  (∃ x191 : Int, ∃ x192 : Int, ∃ x193 : Int, ∃ x194 : Int, ∃ x195 : Int, ∃ x196 : Int, ∃ x197 : Int, ∃ x198 : Slc, ∃ x199 : List UInt8, ∃ x200 : Int, ∃ x201 : Int, ∃ x202 : Int, ∃ x203 : Slc, ∃ x204 : Slc, ∃ x205 : Bool, bw (.int .i64) (.int .i64 n189) es190 = some (some (.agg ⟨[(.int .i64 x191), (.int .i64 x192), (.int .i64 x193), (.int .i64 x194), (.int .i64 x195), (.int .i64 x196), (.int .i64 x197), x198.v, (aq x199), (.int .i64 x200), (.int .i64 x201), (.int .i64 x202), x203.v, x204.v, (.bool x205)]⟩)) /\
  aK w172.drew (.cells ⟨[(.int .i64 0), (.int .i64 0), (.int .i64 0), (.int .i64 0), (.int .i64 0), (.int .i64 0), (.int .i64 0), (Slc.v ⟨none, 0, 0⟩), (aq ([] : List UInt8)), (.int .i64 0), (.int .i64 0), (.int .i64 0), (Slc.v ⟨none, 0, 0⟩), (Slc.v ⟨none, 0, 0⟩), (.bool false)]⟩ 54) fun r259 w260 =>
  (∃ es261 : Array MapEntry, mapIs w260 m188 es261 /\
  ((bw (.int .i64) (.int .i64 n189) es261 = some none /\
  (Value.tuple ⟨[(Value.agg ⟨[(Value.int .i64 0), (Value.int .i64 0), (Value.int .i64 0), (Value.int .i64 0), (Value.int .i64 0), (Value.int .i64 0), (Value.int .i64 0), (Slc.v ⟨none, 0, 0⟩), (aq ([] : List UInt8)), (Value.int .i64 0), (Value.int .i64 0), (Value.int .i64 0), (Slc.v ⟨none, 0, 0⟩), (Slc.v ⟨none, 0, 0⟩), (Value.bool false)]⟩), (Value.bool false)]⟩) = (Value.tuple ⟨[(Value.agg ⟨[(Value.int .i64 x191), (Value.int .i64 x192), (Value.int .i64 x193), (Value.int .i64 x194), (Value.int .i64 x195), (Value.int .i64 x196), (Value.int .i64 x197), x198.v, (aq x199), (Value.int .i64 x200), (Value.int .i64 x201), (Value.int .i64 x202), x203.v, x204.v, (Value.bool x205)]⟩), (Value.bool true)]⟩)) \/
  (∃ x262 : Int, ∃ x263 : Int, ∃ x264 : Int, ∃ x265 : Int, ∃ x266 : Int, ∃ x267 : Int, ∃ x268 : Int, ∃ x269 : Slc, ∃ x270 : List UInt8, ∃ x271 : Int, ∃ x272 : Int, ∃ x273 : Int, ∃ x274 : Slc, ∃ x275 : Slc, ∃ x276 : Bool, bw (.int .i64) (.int .i64 n189) es261 = some (some (.agg ⟨[(.int .i64 x262), (.int .i64 x263), (.int .i64 x264), (.int .i64 x265), (.int .i64 x266), (.int .i64 x267), (.int .i64 x268), x269.v, (aq x270), (.int .i64 x271), (.int .i64 x272), (.int .i64 x273), x274.v, x275.v, (.bool x276)]⟩)) /\
  (Value.tuple ⟨[(Value.agg ⟨[(Value.int .i64 x262), (Value.int .i64 x263), (Value.int .i64 x264), (Value.int .i64 x265), (Value.int .i64 x266), (Value.int .i64 x267), (Value.int .i64 x268), x269.v, (aq x270), (Value.int .i64 x271), (Value.int .i64 x272), (Value.int .i64 x273), x274.v, x275.v, (Value.bool x276)]⟩), (Value.bool true)]⟩) = (Value.tuple ⟨[(Value.agg ⟨[(Value.int .i64 x191), (Value.int .i64 x192), (Value.int .i64 x193), (Value.int .i64 x194), (Value.int .i64 x195), (Value.int .i64 x196), (Value.int .i64 x197), x198.v, (aq x199), (Value.int .i64 x200), (Value.int .i64 x201), (Value.int .i64 x202), x203.v, x204.v, (Value.bool x205)]⟩), (Value.bool true)]⟩)))) /\
  (ckIx .i64 (w260.cell? ⟨r107, 9, none⟩) n189) /\
  (∃ m278 : Option Nat, w260.cell? (a187.add 2) = some (Value.map m278) /\
  (Value.map m278) = (Value.map m188)) /\
  (∃ es279 : Array MapEntry, mapIs w260 (some r3) es279 /\
  eu Tryd.prog 64 (.agg ⟨[(.int .i64 n183), (.int .i64 n184)]⟩) es279 /\
  ∃ q280 : Option (Option Addr), kB (.agg ⟨[(.int .i64 n183), (.int .i64 n184)]⟩) es279 (Option.map (Sh.v Sh.ptr) q280) /\
  (Value.pointer (Option.getD q280 none)) = (Value.pointer (Option.getD q186 none))) /\
  (∃ n281 : Int, ∃ n282 : Int, rowAt w260 ⟨r150, 0, none⟩ 0 [(.int .i64 n281), (.int .i64 n282)] /\
  (Value.agg ⟨[(Value.int .i64 n281), (Value.int .i64 n282)]⟩) = (Value.agg ⟨[(Value.int .i64 n183), (Value.int .i64 n184)]⟩)) /\
  aw w260 ⟨r259, 0, none⟩ 15 /\ ∀ w283, w283 = setCells w260 ⟨r259, 0, none⟩ 0 [(.int .i64 x191), (.int .i64 x192), (.int .i64 x193), (.int .i64 x194), (.int .i64 x195), (.int .i64 x196), (.int .i64 x197), x198.v, (aq x199), (.int .i64 x200), (.int .i64 x201), (.int .i64 x202), x203.v, x204.v, (.bool x205)] ->
  inR .i64 (i7 + 1) /\
  (I5 ((i7 + 1)) w283 /\ mu6 ((i7 + 1)) w283 < mu6 i7 w8)))))) (
  K (Value.map (some r3)) w8))
theorem jh (pages1 : Slc) (shard2 : Int) {w : World} {R : Ending -> World -> Prop} (h : ir pages1 shard2 w fun v w' => R (.returned v) w') : Calls Tryd.prog ec ⟨[pages1.v, (.int .i64 shard2)]⟩ w R :=
  ae (ann := (.two .none (.two .none (.two (.two .none (.one (.loop [(15, (Sh.int .i64))] ([7, 8, 9, 10, 11] ++ List.range' 16 62) (.two .none (.two .none (.two (.one (.two .none (.two .none (.cut [] (List.range' 21 18) .none (.two .none (.cut [] (List.range' 44 10) .none .none)))))) .none)))))) .none)))) aj mixed Tryd.func13 (Eq.mp (by kernel_rfl) h)
end Go.D

