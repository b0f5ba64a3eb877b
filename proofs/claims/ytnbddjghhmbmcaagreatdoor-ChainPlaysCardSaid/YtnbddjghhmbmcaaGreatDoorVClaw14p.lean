/-
  WHAT IS PROVED: verification conditions of functions of this program, each with its soundness. No further conditions.
-/
import Derived.Test.YtnbddjghhmbmcaaGreatDoorBase
set_option linter.unusedSimpArgs false
set_option maxRecDepth 100000
set_option linter.unusedVariables false
namespace Go.D
open Go Go.Proofs
def jj (x1 : Option Addr) (a2 : Int) (a3 : Int) (a4 : Int) (a5 : List UInt8) (w : World) (K : Value -> World -> Prop) : Prop :=
  aA w (.cells ⟨[(.int .i64 a2), (.int .i64 a3), (.int .i64 a4), (dA a5)]⟩ 40) fun r6 w7 =>
  ∃ n8, w7.cell? ⟨r6, 2, none⟩ = some (.int .i64 n8) /\
  0 <= (IntKind.wrap .u64 n8) /\ 0 < (6 : Int) /\
  ∃ n9, w7.cell? ⟨r6, 0, none⟩ = some (.int .i64 n9) /\
  BIf (decide (n9 = 0)) (
  needSome x1 fun a10 =>
  ∃ s11, w7.drew.cell? a10 = some (Slc.v s11) /\
  needSome x1 fun a12 =>
  ∃ n13 : Int, ∃ s14 : Slc, rowAt w7.drew (a12.add 4) 0 [(.int .i64 n13), s14.v] /\
  ∃ n15, w7.drew.cell? ⟨r6, 1, none⟩ = some (.int .i64 n15) /\
  ∃ n16, w7.drew.cell? ⟨r6, 2, none⟩ = some (.int .i64 n16) /\
  ∃ t17 : List UInt8, w7.drew.cell? ⟨r6, 3, none⟩ = some (dA t17) /\
  needSome x1 fun a18 =>
  ∃ s19, w7.drew.cell? (a18.add 2) = some (Slc.v s19) /\
  needSome x1 fun a20 =>
  ∃ n21 : Int, ∃ s22 : Slc, rowAt w7.drew (a20.add 6) 0 [(.int .i64 n21), s22.v] /\
  ∃ n23, w7.drew.cell? ⟨r6, 1, none⟩ = some (.int .i64 n23) /\
  ∃ n24, w7.drew.cell? ⟨r6, 2, none⟩ = some (.int .i64 n24) /\
  ∃ t25 : List UInt8, w7.drew.cell? ⟨r6, 3, none⟩ = some (dA t25) /\
  (
  dD Tryz.prog 5 t17 w7.drew fun s26 w27 =>
  (ckTx (w27.cell? ⟨r6, 3, none⟩) t25) /\
  (ckIx .i64 (w27.cell? ⟨r6, 2, none⟩) n24) /\
  (ckIx .i64 (w27.cell? ⟨r6, 1, none⟩) n23) /\
  (ckRx w27 (a20.add 6) n21 s22) /\
  (ckSx (w27.cell? (a18.add 2)) s19) /\
  (ckIx .i64 (w27.cell? ⟨r6, 2, none⟩) n16) /\
  (ckIx .i64 (w27.cell? ⟨r6, 1, none⟩) n15) /\
  (ckRx w27 (a12.add 4) n13 s14) /\
  (ckSx (w27.cell? a10) s11) /\
  (
  Calls Tryz.prog fV ⟨[s11.v, (.agg ⟨[(.int .i64 n13), s14.v]⟩), (.int .i64 n15), (.int .i64 n16), (Slc.v s26)]⟩ w27 fun e39 w40 =>
  ∃ e41, e39 = .returned e41 /\
  (ckTx (w40.cell? ⟨r6, 3, none⟩) t25) /\
  (ckIx .i64 (w40.cell? ⟨r6, 2, none⟩) n24) /\
  (ckIx .i64 (w40.cell? ⟨r6, 1, none⟩) n23) /\
  (ckRx w40 (a20.add 6) n21 s22) /\
  (ckSx (w40.cell? (a18.add 2)) s19) /\
  (
  Calls Tryz.prog az ⟨[e41]⟩ w40 fun e48 w49 =>
  ∃ n50, e48 = .returned (.int .i64 n50) /\
  (ckTx (w49.cell? ⟨r6, 3, none⟩) t25) /\
  (ckIx .i64 (w49.cell? ⟨r6, 2, none⟩) n24) /\
  (ckIx .i64 (w49.cell? ⟨r6, 1, none⟩) n23) /\
  (ckRx w49 (a20.add 6) n21 s22) /\
  (ckSx (w49.cell? (a18.add 2)) s19) /\
  dD Tryz.prog 5 t25 w49 fun s57 w58 =>
  (ckIx .i64 (w58.cell? ⟨r6, 2, none⟩) n24) /\
  (ckIx .i64 (w58.cell? ⟨r6, 1, none⟩) n23) /\
  (ckRx w58 (a20.add 6) n21 s22) /\
  (ckSx (w58.cell? (a18.add 2)) s19) /\
  Calls Tryz.prog bn ⟨[s19.v, (.agg ⟨[(.int .i64 n21), s22.v]⟩), (.int .i64 n23), (.int .i64 n24), (Slc.v s57)]⟩ w58 fun e64 w65 =>
  ∃ n66, e64 = .returned (.int .i64 n66) /\
  K (.bool (decide (n50 = n66))) w65) /\
  (
  dD Tryz.prog 5 t25 w40 fun s67 w68 =>
  (ckIx .i64 (w68.cell? ⟨r6, 2, none⟩) n24) /\
  (ckIx .i64 (w68.cell? ⟨r6, 1, none⟩) n23) /\
  (ckRx w68 (a20.add 6) n21 s22) /\
  (ckSx (w68.cell? (a18.add 2)) s19) /\
  Calls Tryz.prog az ⟨[e41]⟩ w68 fun e74 w75 =>
  ∃ n76, e74 = .returned (.int .i64 n76) /\
  (ckIx .i64 (w75.cell? ⟨r6, 2, none⟩) n24) /\
  (ckIx .i64 (w75.cell? ⟨r6, 1, none⟩) n23) /\
  (ckRx w75 (a20.add 6) n21 s22) /\
  (ckSx (w75.cell? (a18.add 2)) s19) /\
  Calls Tryz.prog bn ⟨[s19.v, (.agg ⟨[(.int .i64 n21), s22.v]⟩), (.int .i64 n23), (.int .i64 n24), (Slc.v s67)]⟩ w75 fun e82 w83 =>
  ∃ n84, e82 = .returned (.int .i64 n84) /\
  K (.bool (decide (n76 = n84))) w83)) /\
  (
  dD Tryz.prog 5 t25 w27 fun s85 w86 =>
  (ckIx .i64 (w86.cell? ⟨r6, 2, none⟩) n24) /\
  (ckIx .i64 (w86.cell? ⟨r6, 1, none⟩) n23) /\
  (ckRx w86 (a20.add 6) n21 s22) /\
  (ckSx (w86.cell? (a18.add 2)) s19) /\
  (ckIx .i64 (w86.cell? ⟨r6, 2, none⟩) n16) /\
  (ckIx .i64 (w86.cell? ⟨r6, 1, none⟩) n15) /\
  (ckRx w86 (a12.add 4) n13 s14) /\
  (ckSx (w86.cell? a10) s11) /\
  Calls Tryz.prog fV ⟨[s11.v, (.agg ⟨[(.int .i64 n13), s14.v]⟩), (.int .i64 n15), (.int .i64 n16), s26.v]⟩ w86 fun e97 w98 =>
  ∃ e99, e97 = .returned e99 /\
  (ckIx .i64 (w98.cell? ⟨r6, 2, none⟩) n24) /\
  (ckIx .i64 (w98.cell? ⟨r6, 1, none⟩) n23) /\
  (ckRx w98 (a20.add 6) n21 s22) /\
  (ckSx (w98.cell? (a18.add 2)) s19) /\
  Calls Tryz.prog az ⟨[e99]⟩ w98 fun e105 w106 =>
  ∃ n107, e105 = .returned (.int .i64 n107) /\
  (ckIx .i64 (w106.cell? ⟨r6, 2, none⟩) n24) /\
  (ckIx .i64 (w106.cell? ⟨r6, 1, none⟩) n23) /\
  (ckRx w106 (a20.add 6) n21 s22) /\
  (ckSx (w106.cell? (a18.add 2)) s19) /\
  Calls Tryz.prog bn ⟨[s19.v, (.agg ⟨[(.int .i64 n21), s22.v]⟩), (.int .i64 n23), (.int .i64 n24), (Slc.v s85)]⟩ w106 fun e113 w114 =>
  ∃ n115, e113 = .returned (.int .i64 n115) /\
  K (.bool (decide (n107 = n115))) w114)) /\
  (
  dD Tryz.prog 5 t25 w7.drew fun s116 w117 =>
  (ckIx .i64 (w117.cell? ⟨r6, 2, none⟩) n24) /\
  (ckIx .i64 (w117.cell? ⟨r6, 1, none⟩) n23) /\
  (ckRx w117 (a20.add 6) n21 s22) /\
  (ckSx (w117.cell? (a18.add 2)) s19) /\
  (ckTx (w117.cell? ⟨r6, 3, none⟩) t17) /\
  (ckIx .i64 (w117.cell? ⟨r6, 2, none⟩) n16) /\
  (ckIx .i64 (w117.cell? ⟨r6, 1, none⟩) n15) /\
  (ckRx w117 (a12.add 4) n13 s14) /\
  (ckSx (w117.cell? a10) s11) /\
  dD Tryz.prog 5 t17 w117 fun s129 w130 =>
  (ckIx .i64 (w130.cell? ⟨r6, 2, none⟩) n24) /\
  (ckIx .i64 (w130.cell? ⟨r6, 1, none⟩) n23) /\
  (ckRx w130 (a20.add 6) n21 s22) /\
  (ckSx (w130.cell? (a18.add 2)) s19) /\
  (ckIx .i64 (w130.cell? ⟨r6, 2, none⟩) n16) /\
  (ckIx .i64 (w130.cell? ⟨r6, 1, none⟩) n15) /\
  (ckRx w130 (a12.add 4) n13 s14) /\
  (ckSx (w130.cell? a10) s11) /\
  Calls Tryz.prog fV ⟨[s11.v, (.agg ⟨[(.int .i64 n13), s14.v]⟩), (.int .i64 n15), (.int .i64 n16), (Slc.v s129)]⟩ w130 fun e141 w142 =>
  ∃ e143, e141 = .returned e143 /\
  (ckIx .i64 (w142.cell? ⟨r6, 2, none⟩) n24) /\
  (ckIx .i64 (w142.cell? ⟨r6, 1, none⟩) n23) /\
  (ckRx w142 (a20.add 6) n21 s22) /\
  (ckSx (w142.cell? (a18.add 2)) s19) /\
  Calls Tryz.prog az ⟨[e143]⟩ w142 fun e149 w150 =>
  ∃ n151, e149 = .returned (.int .i64 n151) /\
  (ckIx .i64 (w150.cell? ⟨r6, 2, none⟩) n24) /\
  (ckIx .i64 (w150.cell? ⟨r6, 1, none⟩) n23) /\
  (ckRx w150 (a20.add 6) n21 s22) /\
  (ckSx (w150.cell? (a18.add 2)) s19) /\
  Calls Tryz.prog bn ⟨[s19.v, (.agg ⟨[(.int .i64 n21), s22.v]⟩), (.int .i64 n23), (.int .i64 n24), (Slc.v s116)]⟩ w150 fun e157 w158 =>
  ∃ n159, e157 = .returned (.int .i64 n159) /\
  K (.bool (decide (n151 = n159))) w158)) (
  BIf (decide (n9 = 1)) (
  ∃ J160 : World -> Prop,
  (
  needSome x1 fun a161 =>
  ∃ n162 : Int, ∃ s163 : Slc, rowAt w7.drew (a161.add 4) 0 [(.int .i64 n162), s163.v] /\
  Calls Tryz.prog dJ ⟨[(.agg ⟨[(.int .i64 n162), s163.v]⟩)]⟩ w7.drew fun e164 w165 =>
  ∃ b166, e164 = .returned (.bool b166) /\
  BIf b166 (
  needSome x1 fun a167 =>
  ∃ s168, w165.cell? a167 = some (Slc.v s168) /\
  needSome x1 fun a169 =>
  ∃ n170, w165.cell? (a169.add 4) = some (.int .i64 n170) /\
  needSome x1 fun a171 =>
  ∃ s172, w165.cell? ((a171.add 4).add 1) = some (Slc.v s172) /\
  needSome s172.p fun a173 =>
  0 <= (0 : Int) /\ (0 : Int) < (s172.l : Int) /\
  ∃ s174, w165.cell? a173 = some (Slc.v s174) /\
  ∃ t175 : List UInt8, w165.cell? ⟨r6, 3, none⟩ = some (dA t175) /\
  needSome x1 fun a176 =>
  ∃ s177, w165.cell? (a176.add 2) = some (Slc.v s177) /\
  needSome x1 fun a178 =>
  ∃ n179, w165.cell? (a178.add 6) = some (.int .i64 n179) /\
  needSome x1 fun a180 =>
  ∃ s181, w165.cell? ((a180.add 6).add 1) = some (Slc.v s181) /\
  needSome s181.p fun a182 =>
  0 <= (0 : Int) /\ (0 : Int) < (s181.l : Int) /\
  ∃ s183, w165.cell? a182 = some (Slc.v s183) /\
  ∃ t184 : List UInt8, w165.cell? ⟨r6, 3, none⟩ = some (dA t184) /\
  (
  dD Tryz.prog 5 t175 w165 fun s185 w186 =>
  (ckTx (w186.cell? ⟨r6, 3, none⟩) t184) /\
  (ckSx (w186.cell? a182) s183) /\
  (ckSx (w186.cell? ((a180.add 6).add 1)) s181) /\
  (ckIx .i64 (w186.cell? (a178.add 6)) n179) /\
  (ckSx (w186.cell? (a176.add 2)) s177) /\
  (ckSx (w186.cell? a173) s174) /\
  (ckSx (w186.cell? ((a171.add 4).add 1)) s172) /\
  (ckIx .i64 (w186.cell? (a169.add 4)) n170) /\
  (ckSx (w186.cell? a167) s168) /\
  (
  Calls Tryz.prog bS ⟨[s168.v, (.int .i64 n170), s174.v, (.int .i64 5), (Slc.v s185)]⟩ w186 fun e196 w197 =>
  ∃ e198, e196 = .returned e198 /\
  (ckTx (w197.cell? ⟨r6, 3, none⟩) t184) /\
  (ckSx (w197.cell? a182) s183) /\
  (ckSx (w197.cell? ((a180.add 6).add 1)) s181) /\
  (ckIx .i64 (w197.cell? (a178.add 6)) n179) /\
  (ckSx (w197.cell? (a176.add 2)) s177) /\
  (
  Calls Tryz.prog az ⟨[e198]⟩ w197 fun e204 w205 =>
  ∃ n206, e204 = .returned (.int .i64 n206) /\
  (ckTx (w205.cell? ⟨r6, 3, none⟩) t184) /\
  (ckSx (w205.cell? a182) s183) /\
  (ckSx (w205.cell? ((a180.add 6).add 1)) s181) /\
  (ckIx .i64 (w205.cell? (a178.add 6)) n179) /\
  (ckSx (w205.cell? (a176.add 2)) s177) /\
  dD Tryz.prog 5 t184 w205 fun s212 w213 =>
  (ckSx (w213.cell? a182) s183) /\
  (ckSx (w213.cell? ((a180.add 6).add 1)) s181) /\
  (ckIx .i64 (w213.cell? (a178.add 6)) n179) /\
  (ckSx (w213.cell? (a176.add 2)) s177) /\
  Calls Tryz.prog bg ⟨[s177.v, (.int .i64 n179), s183.v, (.int .i64 5), (Slc.v s212)]⟩ w213 fun e218 w219 =>
  ∃ n220, e218 = .returned (.int .i64 n220) /\
  BIf (!decide (n206 = n220)) (
  K (.bool false) w219) (
  J160 w219)) /\
  (
  dD Tryz.prog 5 t184 w197 fun s221 w222 =>
  (ckSx (w222.cell? a182) s183) /\
  (ckSx (w222.cell? ((a180.add 6).add 1)) s181) /\
  (ckIx .i64 (w222.cell? (a178.add 6)) n179) /\
  (ckSx (w222.cell? (a176.add 2)) s177) /\
  Calls Tryz.prog az ⟨[e198]⟩ w222 fun e227 w228 =>
  ∃ n229, e227 = .returned (.int .i64 n229) /\
  (ckSx (w228.cell? a182) s183) /\
  (ckSx (w228.cell? ((a180.add 6).add 1)) s181) /\
  (ckIx .i64 (w228.cell? (a178.add 6)) n179) /\
  (ckSx (w228.cell? (a176.add 2)) s177) /\
  Calls Tryz.prog bg ⟨[s177.v, (.int .i64 n179), s183.v, (.int .i64 5), (Slc.v s221)]⟩ w228 fun e234 w235 =>
  ∃ n236, e234 = .returned (.int .i64 n236) /\
  BIf (!decide (n229 = n236)) (
  K (.bool false) w235) (
  J160 w235))) /\
  (
  dD Tryz.prog 5 t184 w186 fun s237 w238 =>
  (ckSx (w238.cell? a182) s183) /\
  (ckSx (w238.cell? ((a180.add 6).add 1)) s181) /\
  (ckIx .i64 (w238.cell? (a178.add 6)) n179) /\
  (ckSx (w238.cell? (a176.add 2)) s177) /\
  (ckSx (w238.cell? a173) s174) /\
  (ckSx (w238.cell? ((a171.add 4).add 1)) s172) /\
  (ckIx .i64 (w238.cell? (a169.add 4)) n170) /\
  (ckSx (w238.cell? a167) s168) /\
  Calls Tryz.prog bS ⟨[s168.v, (.int .i64 n170), s174.v, (.int .i64 5), s185.v]⟩ w238 fun e247 w248 =>
  ∃ e249, e247 = .returned e249 /\
  (ckSx (w248.cell? a182) s183) /\
  (ckSx (w248.cell? ((a180.add 6).add 1)) s181) /\
  (ckIx .i64 (w248.cell? (a178.add 6)) n179) /\
  (ckSx (w248.cell? (a176.add 2)) s177) /\
  Calls Tryz.prog az ⟨[e249]⟩ w248 fun e254 w255 =>
  ∃ n256, e254 = .returned (.int .i64 n256) /\
  (ckSx (w255.cell? a182) s183) /\
  (ckSx (w255.cell? ((a180.add 6).add 1)) s181) /\
  (ckIx .i64 (w255.cell? (a178.add 6)) n179) /\
  (ckSx (w255.cell? (a176.add 2)) s177) /\
  Calls Tryz.prog bg ⟨[s177.v, (.int .i64 n179), s183.v, (.int .i64 5), (Slc.v s237)]⟩ w255 fun e261 w262 =>
  ∃ n263, e261 = .returned (.int .i64 n263) /\
  BIf (!decide (n256 = n263)) (
  K (.bool false) w262) (
  J160 w262))) /\
  (
  dD Tryz.prog 5 t184 w165 fun s264 w265 =>
  (ckSx (w265.cell? a182) s183) /\
  (ckSx (w265.cell? ((a180.add 6).add 1)) s181) /\
  (ckIx .i64 (w265.cell? (a178.add 6)) n179) /\
  (ckSx (w265.cell? (a176.add 2)) s177) /\
  (ckTx (w265.cell? ⟨r6, 3, none⟩) t175) /\
  (ckSx (w265.cell? a173) s174) /\
  (ckSx (w265.cell? ((a171.add 4).add 1)) s172) /\
  (ckIx .i64 (w265.cell? (a169.add 4)) n170) /\
  (ckSx (w265.cell? a167) s168) /\
  dD Tryz.prog 5 t175 w265 fun s275 w276 =>
  (ckSx (w276.cell? a182) s183) /\
  (ckSx (w276.cell? ((a180.add 6).add 1)) s181) /\
  (ckIx .i64 (w276.cell? (a178.add 6)) n179) /\
  (ckSx (w276.cell? (a176.add 2)) s177) /\
  (ckSx (w276.cell? a173) s174) /\
  (ckSx (w276.cell? ((a171.add 4).add 1)) s172) /\
  (ckIx .i64 (w276.cell? (a169.add 4)) n170) /\
  (ckSx (w276.cell? a167) s168) /\
  Calls Tryz.prog bS ⟨[s168.v, (.int .i64 n170), s174.v, (.int .i64 5), (Slc.v s275)]⟩ w276 fun e285 w286 =>
  ∃ e287, e285 = .returned e287 /\
  (ckSx (w286.cell? a182) s183) /\
  (ckSx (w286.cell? ((a180.add 6).add 1)) s181) /\
  (ckIx .i64 (w286.cell? (a178.add 6)) n179) /\
  (ckSx (w286.cell? (a176.add 2)) s177) /\
  Calls Tryz.prog az ⟨[e287]⟩ w286 fun e292 w293 =>
  ∃ n294, e292 = .returned (.int .i64 n294) /\
  (ckSx (w293.cell? a182) s183) /\
  (ckSx (w293.cell? ((a180.add 6).add 1)) s181) /\
  (ckIx .i64 (w293.cell? (a178.add 6)) n179) /\
  (ckSx (w293.cell? (a176.add 2)) s177) /\
  Calls Tryz.prog bg ⟨[s177.v, (.int .i64 n179), s183.v, (.int .i64 5), (Slc.v s264)]⟩ w293 fun e299 w300 =>
  ∃ n301, e299 = .returned (.int .i64 n301) /\
  BIf (!decide (n294 = n301)) (
  K (.bool false) w300) (
  J160 w300))) (
  (
  (
  (
  J160 w165) /\
  (
  J160 w165)) /\
  (
  J160 w165)) /\
  (
  J160 w165))) /\ (
  ∀ w302 : World, J160 w302 -> ∀ _ _ _ _ _ _ _ _ _ _ _ _ _ _ _ _ _ _ _ _ _ _ _ _ _ _ _ _ _ _ _ _ _ _ _ _ _ _ _ _ _ _ _ _ _ _ _ _ _ _ : Value,
  needSome x1 fun a353 =>
  ∃ s354, w302.drew.cell? a353 = some (Slc.v s354) /\
  needSome x1 fun a355 =>
  ∃ n356 : Int, ∃ s357 : Slc, rowAt w302.drew (a355.add 4) 0 [(.int .i64 n356), s357.v] /\
  ∃ n358, w302.drew.cell? ⟨r6, 1, none⟩ = some (.int .i64 n358) /\
  ∃ t359 : List UInt8, w302.drew.cell? ⟨r6, 3, none⟩ = some (dA t359) /\
  needSome x1 fun a360 =>
  ∃ s361, w302.drew.cell? (a360.add 2) = some (Slc.v s361) /\
  needSome x1 fun a362 =>
  ∃ n363 : Int, ∃ s364 : Slc, rowAt w302.drew (a362.add 6) 0 [(.int .i64 n363), s364.v] /\
  ∃ n365, w302.drew.cell? ⟨r6, 1, none⟩ = some (.int .i64 n365) /\
  ∃ t366 : List UInt8, w302.drew.cell? ⟨r6, 3, none⟩ = some (dA t366) /\
  (
  dD Tryz.prog 5 t359 w302.drew fun s367 w368 =>
  (ckTx (w368.cell? ⟨r6, 3, none⟩) t366) /\
  (ckIx .i64 (w368.cell? ⟨r6, 1, none⟩) n365) /\
  (ckRx w368 (a362.add 6) n363 s364) /\
  (ckSx (w368.cell? (a360.add 2)) s361) /\
  (ckIx .i64 (w368.cell? ⟨r6, 1, none⟩) n358) /\
  (ckRx w368 (a355.add 4) n356 s357) /\
  (ckSx (w368.cell? a353) s354) /\
  (
  Calls Tryz.prog dP ⟨[s354.v, (.agg ⟨[(.int .i64 n356), s357.v]⟩), (.int .i64 n358), (Slc.v s367)]⟩ w368 fun e378 w379 =>
  ∃ e380, e378 = .returned e380 /\
  (ckTx (w379.cell? ⟨r6, 3, none⟩) t366) /\
  (ckIx .i64 (w379.cell? ⟨r6, 1, none⟩) n365) /\
  (ckRx w379 (a362.add 6) n363 s364) /\
  (ckSx (w379.cell? (a360.add 2)) s361) /\
  (
  Calls Tryz.prog az ⟨[e380]⟩ w379 fun e386 w387 =>
  ∃ n388, e386 = .returned (.int .i64 n388) /\
  (ckTx (w387.cell? ⟨r6, 3, none⟩) t366) /\
  (ckIx .i64 (w387.cell? ⟨r6, 1, none⟩) n365) /\
  (ckRx w387 (a362.add 6) n363 s364) /\
  (ckSx (w387.cell? (a360.add 2)) s361) /\
  dD Tryz.prog 5 t366 w387 fun s394 w395 =>
  (ckIx .i64 (w395.cell? ⟨r6, 1, none⟩) n365) /\
  (ckRx w395 (a362.add 6) n363 s364) /\
  (ckSx (w395.cell? (a360.add 2)) s361) /\
  Calls Tryz.prog bh ⟨[s361.v, (.agg ⟨[(.int .i64 n363), s364.v]⟩), (.int .i64 n365), (Slc.v s394)]⟩ w395 fun e400 w401 =>
  ∃ n402, e400 = .returned (.int .i64 n402) /\
  K (.bool (decide (n388 = n402))) w401) /\
  (
  dD Tryz.prog 5 t366 w379 fun s403 w404 =>
  (ckIx .i64 (w404.cell? ⟨r6, 1, none⟩) n365) /\
  (ckRx w404 (a362.add 6) n363 s364) /\
  (ckSx (w404.cell? (a360.add 2)) s361) /\
  Calls Tryz.prog az ⟨[e380]⟩ w404 fun e409 w410 =>
  ∃ n411, e409 = .returned (.int .i64 n411) /\
  (ckIx .i64 (w410.cell? ⟨r6, 1, none⟩) n365) /\
  (ckRx w410 (a362.add 6) n363 s364) /\
  (ckSx (w410.cell? (a360.add 2)) s361) /\
  Calls Tryz.prog bh ⟨[s361.v, (.agg ⟨[(.int .i64 n363), s364.v]⟩), (.int .i64 n365), (Slc.v s403)]⟩ w410 fun e416 w417 =>
  ∃ n418, e416 = .returned (.int .i64 n418) /\
  K (.bool (decide (n411 = n418))) w417)) /\
  (
  dD Tryz.prog 5 t366 w368 fun s419 w420 =>
  (ckIx .i64 (w420.cell? ⟨r6, 1, none⟩) n365) /\
  (ckRx w420 (a362.add 6) n363 s364) /\
  (ckSx (w420.cell? (a360.add 2)) s361) /\
  (ckIx .i64 (w420.cell? ⟨r6, 1, none⟩) n358) /\
  (ckRx w420 (a355.add 4) n356 s357) /\
  (ckSx (w420.cell? a353) s354) /\
  Calls Tryz.prog dP ⟨[s354.v, (.agg ⟨[(.int .i64 n356), s357.v]⟩), (.int .i64 n358), s367.v]⟩ w420 fun e429 w430 =>
  ∃ e431, e429 = .returned e431 /\
  (ckIx .i64 (w430.cell? ⟨r6, 1, none⟩) n365) /\
  (ckRx w430 (a362.add 6) n363 s364) /\
  (ckSx (w430.cell? (a360.add 2)) s361) /\
  Calls Tryz.prog az ⟨[e431]⟩ w430 fun e436 w437 =>
  ∃ n438, e436 = .returned (.int .i64 n438) /\
  (ckIx .i64 (w437.cell? ⟨r6, 1, none⟩) n365) /\
  (ckRx w437 (a362.add 6) n363 s364) /\
  (ckSx (w437.cell? (a360.add 2)) s361) /\
  Calls Tryz.prog bh ⟨[s361.v, (.agg ⟨[(.int .i64 n363), s364.v]⟩), (.int .i64 n365), (Slc.v s419)]⟩ w437 fun e443 w444 =>
  ∃ n445, e443 = .returned (.int .i64 n445) /\
  K (.bool (decide (n438 = n445))) w444)) /\
  (
  dD Tryz.prog 5 t366 w302.drew fun s446 w447 =>
  (ckIx .i64 (w447.cell? ⟨r6, 1, none⟩) n365) /\
  (ckRx w447 (a362.add 6) n363 s364) /\
  (ckSx (w447.cell? (a360.add 2)) s361) /\
  (ckTx (w447.cell? ⟨r6, 3, none⟩) t359) /\
  (ckIx .i64 (w447.cell? ⟨r6, 1, none⟩) n358) /\
  (ckRx w447 (a355.add 4) n356 s357) /\
  (ckSx (w447.cell? a353) s354) /\
  dD Tryz.prog 5 t359 w447 fun s457 w458 =>
  (ckIx .i64 (w458.cell? ⟨r6, 1, none⟩) n365) /\
  (ckRx w458 (a362.add 6) n363 s364) /\
  (ckSx (w458.cell? (a360.add 2)) s361) /\
  (ckIx .i64 (w458.cell? ⟨r6, 1, none⟩) n358) /\
  (ckRx w458 (a355.add 4) n356 s357) /\
  (ckSx (w458.cell? a353) s354) /\
  Calls Tryz.prog dP ⟨[s354.v, (.agg ⟨[(.int .i64 n356), s357.v]⟩), (.int .i64 n358), (Slc.v s457)]⟩ w458 fun e467 w468 =>
  ∃ e469, e467 = .returned e469 /\
  (ckIx .i64 (w468.cell? ⟨r6, 1, none⟩) n365) /\
  (ckRx w468 (a362.add 6) n363 s364) /\
  (ckSx (w468.cell? (a360.add 2)) s361) /\
  Calls Tryz.prog az ⟨[e469]⟩ w468 fun e474 w475 =>
  ∃ n476, e474 = .returned (.int .i64 n476) /\
  (ckIx .i64 (w475.cell? ⟨r6, 1, none⟩) n365) /\
  (ckRx w475 (a362.add 6) n363 s364) /\
  (ckSx (w475.cell? (a360.add 2)) s361) /\
  Calls Tryz.prog bh ⟨[s361.v, (.agg ⟨[(.int .i64 n363), s364.v]⟩), (.int .i64 n365), (Slc.v s446)]⟩ w475 fun e481 w482 =>
  ∃ n483, e481 = .returned (.int .i64 n483) /\
  K (.bool (decide (n476 = n483))) w482))) (
  BIf (decide (n9 = 2)) (
  needSome x1 fun a484 =>
  ∃ s485, w7.drew.cell? a484 = some (Slc.v s485) /\
  needSome x1 fun a486 =>
  ∃ n487 : Int, ∃ s488 : Slc, rowAt w7.drew (a486.add 4) 0 [(.int .i64 n487), s488.v] /\
  ∃ n489, w7.drew.cell? ⟨r6, 1, none⟩ = some (.int .i64 n489) /\
  Calls Tryz.prog nf ⟨[s485.v, (.agg ⟨[(.int .i64 n487), s488.v]⟩), (.int .i64 n489)]⟩ w7.drew fun e490 w491 =>
  ∃ s492 : Slc, ∃ e493, e490 = .returned (.tuple ⟨[s492.v, e493]⟩) /\
  needSome x1 fun a494 =>
  ∃ s495, w491.drew.cell? (a494.add 2) = some (Slc.v s495) /\
  needSome x1 fun a496 =>
  ∃ n497 : Int, ∃ s498 : Slc, rowAt w491.drew (a496.add 6) 0 [(.int .i64 n497), s498.v] /\
  ∃ n499, w491.drew.cell? ⟨r6, 1, none⟩ = some (.int .i64 n499) /\
  Calls Tryz.prog fz ⟨[s495.v, (.agg ⟨[(.int .i64 n497), s498.v]⟩), (.int .i64 n499)]⟩ w491.drew fun e500 w501 =>
  ∃ s502 : Slc, ∃ n503, e500 = .returned (.tuple ⟨[s502.v, (.int .i64 n503)]⟩) /\
  ∃ t504 : List UInt8, au w501 s492 t504 /\
  ∃ t505 : List UInt8, au w501 s502 t505 /\
  BIf (decide (t504 = t505)) (
  Calls Tryz.prog az ⟨[e493]⟩ w501 fun e506 w507 =>
  ∃ n508, e506 = .returned (.int .i64 n508) /\
  K (.bool (decide (n508 = n503))) w507) (
  K (.bool false) w501)) (
  BIf (decide (n9 = 3)) (
  needSome x1 fun a509 =>
  ∃ s510, w7.drew.cell? a509 = some (Slc.v s510) /\
  needSome x1 fun a511 =>
  ∃ n512 : Int, ∃ s513 : Slc, rowAt w7.drew (a511.add 4) 0 [(.int .i64 n512), s513.v] /\
  ∃ n514, w7.drew.cell? ⟨r6, 1, none⟩ = some (.int .i64 n514) /\
  Calls Tryz.prog jQ ⟨[s510.v, (.agg ⟨[(.int .i64 n512), s513.v]⟩), (.int .i64 n514)]⟩ w7.drew fun e515 w516 =>
  ∃ s517 : Slc, ∃ e518, e515 = .returned (.tuple ⟨[s517.v, e518]⟩) /\
  needSome x1 fun a519 =>
  ∃ s520, w516.drew.cell? (a519.add 2) = some (Slc.v s520) /\
  needSome x1 fun a521 =>
  ∃ n522 : Int, ∃ s523 : Slc, rowAt w516.drew (a521.add 6) 0 [(.int .i64 n522), s523.v] /\
  ∃ n524, w516.drew.cell? ⟨r6, 1, none⟩ = some (.int .i64 n524) /\
  Calls Tryz.prog fC ⟨[s520.v, (.agg ⟨[(.int .i64 n522), s523.v]⟩), (.int .i64 n524)]⟩ w516.drew fun e525 w526 =>
  ∃ s527 : Slc, ∃ n528, e525 = .returned (.tuple ⟨[s527.v, (.int .i64 n528)]⟩) /\
  ∃ t529 : List UInt8, au w526 s517 t529 /\
  ∃ t530 : List UInt8, au w526 s527 t530 /\
  BIf (decide (t529 = t530)) (
  Calls Tryz.prog az ⟨[e518]⟩ w526 fun e531 w532 =>
  ∃ n533, e531 = .returned (.int .i64 n533) /\
  K (.bool (decide (n533 = n528))) w532) (
  K (.bool false) w526)) (
  BIf (decide (n9 = 4)) (
  needSome x1 fun a534 =>
  ∃ s535, w7.drew.cell? a534 = some (Slc.v s535) /\
  needSome x1 fun a536 =>
  ∃ n537 : Int, ∃ s538 : Slc, rowAt w7.drew (a536.add 4) 0 [(.int .i64 n537), s538.v] /\
  ∃ n539, w7.drew.cell? ⟨r6, 1, none⟩ = some (.int .i64 n539) /\
  needSome x1 fun a540 =>
  ∃ s541, w7.drew.cell? (a540.add 2) = some (Slc.v s541) /\
  needSome x1 fun a542 =>
  ∃ n543 : Int, ∃ s544 : Slc, rowAt w7.drew (a542.add 6) 0 [(.int .i64 n543), s544.v] /\
  ∃ n545, w7.drew.cell? ⟨r6, 1, none⟩ = some (.int .i64 n545) /\
  Calls Tryz.prog ng ⟨[s535.v, (.agg ⟨[(.int .i64 n537), s538.v]⟩), (.int .i64 n539)]⟩ w7.drew fun e546 w547 =>
  ∃ e548, e546 = .returned e548 /\
  (ckIx .i64 (w547.cell? ⟨r6, 1, none⟩) n545) /\
  (ckRx w547 (a542.add 6) n543 s544) /\
  (ckSx (w547.cell? (a540.add 2)) s541) /\
  Calls Tryz.prog az ⟨[e548]⟩ w547 fun e553 w554 =>
  ∃ n555, e553 = .returned (.int .i64 n555) /\
  (ckIx .i64 (w554.cell? ⟨r6, 1, none⟩) n545) /\
  (ckRx w554 (a542.add 6) n543 s544) /\
  (ckSx (w554.cell? (a540.add 2)) s541) /\
  Calls Tryz.prog fE ⟨[s541.v, (.agg ⟨[(.int .i64 n543), s544.v]⟩), (.int .i64 n545)]⟩ w554 fun e560 w561 =>
  ∃ n562, e560 = .returned (.int .i64 n562) /\
  K (.bool (decide (n555 = n562))) w561) (
  BIf (decide (n9 = 5)) (
  needSome x1 fun a563 =>
  ∃ s564, w7.drew.cell? a563 = some (Slc.v s564) /\
  needSome x1 fun a565 =>
  ∃ n566 : Int, ∃ s567 : Slc, rowAt w7.drew (a565.add 4) 0 [(.int .i64 n566), s567.v] /\
  Calls Tryz.prog nh ⟨[s564.v, (.agg ⟨[(.int .i64 n566), s567.v]⟩)]⟩ w7.drew fun e568 w569 =>
  ∃ n570 : Int, ∃ e571, e568 = .returned (.tuple ⟨[(.int .i64 n570), e571]⟩) /\
  needSome x1 fun a572 =>
  ∃ s573, w569.drew.cell? (a572.add 2) = some (Slc.v s573) /\
  needSome x1 fun a574 =>
  ∃ n575 : Int, ∃ s576 : Slc, rowAt w569.drew (a574.add 6) 0 [(.int .i64 n575), s576.v] /\
  Calls Tryz.prog fF ⟨[s573.v, (.agg ⟨[(.int .i64 n575), s576.v]⟩)]⟩ w569.drew fun e577 w578 =>
  ∃ n579 : Int, ∃ n580, e577 = .returned (.tuple ⟨[(.int .i64 n579), (.int .i64 n580)]⟩) /\
  BIf (decide (n570 = n579)) (
  Calls Tryz.prog az ⟨[e571]⟩ w578 fun e581 w582 =>
  ∃ n583, e581 = .returned (.int .i64 n583) /\
  K (.bool (decide (n583 = n580))) w582) (
  K (.bool false) w578)) (
  BIf (decide (n9 = 6)) (
  needSome x1 fun a584 =>
  ∃ s585, w7.drew.cell? (a584.add 1) = some (Slc.v s585) /\
  needSome s585.p fun a586 =>
  0 <= (IntKind.wrap .i64 ((IntKind.wrap .u64 n8) % (6 : Int))) /\ (IntKind.wrap .i64 ((IntKind.wrap .u64 n8) % (6 : Int))) < (s585.l : Int) /\
  ∃ p587 : Option Addr, w7.drew.cell? (Addr.add a586 ((Int.toNat (IntKind.wrap .i64 ((IntKind.wrap .u64 n8) % (6 : Int)))) * 1)) = some (.pointer p587) /\
  ∃ n588, w7.drew.cell? ⟨r6, 1, none⟩ = some (.int .i64 n588) /\
  Calls Tryz.prog iZ ⟨[(.pointer p587), (.int .i64 n588)]⟩ w7.drew fun e589 w590 =>
  ∃ n591 : Int, ∃ e592, e589 = .returned (.tuple ⟨[(.int .i64 n591), e592]⟩) /\
  needSome x1 fun a593 =>
  ∃ s594, w590.drew.cell? (a593.add 3) = some (Slc.v s594) /\
  needSome s594.p fun a595 =>
  0 <= (IntKind.wrap .i64 ((IntKind.wrap .u64 n8) % (6 : Int))) /\ (IntKind.wrap .i64 ((IntKind.wrap .u64 n8) % (6 : Int))) < (s594.l : Int) /\
  ∃ p596 : Option Addr, w590.drew.cell? (Addr.add a595 ((Int.toNat (IntKind.wrap .i64 ((IntKind.wrap .u64 n8) % (6 : Int)))) * 1)) = some (.pointer p596) /\
  ∃ n597, w590.drew.cell? ⟨r6, 1, none⟩ = some (.int .i64 n597) /\
  Calls Tryz.prog dF ⟨[(.pointer p596), (.int .i64 n597)]⟩ w590.drew fun e598 w599 =>
  ∃ n600 : Int, ∃ n601, e598 = .returned (.tuple ⟨[(.int .i64 n600), (.int .i64 n601)]⟩) /\
  BIf (decide (n591 = n600)) (
  Calls Tryz.prog az ⟨[e592]⟩ w599 fun e602 w603 =>
  ∃ n604, e602 = .returned (.int .i64 n604) /\
  K (.bool (decide (n604 = n601))) w603) (
  K (.bool false) w599)) (
  BIf (decide (n9 = 7)) (
  needSome x1 fun a605 =>
  ∃ s606, w7.drew.cell? a605 = some (Slc.v s606) /\
  needSome x1 fun a607 =>
  ∃ s608, w7.drew.cell? (a607.add 2) = some (Slc.v s608) /\
  needSome s606.p fun a609 =>
  0 <= (IntKind.wrap .i64 ((IntKind.wrap .u64 n8) % (6 : Int))) /\ (IntKind.wrap .i64 ((IntKind.wrap .u64 n8) % (6 : Int))) < (s606.l : Int) /\
  aw w7.drew (Addr.add a609 ((Int.toNat (IntKind.wrap .i64 ((IntKind.wrap .u64 n8) % (6 : Int)))) * 1)) 1 /\ ∀ w610, w610 = w7.drew.setCell (Addr.add a609 ((Int.toNat (IntKind.wrap .i64 ((IntKind.wrap .u64 n8) % (6 : Int)))) * 1)) (.pointer none) ->
  needSome s608.p fun a611 =>
  0 <= (IntKind.wrap .i64 ((IntKind.wrap .u64 n8) % (6 : Int))) /\ (IntKind.wrap .i64 ((IntKind.wrap .u64 n8) % (6 : Int))) < (s608.l : Int) /\
  aw w610 (Addr.add a611 ((Int.toNat (IntKind.wrap .i64 ((IntKind.wrap .u64 n8) % (6 : Int)))) * 1)) 1 /\ ∀ w612, w612 = w610.setCell (Addr.add a611 ((Int.toNat (IntKind.wrap .i64 ((IntKind.wrap .u64 n8) % (6 : Int)))) * 1)) (.pointer none) ->
  K (.bool true) w612) (
  needSome x1 fun a613 =>
  ∃ s614, w7.drew.cell? a613 = some (Slc.v s614) /\
  needSome x1 fun a615 =>
  ∃ s616, w7.drew.cell? (a615.add 2) = some (Slc.v s616) /\
  needSome x1 fun a617 =>
  ∃ s618, w7.drew.cell? (a617.add 1) = some (Slc.v s618) /\
  needSome s618.p fun a619 =>
  0 <= (IntKind.wrap .i64 ((IntKind.wrap .u64 n8) % (6 : Int))) /\ (IntKind.wrap .i64 ((IntKind.wrap .u64 n8) % (6 : Int))) < (s618.l : Int) /\
  ∃ p620 : Option Addr, w7.drew.cell? (Addr.add a619 ((Int.toNat (IntKind.wrap .i64 ((IntKind.wrap .u64 n8) % (6 : Int)))) * 1)) = some (.pointer p620) /\
  needSome x1 fun a621 =>
  ∃ s622, w7.drew.cell? (a621.add 3) = some (Slc.v s622) /\
  needSome s622.p fun a623 =>
  0 <= (IntKind.wrap .i64 ((IntKind.wrap .u64 n8) % (6 : Int))) /\ (IntKind.wrap .i64 ((IntKind.wrap .u64 n8) % (6 : Int))) < (s622.l : Int) /\
  ∃ p624 : Option Addr, w7.drew.cell? (Addr.add a623 ((Int.toNat (IntKind.wrap .i64 ((IntKind.wrap .u64 n8) % (6 : Int)))) * 1)) = some (.pointer p624) /\
  needSome s614.p fun a625 =>
  0 <= (IntKind.wrap .i64 ((IntKind.wrap .u64 n8) % (6 : Int))) /\ (IntKind.wrap .i64 ((IntKind.wrap .u64 n8) % (6 : Int))) < (s614.l : Int) /\
  aw w7.drew (Addr.add a625 ((Int.toNat (IntKind.wrap .i64 ((IntKind.wrap .u64 n8) % (6 : Int)))) * 1)) 1 /\ ∀ w626, w626 = w7.drew.setCell (Addr.add a625 ((Int.toNat (IntKind.wrap .i64 ((IntKind.wrap .u64 n8) % (6 : Int)))) * 1)) (.pointer p620) ->
  needSome s616.p fun a627 =>
  0 <= (IntKind.wrap .i64 ((IntKind.wrap .u64 n8) % (6 : Int))) /\ (IntKind.wrap .i64 ((IntKind.wrap .u64 n8) % (6 : Int))) < (s616.l : Int) /\
  aw w626 (Addr.add a627 ((Int.toNat (IntKind.wrap .i64 ((IntKind.wrap .u64 n8) % (6 : Int)))) * 1)) 1 /\ ∀ w628, w628 = w626.setCell (Addr.add a627 ((Int.toNat (IntKind.wrap .i64 ((IntKind.wrap .u64 n8) % (6 : Int)))) * 1)) (.pointer p624) ->
  K (.bool true) w628))))))))
theorem mh (x1 : Option Addr) (a2 : Int) (a3 : Int) (a4 : Int) (a5 : List UInt8) {w : World} {R : Ending -> World -> Prop} (h : jj x1 a2 a3 a4 a5 w fun v w' => R (.returned v) w') : Calls Tryz.prog eg ⟨[(.pointer x1), (.agg ⟨[(.int .i64 a2), (.int .i64 a3), (.int .i64 a4), (dA a5)]⟩)]⟩ w R :=
  ab (ann := (.two .none (.two .none (.two (.two .none (.one (.two .none (.two .none (.two .none (.two (.cut [] ([4] ++ List.range' 93 49) .none .none) .none)))))) .none)))) ag mixed Tryz.func14 (Eq.mp (by kernel_rfl) h)
def gY (p1 : Int) (p2 : Slc) (list3 : Slc) (w : World) (K : Value -> World -> Prop) : Prop :=
  aA w (.cells ⟨[(.int .i64 p1), p2.v]⟩ 24) fun r4 w5 =>
  Calls Tryz.prog fb ⟨[]⟩ w5 fun e6 w7 =>
  ∃ b8, e6 = .returned (.bool b8) /\
  BIf (!b8) (
  K (.bool false) w7) (
  ∃ J9 : World -> Prop,
  (
  ∃ n10 : Int, ∃ s11 : Slc, rowAt w7 ⟨r4, 0, none⟩ 0 [(.int .i64 n10), s11.v] /\
  Calls Tryz.prog fy ⟨[(.agg ⟨[(.int .i64 n10), s11.v]⟩)]⟩ w7 fun e12 w13 =>
  ∃ b14, e12 = .returned (.bool b14) /\
  BIf b14 (
  K (.bool true) w13) (
  BIf (decide ((60 : Int) < (list3.l : Int))) (
  K (.bool true) w13) (
  J9 w13))) /\ (
  ∀ w15 : World, J9 w15 -> ∀ _ _ _ _ _ _ _ _ : Value,
  ∃ n24 : Int, ∃ s25 : Slc, rowAt w15 ⟨r4, 0, none⟩ 0 [(.int .i64 n24), s25.v] /\
  Calls Tryz.prog fe ⟨[(.agg ⟨[(.int .i64 n24), s25.v]⟩)]⟩ w15 fun e26 w27 =>
  ∃ p28, e26 = .returned (.pointer p28) /\
  needSome p28 fun a29 =>
  ∃ s30, w27.cell? a29 = some (Slc.v s30) /\
  BIf (!decide ((s30.l : Int) = (6 : Int))) (
  K (.bool false) w27) (
  ∃ (I31 : (Int) -> World -> Prop) (mu32 : (Int) -> World -> Nat), I31 ((0 : Int)) w27 /\ (
  ∀ i33 : Int, ∀ w34 : World, I31 i33 w34 -> ∀ _ _ _ _ _ _ _ _ _ _ _ _ _ _ : Value,
  BIf (decide (i33 < (list3.l : Int))) (
  needSome list3.p fun a49 =>
  0 <= i33 /\ i33 < (list3.l : Int) /\
  ∃ n50 : Int, ∃ n51 : Int, ∃ n52 : Int, ∃ t53 : List UInt8, rowAt w34 (Addr.add a49 ((Int.toNat i33) * 4)) 0 [(.int .i64 n50), (.int .i64 n51), (.int .i64 n52), (dA t53)] /\
  aA w34 (.cells ⟨[(.int .i64 0), (.int .i64 0), (.int .i64 0), (dA ([] : List UInt8))]⟩ 40) fun r54 w55 =>
  aw w55 ⟨r54, 0, none⟩ 4 /\ ∀ w56, w56 = setCells w55 ⟨r54, 0, none⟩ 0 [(.int .i64 n50), (.int .i64 n51), (.int .i64 n52), (dA t53)] ->
  ∃ t57 : List UInt8, w56.cell? ⟨r54, 3, none⟩ = some (dA t57) /\
  BIf (decide ((300 : Int) < (((List.length t57) : Nat) : Int))) (
  K (.bool true) w56) (
  ∃ n58 : Int, ∃ n59 : Int, ∃ n60 : Int, ∃ t61 : List UInt8, rowAt w56 ⟨r54, 0, none⟩ 0 [(.int .i64 n58), (.int .i64 n59), (.int .i64 n60), (dA t61)] /\
  Calls Tryz.prog eg ⟨[(.pointer p28), (.agg ⟨[(.int .i64 n58), (.int .i64 n59), (.int .i64 n60), (dA t61)]⟩)]⟩ w56 fun e62 w63 =>
  ∃ b64, e62 = .returned (.bool b64) /\
  BIf (!b64) (
  K (.bool false) w63) (
  inR .i64 (i33 + 1) /\
  (I31 ((i33 + 1)) w63 /\ mu32 ((i33 + 1)) w63 < mu32 i33 w34)))) (
  K (.bool true) w34)))))
theorem kz (p1 : Int) (p2 : Slc) (list3 : Slc) {w : World} {R : Ending -> World -> Prop} (h : gY p1 p2 list3 w fun v w' => R (.returned v) w') : Calls Tryz.prog dm ⟨[(.agg ⟨[(.int .i64 p1), p2.v]⟩), list3.v]⟩ w R :=
  ab (ann := (.two .none (.two .none (.cut [] [4, 10, 11, 12, 13, 14, 15, 16] .none (.two .none (.two .none (.two (.two .none (.one (.loop [(27, (Sh.int .i64))] ([4, 7] ++ List.range' 28 12) .none))) .none))))))) ag mixed Tryz.func4 (Eq.mp (by kernel_rfl) h)
end Go.D

