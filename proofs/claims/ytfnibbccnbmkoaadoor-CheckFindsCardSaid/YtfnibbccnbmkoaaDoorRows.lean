/-
  NARROWER THAN 'FOR EVERY INPUT', by the rows' own cells (each row's printed sentence says how): CheckFinds: laid · CheckBack: laid.
  DERIVED. THE GIVEN ROWS OF THIS SEAT. 2 by the template 'for every input the law returns true; each argument reads behind the call as it read before'; 0 by the template 'total and deterministic' (their statements: YtfnibbccnbmkoaaDoorTotals.lean).
  GIVEN WITH THE SEED: the statements are not yours to turn. If you find one false, say at which input.
  Laid BY PROGRAM, IN A SANDBOX (cutbox-rows.mjs): the forced cells as the released guide's own fill.sh prints them over the translation f23404a7e3c99a90… (all of the seat's roots in one cut). By AI agents, Wed Nov 11 2026. No macro, syntax, notation, axiom, sorry.
-/
import Derived.Test.YtfnibbccnbmkoaaDoorChecked
import GoSem.Claim
import GoSem.ClaimJoined
import GoSem.ClaimMapViews
import Derived.JoinedTies
import Derived.KernelRfl
namespace Go.Proofs.YtfnibbccnbmkoaaDoor
/- THE CELL 'sum', in the pinned program and in every row, IS THE sha256 OF THE DUMP (.gsa) THAT YtfnibbccnbmkoaaDoorProg.lean LOADS. Nothing in Lean hashes anything: it is a label: what it is worth is what the hold of that sum in a sandbox is worth. -/
noncomputable def Tryd.pinned : Pinned := { name := "ytfnibbccnbmkoaadoor", sum := "f23404a7e3c99a907bf999373478e2143c6d4a0252459e332ee10eb9b0d03708", checked := Tryd.checked }
namespace Rows
def none {H : Type} : Left H := { results := [], args := [] }

/- WHAT THE LISTED PACKAGE-LEVEL VARIABLES READ AS WHEN THE CALL BEGINS. Each datum BY PROGRAM (the guide's laid-datum.mjs) off the statement by which the dump's own 'gosem.cut.vars' lays the variable. In a bare row this is a premise. The card (YtfnibbccnbmkoaaDoorCards.lean) ties it to the program's text. -/
def laid_tidewater_api_ErrRange {H : Type} : DataW H := .iface "*errors.errorString" (.ptr (.agg [.lit (.string [116, 105, 100, 101, 119, 97, 116, 101, 114, 58, 32, 114, 97, 110, 103, 101])]))
def laid_tidewater_api_ErrFull {H : Type} : DataW H := .iface "*errors.errorString" (.ptr (.agg [.lit (.string [116, 105, 100, 101, 119, 97, 116, 101, 114, 58, 32, 102, 117, 108, 108])]))

/-- 'tidewaterlaw24.CheckFinds': WHATEVER THE INPUT: true; the input reads as it did. -/
def checkFindsSpec : ChangeSpec := { name := "checkFinds", fn := fun _ => fun
  | [d1, d2, d3] => { results := [.lit (.bool true)], args := [d1, d2, d3] }
  | _ => none }
def checkFindsRow : OpenClaim := { program := "ytfnibbccnbmkoaadoor", sum := "f23404a7e3c99a907bf999373478e2143c6d4a0252459e332ee10eb9b0d03708", func := "tidewater/tidewaterlaw24.CheckFinds", spec := "checkFinds", unfollowed := true, recurses := true, named := ["tidewater/api.ErrRange", "tidewater/api.ErrFull"], plainKeys := false, apart := false, laid := [("tidewater/api.ErrRange", laid_tidewater_api_ErrRange), ("tidewater/api.ErrFull", laid_tidewater_api_ErrFull)] }
def CheckFindsSaid : Prop := checkFindsRow.holds Tryd.pinned (OpenSpec.ofChange checkFindsSpec)

/-- ITS FALSE NEIGHBOUR: 'it returns false'. Refute it at one input. -/
def checkFindsWrong : ChangeSpec := { name := "checkFinds", fn := fun _ => fun
  | [d1, d2, d3] => { results := [.lit (.bool false)], args := [d1, d2, d3] }
  | _ => none }
def CheckFindsWrongFalsely : Prop := checkFindsRow.holds Tryd.pinned (OpenSpec.ofChange checkFindsWrong)

/-- 'tidewaterlaw24.CheckBack': WHATEVER THE INPUT: true; the input reads as it did. -/
def checkBackSpec : ChangeSpec := { name := "checkBack", fn := fun _ => fun
  | [d1, d2, d3] => { results := [.lit (.bool true)], args := [d1, d2, d3] }
  | _ => none }
def checkBackRow : OpenClaim := { program := "ytfnibbccnbmkoaadoor", sum := "f23404a7e3c99a907bf999373478e2143c6d4a0252459e332ee10eb9b0d03708", func := "tidewater/tidewaterlaw24.CheckBack", spec := "checkBack", unfollowed := true, recurses := true, named := ["tidewater/api.ErrRange", "tidewater/api.ErrFull"], plainKeys := false, apart := false, laid := [("tidewater/api.ErrRange", laid_tidewater_api_ErrRange), ("tidewater/api.ErrFull", laid_tidewater_api_ErrFull)] }
def CheckBackSaid : Prop := checkBackRow.holds Tryd.pinned (OpenSpec.ofChange checkBackSpec)

/-- ITS FALSE NEIGHBOUR: 'it returns false'. Refute it at one input. -/
def checkBackWrong : ChangeSpec := { name := "checkBack", fn := fun _ => fun
  | [d1, d2, d3] => { results := [.lit (.bool false)], args := [d1, d2, d3] }
  | _ => none }
def CheckBackWrongFalsely : Prop := checkBackRow.holds Tryd.pinned (OpenSpec.ofChange checkBackWrong)

/- THE SECOND FORM. 'bulk': how many values and letters a reading holds, each counted each time it is reached (what is shared counts as often as it is met; a slice's spare places count too). A statement '..UptoSaid' is the law's where the arguments, and the package variables that the reading takes, are together of bulk at most 1048576: NARROWER than '..Said'. Prove '..Said' where nothing that the law and all that it calls make is longer than what came in: it says more and counts as full. Else prove '..UptoSaid'. A law counts once. -/
mutual
def uptoBulk {H : Type} : DataW H → Nat
  | .lit (.string bytes) => bytes.length + 1
  | .lit _ => 1
  | .nil => 1
  | .ptr d => uptoBulk d + 1
  | .slice elems spare => uptoBulkAll elems + uptoBulkAll spare + 1
  | .agg parts => uptoBulkAll parts + 1
  | .iface _ d => uptoBulk d + 1
  | .map entries => uptoBulkEntries entries + 1
  | .held _ => 1
def uptoBulkAll {H : Type} : List (DataW H) → Nat
  | [] => 0
  | d :: r => uptoBulk d + uptoBulkAll r
def uptoBulkEntries {H : Type} : List (Lit × DataW H) → Nat
  | [] => 0
  | x :: r => uptoBulkEntry x + uptoBulkEntries r
def uptoBulkEntry {H : Type} : Lit × DataW H → Nat
  | (.string bytes, d) => bytes.length + uptoBulk d + 1
  | (_, d) => uptoBulk d + 1
 end
def uptoSmall : (H : Type) → List (DataW H) → Bool := fun _ ds => decide (uptoBulkAll ds ≤ 1048576)
def OpenSpec.upto (s : _root_.Go.ChangeSpec) : _root_.Go.OpenSpec := { _root_.Go.OpenSpec.ofChange s with cond := some uptoSmall }

/-- 'tidewaterlaw24.CheckFinds', WHERE WHAT IT READS IS OF BULK AT MOST 1048576: true; the input reads as it did. -/
def checkFindsUptoRow : OpenClaim := { program := "ytfnibbccnbmkoaadoor", sum := "f23404a7e3c99a907bf999373478e2143c6d4a0252459e332ee10eb9b0d03708", func := "tidewater/tidewaterlaw24.CheckFinds", spec := "checkFinds", unfollowed := true, recurses := true, named := ["tidewater/api.ErrRange", "tidewater/api.ErrFull"], plainKeys := false, apart := false, laid := [("tidewater/api.ErrRange", laid_tidewater_api_ErrRange), ("tidewater/api.ErrFull", laid_tidewater_api_ErrFull)], narrowed := true }
def CheckFindsUptoSaid : Prop := checkFindsUptoRow.holds Tryd.pinned (OpenSpec.upto checkFindsSpec)

/-- 'tidewaterlaw24.CheckBack', WHERE WHAT IT READS IS OF BULK AT MOST 1048576: true; the input reads as it did. -/
def checkBackUptoRow : OpenClaim := { program := "ytfnibbccnbmkoaadoor", sum := "f23404a7e3c99a907bf999373478e2143c6d4a0252459e332ee10eb9b0d03708", func := "tidewater/tidewaterlaw24.CheckBack", spec := "checkBack", unfollowed := true, recurses := true, named := ["tidewater/api.ErrRange", "tidewater/api.ErrFull"], plainKeys := false, apart := false, laid := [("tidewater/api.ErrRange", laid_tidewater_api_ErrRange), ("tidewater/api.ErrFull", laid_tidewater_api_ErrFull)], narrowed := true }
def CheckBackUptoSaid : Prop := checkBackUptoRow.holds Tryd.pinned (OpenSpec.upto checkBackSpec)

end Rows
end Go.Proofs.YtfnibbccnbmkoaaDoor
