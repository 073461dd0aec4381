/-
  NARROWER THAN 'FOR EVERY INPUT', by the rows' own cells (each row's printed sentence says how): CostPaths: laid · CostBounds: laid · CostMirrors: laid · CostEstimates: laid.
  DERIVED. THE GIVEN ROWS OF THIS SEAT. 4 by the template 'for every input the law returns true; each argument reads behind the call as it read before'; 0 by the template 'total and deterministic' (their statements: YtjdaplmlmmnokaaDoorTotals.lean).
  GIVEN WITH THE SEED: the statements are not yours to turn. If you find one false, say at which input.
  Laid BY PROGRAM, IN A SANDBOX (cutbox-rows.mjs): the forced cells as the released guide's own fill.sh prints them over the translation 7970a4a9c37b928f… (all of the seat's roots in one cut). By AI agents, Wed Nov 11 2026. No macro, syntax, notation, axiom, sorry.
-/
import Derived.Test.YtjdaplmlmmnokaaDoorChecked
import GoSem.Claim
import GoSem.ClaimJoined
import GoSem.ClaimMapViews
import Derived.JoinedTies
import Derived.KernelRfl
namespace Go.Proofs.YtjdaplmlmmnokaaDoor
/- THE CELL 'sum', in the pinned program and in every row, IS THE sha256 OF THE DUMP (.gsa) THAT YtjdaplmlmmnokaaDoorProg.lean LOADS. Nothing in Lean hashes anything: it is a label: what it is worth is what the hold of that sum in a sandbox is worth. -/
noncomputable def Tryd.pinned : Pinned := { name := "ytjdaplmlmmnokaadoor", sum := "7970a4a9c37b928f5ae7c5f79f93a8977cf7e6fe10e8e2b4e2b78b96a6b5cb0a", checked := Tryd.checked }
namespace Rows
def none {H : Type} : Left H := { results := [], args := [] }

/- WHAT THE LISTED PACKAGE-LEVEL VARIABLES READ AS WHEN THE CALL BEGINS. Each datum BY PROGRAM (the guide's laid-datum.mjs) off the statement by which the dump's own 'gosem.cut.vars' lays the variable. In a bare row this is a premise. The card (YtjdaplmlmmnokaaDoorCards.lean) ties it to the program's text. -/
def laid_math_bits_deBruijn32tab {H : Type} : DataW H := .agg [.lit (.int .u8 0), .lit (.int .u8 1), .lit (.int .u8 28), .lit (.int .u8 2), .lit (.int .u8 29), .lit (.int .u8 14), .lit (.int .u8 24), .lit (.int .u8 3), .lit (.int .u8 30), .lit (.int .u8 22), .lit (.int .u8 20), .lit (.int .u8 15), .lit (.int .u8 25), .lit (.int .u8 17), .lit (.int .u8 4), .lit (.int .u8 8), .lit (.int .u8 31), .lit (.int .u8 27), .lit (.int .u8 13), .lit (.int .u8 23), .lit (.int .u8 21), .lit (.int .u8 19), .lit (.int .u8 16), .lit (.int .u8 7), .lit (.int .u8 26), .lit (.int .u8 12), .lit (.int .u8 18), .lit (.int .u8 6), .lit (.int .u8 11), .lit (.int .u8 5), .lit (.int .u8 10), .lit (.int .u8 9)]

/-- 'overlaylaw21.CostPaths': WHATEVER THE INPUT: true; the input reads as it did. -/
def costPathsSpec : ChangeSpec := { name := "costPaths", fn := fun _ => fun
  | [d1, d2, d3] => { results := [.lit (.bool true)], args := [d1, d2, d3] }
  | _ => none }
def costPathsRow : OpenClaim := { program := "ytjdaplmlmmnokaadoor", sum := "7970a4a9c37b928f5ae7c5f79f93a8977cf7e6fe10e8e2b4e2b78b96a6b5cb0a", func := "overlay/overlaylaw21.CostPaths", spec := "costPaths", unfollowed := true, recurses := true, named := ["math/bits.deBruijn32tab"], apart := false, laid := [("math/bits.deBruijn32tab", laid_math_bits_deBruijn32tab)] }
def CostPathsSaid : Prop := costPathsRow.holds Tryd.pinned (OpenSpec.ofChange costPathsSpec)

/-- ITS FALSE NEIGHBOUR: 'it returns false'. Refute it at one input. -/
def costPathsWrong : ChangeSpec := { name := "costPaths", fn := fun _ => fun
  | [d1, d2, d3] => { results := [.lit (.bool false)], args := [d1, d2, d3] }
  | _ => none }
def CostPathsWrongFalsely : Prop := costPathsRow.holds Tryd.pinned (OpenSpec.ofChange costPathsWrong)

/-- 'overlaylaw21.CostBounds': WHATEVER THE INPUT: true; the input reads as it did. -/
def costBoundsSpec : ChangeSpec := { name := "costBounds", fn := fun _ => fun
  | [d1, d2, d3] => { results := [.lit (.bool true)], args := [d1, d2, d3] }
  | _ => none }
def costBoundsRow : OpenClaim := { program := "ytjdaplmlmmnokaadoor", sum := "7970a4a9c37b928f5ae7c5f79f93a8977cf7e6fe10e8e2b4e2b78b96a6b5cb0a", func := "overlay/overlaylaw21.CostBounds", spec := "costBounds", unfollowed := true, recurses := true, named := ["math/bits.deBruijn32tab"], apart := false, laid := [("math/bits.deBruijn32tab", laid_math_bits_deBruijn32tab)] }
def CostBoundsSaid : Prop := costBoundsRow.holds Tryd.pinned (OpenSpec.ofChange costBoundsSpec)

/-- ITS FALSE NEIGHBOUR: 'it returns false'. Refute it at one input. -/
def costBoundsWrong : ChangeSpec := { name := "costBounds", fn := fun _ => fun
  | [d1, d2, d3] => { results := [.lit (.bool false)], args := [d1, d2, d3] }
  | _ => none }
def CostBoundsWrongFalsely : Prop := costBoundsRow.holds Tryd.pinned (OpenSpec.ofChange costBoundsWrong)

/-- 'overlaylaw21.CostMirrors': WHATEVER THE INPUT: true; the input reads as it did. -/
def costMirrorsSpec : ChangeSpec := { name := "costMirrors", fn := fun _ => fun
  | [d1, d2, d3] => { results := [.lit (.bool true)], args := [d1, d2, d3] }
  | _ => none }
def costMirrorsRow : OpenClaim := { program := "ytjdaplmlmmnokaadoor", sum := "7970a4a9c37b928f5ae7c5f79f93a8977cf7e6fe10e8e2b4e2b78b96a6b5cb0a", func := "overlay/overlaylaw21.CostMirrors", spec := "costMirrors", unfollowed := true, recurses := true, named := ["math/bits.deBruijn32tab"], apart := false, laid := [("math/bits.deBruijn32tab", laid_math_bits_deBruijn32tab)] }
def CostMirrorsSaid : Prop := costMirrorsRow.holds Tryd.pinned (OpenSpec.ofChange costMirrorsSpec)

/-- ITS FALSE NEIGHBOUR: 'it returns false'. Refute it at one input. -/
def costMirrorsWrong : ChangeSpec := { name := "costMirrors", fn := fun _ => fun
  | [d1, d2, d3] => { results := [.lit (.bool false)], args := [d1, d2, d3] }
  | _ => none }
def CostMirrorsWrongFalsely : Prop := costMirrorsRow.holds Tryd.pinned (OpenSpec.ofChange costMirrorsWrong)

/-- 'overlaylaw21.CostEstimates': WHATEVER THE INPUT: true; the input reads as it did. -/
def costEstimatesSpec : ChangeSpec := { name := "costEstimates", fn := fun _ => fun
  | [d1, d2, d3] => { results := [.lit (.bool true)], args := [d1, d2, d3] }
  | _ => none }
def costEstimatesRow : OpenClaim := { program := "ytjdaplmlmmnokaadoor", sum := "7970a4a9c37b928f5ae7c5f79f93a8977cf7e6fe10e8e2b4e2b78b96a6b5cb0a", func := "overlay/overlaylaw21.CostEstimates", spec := "costEstimates", unfollowed := true, recurses := true, named := ["math/bits.deBruijn32tab"], apart := false, laid := [("math/bits.deBruijn32tab", laid_math_bits_deBruijn32tab)] }
def CostEstimatesSaid : Prop := costEstimatesRow.holds Tryd.pinned (OpenSpec.ofChange costEstimatesSpec)

/-- ITS FALSE NEIGHBOUR: 'it returns false'. Refute it at one input. -/
def costEstimatesWrong : ChangeSpec := { name := "costEstimates", fn := fun _ => fun
  | [d1, d2, d3] => { results := [.lit (.bool false)], args := [d1, d2, d3] }
  | _ => none }
def CostEstimatesWrongFalsely : Prop := costEstimatesRow.holds Tryd.pinned (OpenSpec.ofChange costEstimatesWrong)

/- THE SECOND FORM. 'bulk': how many values and letters a reading holds, each counted each time it is reached (what is shared counts as often as it is met; a slice's spare places count too). A statement '..UptoSaid' is the law's where the arguments, and the package variables that the reading takes, are together of bulk at most 1048576: NARROWER than '..Said'. Prove '..Said' where nothing that the law and all that it calls make is longer than what came in: it says more and counts as full. Else prove '..UptoSaid'. A law counts once. -/
mutual
def uptoBulk {H : Type} : DataW H → Nat
  | .lit (.string bytes) => bytes.length + 1
  | .lit _ => 1
  | .nil => 1
  | .ptr d => uptoBulk d + 1
  | .slice elems spare => uptoBulkAll elems + uptoBulkAll spare + 1
  | .agg parts => uptoBulkAll parts + 1
  | .iface _ d => uptoBulk d + 1
  | .map entries => uptoBulkEntries entries + 1
  | .held _ => 1
def uptoBulkAll {H : Type} : List (DataW H) → Nat
  | [] => 0
  | d :: r => uptoBulk d + uptoBulkAll r
def uptoBulkEntries {H : Type} : List (Lit × DataW H) → Nat
  | [] => 0
  | x :: r => uptoBulkEntry x + uptoBulkEntries r
def uptoBulkEntry {H : Type} : Lit × DataW H → Nat
  | (.string bytes, d) => bytes.length + uptoBulk d + 1
  | (_, d) => uptoBulk d + 1
 end
def uptoSmall : (H : Type) → List (DataW H) → Bool := fun _ ds => decide (uptoBulkAll ds ≤ 1048576)
def OpenSpec.upto (s : _root_.Go.ChangeSpec) : _root_.Go.OpenSpec := { _root_.Go.OpenSpec.ofChange s with cond := some uptoSmall }

/-- 'overlaylaw21.CostPaths', WHERE WHAT IT READS IS OF BULK AT MOST 1048576: true; the input reads as it did. -/
def costPathsUptoRow : OpenClaim := { program := "ytjdaplmlmmnokaadoor", sum := "7970a4a9c37b928f5ae7c5f79f93a8977cf7e6fe10e8e2b4e2b78b96a6b5cb0a", func := "overlay/overlaylaw21.CostPaths", spec := "costPaths", unfollowed := true, recurses := true, named := ["math/bits.deBruijn32tab"], apart := false, laid := [("math/bits.deBruijn32tab", laid_math_bits_deBruijn32tab)], narrowed := true }
def CostPathsUptoSaid : Prop := costPathsUptoRow.holds Tryd.pinned (OpenSpec.upto costPathsSpec)

/-- 'overlaylaw21.CostBounds', WHERE WHAT IT READS IS OF BULK AT MOST 1048576: true; the input reads as it did. -/
def costBoundsUptoRow : OpenClaim := { program := "ytjdaplmlmmnokaadoor", sum := "7970a4a9c37b928f5ae7c5f79f93a8977cf7e6fe10e8e2b4e2b78b96a6b5cb0a", func := "overlay/overlaylaw21.CostBounds", spec := "costBounds", unfollowed := true, recurses := true, named := ["math/bits.deBruijn32tab"], apart := false, laid := [("math/bits.deBruijn32tab", laid_math_bits_deBruijn32tab)], narrowed := true }
def CostBoundsUptoSaid : Prop := costBoundsUptoRow.holds Tryd.pinned (OpenSpec.upto costBoundsSpec)

/-- 'overlaylaw21.CostMirrors', WHERE WHAT IT READS IS OF BULK AT MOST 1048576: true; the input reads as it did. -/
def costMirrorsUptoRow : OpenClaim := { program := "ytjdaplmlmmnokaadoor", sum := "7970a4a9c37b928f5ae7c5f79f93a8977cf7e6fe10e8e2b4e2b78b96a6b5cb0a", func := "overlay/overlaylaw21.CostMirrors", spec := "costMirrors", unfollowed := true, recurses := true, named := ["math/bits.deBruijn32tab"], apart := false, laid := [("math/bits.deBruijn32tab", laid_math_bits_deBruijn32tab)], narrowed := true }
def CostMirrorsUptoSaid : Prop := costMirrorsUptoRow.holds Tryd.pinned (OpenSpec.upto costMirrorsSpec)

/-- 'overlaylaw21.CostEstimates', WHERE WHAT IT READS IS OF BULK AT MOST 1048576: true; the input reads as it did. -/
def costEstimatesUptoRow : OpenClaim := { program := "ytjdaplmlmmnokaadoor", sum := "7970a4a9c37b928f5ae7c5f79f93a8977cf7e6fe10e8e2b4e2b78b96a6b5cb0a", func := "overlay/overlaylaw21.CostEstimates", spec := "costEstimates", unfollowed := true, recurses := true, named := ["math/bits.deBruijn32tab"], apart := false, laid := [("math/bits.deBruijn32tab", laid_math_bits_deBruijn32tab)], narrowed := true }
def CostEstimatesUptoSaid : Prop := costEstimatesUptoRow.holds Tryd.pinned (OpenSpec.upto costEstimatesSpec)

end Rows
end Go.Proofs.YtjdaplmlmmnokaaDoor
