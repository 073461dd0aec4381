/-
  NARROWER THAN 'FOR EVERY INPUT', by the rows' own cells (each row's printed sentence says how): NewcarServes: laid · NewcarSteps: laid · NewcarRaw: laid · NewcarRests: laid.
  DERIVED. THE GIVEN ROWS OF THIS SEAT. 4 by the template 'for every input the law returns true; each argument reads behind the call as it read before'; 0 by the template 'total and deterministic' (their statements: YtpbljgpdhllklaaGreatDoorTotals.lean).
  GIVEN WITH THE SEED: the statements are not yours to turn. If you find one false, say at which input.
  Laid BY PROGRAM, IN A SANDBOX (cutbox-rows.mjs): the forced cells as the released guide's own fill.sh prints them over the translation 87287e113aa7e095… (all of the seat's roots in one cut). By AI agents, Wed Nov 11 2026. No macro, syntax, notation, axiom, sorry.
-/
import Derived.Test.YtpbljgpdhllklaaGreatDoorChecked
import GoSem.Claim
import GoSem.ClaimJoined
import GoSem.ClaimMapViews
import Derived.JoinedTies
import Derived.KernelRfl
namespace Go.Proofs.YtpbljgpdhllklaaGreatDoor
/- THE CELL 'sum', in the pinned program and in every row, IS THE sha256 OF THE DUMP (.gsa) THAT YtpbljgpdhllklaaGreatDoorProg.lean LOADS. Nothing in Lean hashes anything: it is a label: what it is worth is what the hold of that sum in a sandbox is worth. -/
noncomputable def Tryz.pinned : Pinned := { name := "ytpbljgpdhllklaagreatdoor", sum := "87287e113aa7e095de89ecaeb552333b9498abbcaf741ed105ed0ad7deb50176", checked := Tryz.checked }
namespace Rows
def none {H : Type} : Left H := { results := [], args := [] }

/- WHAT THE LISTED PACKAGE-LEVEL VARIABLES READ AS WHEN THE CALL BEGINS. Each datum BY PROGRAM (the guide's laid-datum.mjs) off the statement by which the dump's own 'gosem.cut.vars' lays the variable. In a bare row this is a premise. The card (YtpbljgpdhllklaaGreatDoorCards.lean) ties it to the program's text. -/
def laid_math_bits_deBruijn32tab {H : Type} : DataW H := .agg [.lit (.int .u8 0), .lit (.int .u8 1), .lit (.int .u8 28), .lit (.int .u8 2), .lit (.int .u8 29), .lit (.int .u8 14), .lit (.int .u8 24), .lit (.int .u8 3), .lit (.int .u8 30), .lit (.int .u8 22), .lit (.int .u8 20), .lit (.int .u8 15), .lit (.int .u8 25), .lit (.int .u8 17), .lit (.int .u8 4), .lit (.int .u8 8), .lit (.int .u8 31), .lit (.int .u8 27), .lit (.int .u8 13), .lit (.int .u8 23), .lit (.int .u8 21), .lit (.int .u8 19), .lit (.int .u8 16), .lit (.int .u8 7), .lit (.int .u8 26), .lit (.int .u8 12), .lit (.int .u8 18), .lit (.int .u8 6), .lit (.int .u8 11), .lit (.int .u8 5), .lit (.int .u8 10), .lit (.int .u8 9)]

/-- 'overlaylaw15.NewcarServes': WHATEVER THE INPUT: true; the input reads as it did. -/
def newcarServesSpec : ChangeSpec := { name := "newcarServes", fn := fun _ => fun
  | [d1, d2, d3] => { results := [.lit (.bool true)], args := [d1, d2, d3] }
  | _ => none }
def newcarServesRow : OpenClaim := { program := "ytpbljgpdhllklaagreatdoor", sum := "87287e113aa7e095de89ecaeb552333b9498abbcaf741ed105ed0ad7deb50176", func := "overlay/overlaylaw15.NewcarServes", spec := "newcarServes", unfollowed := true, recurses := true, named := ["math/bits.deBruijn32tab"], apart := false, laid := [("math/bits.deBruijn32tab", laid_math_bits_deBruijn32tab)] }
def NewcarServesSaid : Prop := newcarServesRow.holds Tryz.pinned (OpenSpec.ofChange newcarServesSpec)

/-- ITS FALSE NEIGHBOUR: 'it returns false'. Refute it at one input. -/
def newcarServesWrong : ChangeSpec := { name := "newcarServes", fn := fun _ => fun
  | [d1, d2, d3] => { results := [.lit (.bool false)], args := [d1, d2, d3] }
  | _ => none }
def NewcarServesWrongFalsely : Prop := newcarServesRow.holds Tryz.pinned (OpenSpec.ofChange newcarServesWrong)

/-- 'overlaylaw15.NewcarSteps': WHATEVER THE INPUT: true; the input reads as it did. -/
def newcarStepsSpec : ChangeSpec := { name := "newcarSteps", fn := fun _ => fun
  | [d1, d2, d3] => { results := [.lit (.bool true)], args := [d1, d2, d3] }
  | _ => none }
def newcarStepsRow : OpenClaim := { program := "ytpbljgpdhllklaagreatdoor", sum := "87287e113aa7e095de89ecaeb552333b9498abbcaf741ed105ed0ad7deb50176", func := "overlay/overlaylaw15.NewcarSteps", spec := "newcarSteps", unfollowed := true, recurses := true, named := ["math/bits.deBruijn32tab"], apart := false, laid := [("math/bits.deBruijn32tab", laid_math_bits_deBruijn32tab)] }
def NewcarStepsSaid : Prop := newcarStepsRow.holds Tryz.pinned (OpenSpec.ofChange newcarStepsSpec)

/-- ITS FALSE NEIGHBOUR: 'it returns false'. Refute it at one input. -/
def newcarStepsWrong : ChangeSpec := { name := "newcarSteps", fn := fun _ => fun
  | [d1, d2, d3] => { results := [.lit (.bool false)], args := [d1, d2, d3] }
  | _ => none }
def NewcarStepsWrongFalsely : Prop := newcarStepsRow.holds Tryz.pinned (OpenSpec.ofChange newcarStepsWrong)

/-- 'overlaylaw15.NewcarRaw': WHATEVER THE INPUT: true; the input reads as it did. -/
def newcarRawSpec : ChangeSpec := { name := "newcarRaw", fn := fun _ => fun
  | [d1, d2, d3] => { results := [.lit (.bool true)], args := [d1, d2, d3] }
  | _ => none }
def newcarRawRow : OpenClaim := { program := "ytpbljgpdhllklaagreatdoor", sum := "87287e113aa7e095de89ecaeb552333b9498abbcaf741ed105ed0ad7deb50176", func := "overlay/overlaylaw15.NewcarRaw", spec := "newcarRaw", unfollowed := true, recurses := true, named := ["math/bits.deBruijn32tab"], apart := false, laid := [("math/bits.deBruijn32tab", laid_math_bits_deBruijn32tab)] }
def NewcarRawSaid : Prop := newcarRawRow.holds Tryz.pinned (OpenSpec.ofChange newcarRawSpec)

/-- ITS FALSE NEIGHBOUR: 'it returns false'. Refute it at one input. -/
def newcarRawWrong : ChangeSpec := { name := "newcarRaw", fn := fun _ => fun
  | [d1, d2, d3] => { results := [.lit (.bool false)], args := [d1, d2, d3] }
  | _ => none }
def NewcarRawWrongFalsely : Prop := newcarRawRow.holds Tryz.pinned (OpenSpec.ofChange newcarRawWrong)

/-- 'overlaylaw15.NewcarRests': WHATEVER THE INPUT: true; the input reads as it did. -/
def newcarRestsSpec : ChangeSpec := { name := "newcarRests", fn := fun _ => fun
  | [d1, d2] => { results := [.lit (.bool true)], args := [d1, d2] }
  | _ => none }
def newcarRestsRow : OpenClaim := { program := "ytpbljgpdhllklaagreatdoor", sum := "87287e113aa7e095de89ecaeb552333b9498abbcaf741ed105ed0ad7deb50176", func := "overlay/overlaylaw15.NewcarRests", spec := "newcarRests", unfollowed := true, recurses := true, named := ["math/bits.deBruijn32tab"], apart := false, laid := [("math/bits.deBruijn32tab", laid_math_bits_deBruijn32tab)] }
def NewcarRestsSaid : Prop := newcarRestsRow.holds Tryz.pinned (OpenSpec.ofChange newcarRestsSpec)

/-- ITS FALSE NEIGHBOUR: 'it returns false'. Refute it at one input. -/
def newcarRestsWrong : ChangeSpec := { name := "newcarRests", fn := fun _ => fun
  | [d1, d2] => { results := [.lit (.bool false)], args := [d1, d2] }
  | _ => none }
def NewcarRestsWrongFalsely : Prop := newcarRestsRow.holds Tryz.pinned (OpenSpec.ofChange newcarRestsWrong)

/- THE SECOND FORM. 'bulk': how many values and letters a reading holds, each counted each time it is reached (what is shared counts as often as it is met; a slice's spare places count too). A statement '..UptoSaid' is the law's where the arguments, and the package variables that the reading takes, are together of bulk at most 1048576: NARROWER than '..Said'. Prove '..Said' where nothing that the law and all that it calls make is longer than what came in: it says more and counts as full. Else prove '..UptoSaid'. A law counts once. -/
mutual
def uptoBulk {H : Type} : DataW H → Nat
  | .lit (.string bytes) => bytes.length + 1
  | .lit _ => 1
  | .nil => 1
  | .ptr d => uptoBulk d + 1
  | .slice elems spare => uptoBulkAll elems + uptoBulkAll spare + 1
  | .agg parts => uptoBulkAll parts + 1
  | .iface _ d => uptoBulk d + 1
  | .map entries => uptoBulkEntries entries + 1
  | .held _ => 1
def uptoBulkAll {H : Type} : List (DataW H) → Nat
  | [] => 0
  | d :: r => uptoBulk d + uptoBulkAll r
def uptoBulkEntries {H : Type} : List (Lit × DataW H) → Nat
  | [] => 0
  | x :: r => uptoBulkEntry x + uptoBulkEntries r
def uptoBulkEntry {H : Type} : Lit × DataW H → Nat
  | (.string bytes, d) => bytes.length + uptoBulk d + 1
  | (_, d) => uptoBulk d + 1
 end
def uptoSmall : (H : Type) → List (DataW H) → Bool := fun _ ds => decide (uptoBulkAll ds ≤ 1048576)
def OpenSpec.upto (s : _root_.Go.ChangeSpec) : _root_.Go.OpenSpec := { _root_.Go.OpenSpec.ofChange s with cond := some uptoSmall }

/-- 'overlaylaw15.NewcarServes', WHERE WHAT IT READS IS OF BULK AT MOST 1048576: true; the input reads as it did. -/
def newcarServesUptoRow : OpenClaim := { program := "ytpbljgpdhllklaagreatdoor", sum := "87287e113aa7e095de89ecaeb552333b9498abbcaf741ed105ed0ad7deb50176", func := "overlay/overlaylaw15.NewcarServes", spec := "newcarServes", unfollowed := true, recurses := true, named := ["math/bits.deBruijn32tab"], apart := false, laid := [("math/bits.deBruijn32tab", laid_math_bits_deBruijn32tab)], narrowed := true }
def NewcarServesUptoSaid : Prop := newcarServesUptoRow.holds Tryz.pinned (OpenSpec.upto newcarServesSpec)

/-- 'overlaylaw15.NewcarSteps', WHERE WHAT IT READS IS OF BULK AT MOST 1048576: true; the input reads as it did. -/
def newcarStepsUptoRow : OpenClaim := { program := "ytpbljgpdhllklaagreatdoor", sum := "87287e113aa7e095de89ecaeb552333b9498abbcaf741ed105ed0ad7deb50176", func := "overlay/overlaylaw15.NewcarSteps", spec := "newcarSteps", unfollowed := true, recurses := true, named := ["math/bits.deBruijn32tab"], apart := false, laid := [("math/bits.deBruijn32tab", laid_math_bits_deBruijn32tab)], narrowed := true }
def NewcarStepsUptoSaid : Prop := newcarStepsUptoRow.holds Tryz.pinned (OpenSpec.upto newcarStepsSpec)

/-- 'overlaylaw15.NewcarRaw', WHERE WHAT IT READS IS OF BULK AT MOST 1048576: true; the input reads as it did. -/
def newcarRawUptoRow : OpenClaim := { program := "ytpbljgpdhllklaagreatdoor", sum := "87287e113aa7e095de89ecaeb552333b9498abbcaf741ed105ed0ad7deb50176", func := "overlay/overlaylaw15.NewcarRaw", spec := "newcarRaw", unfollowed := true, recurses := true, named := ["math/bits.deBruijn32tab"], apart := false, laid := [("math/bits.deBruijn32tab", laid_math_bits_deBruijn32tab)], narrowed := true }
def NewcarRawUptoSaid : Prop := newcarRawUptoRow.holds Tryz.pinned (OpenSpec.upto newcarRawSpec)

/-- 'overlaylaw15.NewcarRests', WHERE WHAT IT READS IS OF BULK AT MOST 1048576: true; the input reads as it did. -/
def newcarRestsUptoRow : OpenClaim := { program := "ytpbljgpdhllklaagreatdoor", sum := "87287e113aa7e095de89ecaeb552333b9498abbcaf741ed105ed0ad7deb50176", func := "overlay/overlaylaw15.NewcarRests", spec := "newcarRests", unfollowed := true, recurses := true, named := ["math/bits.deBruijn32tab"], apart := false, laid := [("math/bits.deBruijn32tab", laid_math_bits_deBruijn32tab)], narrowed := true }
def NewcarRestsUptoSaid : Prop := newcarRestsUptoRow.holds Tryz.pinned (OpenSpec.upto newcarRestsSpec)

end Rows
end Go.Proofs.YtpbljgpdhllklaaGreatDoor
