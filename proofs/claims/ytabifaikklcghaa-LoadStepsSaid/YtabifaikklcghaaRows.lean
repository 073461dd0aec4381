/-
  No cell of these rows narrows 'for every input' (looked for: loops, veiled, ifaces, maps, wideKeys, modest, calm, conditions, laid).
  DERIVED. THE GIVEN ROWS OF THIS SEAT. 9 by the template 'for every input the law returns true; each argument reads behind the call as it read before'; 0 by the template 'total and deterministic' (their statements: YtabifaikklcghaaTotals.lean).
  GIVEN WITH THE SEED: the statements are not yours to turn. If you find one false, say at which input.
  Laid BY PROGRAM, IN A SANDBOX (cutbox-rows.mjs): the forced cells as the released guide's own fill.sh prints them over the translation e98e213666d4742f… (all of the seat's roots in one cut). By AI agents, Wed Nov 11 2026. No macro, syntax, notation, axiom, sorry.
-/
import Derived.Test.YtabifaikklcghaaChecked
import GoSem.Claim
import GoSem.ClaimJoined
import GoSem.ClaimMapViews
import Derived.JoinedTies
import Derived.KernelRfl
namespace Go.Proofs.Ytabifaikklcghaa
/- THE CELL 'sum', in the pinned program and in every row, IS THE sha256 OF THE DUMP (.gsa) THAT YtabifaikklcghaaProg.lean LOADS. Nothing in Lean hashes anything: it is a label: what it is worth is what the hold of that sum in a sandbox is worth. -/
noncomputable def Try.pinned : Pinned := { name := "ytabifaikklcghaa", sum := "e98e213666d4742f828566d92f820ea99d794bfecc77d891813576a83fe284a1", checked := Try.checked }
namespace Rows
def none {H : Type} : Left H := { results := [], args := [] }

/-- 'overlaylaw09.RecordCodes': WHATEVER THE INPUT: true; the input reads as it did. -/
def recordCodesSpec : ChangeSpec := { name := "recordCodes", fn := fun _ => fun
  | [d1, d2, d3] => { results := [.lit (.bool true)], args := [d1, d2, d3] }
  | _ => none }
def recordCodesRow : OpenClaim := { program := "ytabifaikklcghaa", sum := "e98e213666d4742f828566d92f820ea99d794bfecc77d891813576a83fe284a1", func := "overlay/overlaylaw09.RecordCodes", spec := "recordCodes", apart := false }
def RecordCodesSaid : Prop := recordCodesRow.holds Try.pinned (OpenSpec.ofChange recordCodesSpec)

/-- ITS FALSE NEIGHBOUR: 'it returns false'. Refute it at one input. -/
def recordCodesWrong : ChangeSpec := { name := "recordCodes", fn := fun _ => fun
  | [d1, d2, d3] => { results := [.lit (.bool false)], args := [d1, d2, d3] }
  | _ => none }
def RecordCodesWrongFalsely : Prop := recordCodesRow.holds Try.pinned (OpenSpec.ofChange recordCodesWrong)

/-- 'overlaylaw09.RecordApart': WHATEVER THE INPUT: true; the input reads as it did. -/
def recordApartSpec : ChangeSpec := { name := "recordApart", fn := fun _ => fun
  | [d1, d2, d3] => { results := [.lit (.bool true)], args := [d1, d2, d3] }
  | _ => none }
def recordApartRow : OpenClaim := { program := "ytabifaikklcghaa", sum := "e98e213666d4742f828566d92f820ea99d794bfecc77d891813576a83fe284a1", func := "overlay/overlaylaw09.RecordApart", spec := "recordApart", apart := false }
def RecordApartSaid : Prop := recordApartRow.holds Try.pinned (OpenSpec.ofChange recordApartSpec)

/-- ITS FALSE NEIGHBOUR: 'it returns false'. Refute it at one input. -/
def recordApartWrong : ChangeSpec := { name := "recordApart", fn := fun _ => fun
  | [d1, d2, d3] => { results := [.lit (.bool false)], args := [d1, d2, d3] }
  | _ => none }
def RecordApartWrongFalsely : Prop := recordApartRow.holds Try.pinned (OpenSpec.ofChange recordApartWrong)

/-- 'overlaylaw06.LoadRuns': WHATEVER THE INPUT: true; the input reads as it did. -/
def loadRunsSpec : ChangeSpec := { name := "loadRuns", fn := fun _ => fun
  | [d1, d2, d3] => { results := [.lit (.bool true)], args := [d1, d2, d3] }
  | _ => none }
def loadRunsRow : OpenClaim := { program := "ytabifaikklcghaa", sum := "e98e213666d4742f828566d92f820ea99d794bfecc77d891813576a83fe284a1", func := "overlay/overlaylaw06.LoadRuns", spec := "loadRuns", inPlace := ["math.Float64frombits", "math.Float64bits"], apart := false }
def LoadRunsSaid : Prop := loadRunsRow.holds Try.pinned (OpenSpec.ofChange loadRunsSpec)

/-- ITS FALSE NEIGHBOUR: 'it returns false'. Refute it at one input. -/
def loadRunsWrong : ChangeSpec := { name := "loadRuns", fn := fun _ => fun
  | [d1, d2, d3] => { results := [.lit (.bool false)], args := [d1, d2, d3] }
  | _ => none }
def LoadRunsWrongFalsely : Prop := loadRunsRow.holds Try.pinned (OpenSpec.ofChange loadRunsWrong)

/-- 'overlaylaw06.LoadRises': WHATEVER THE INPUT: true; the input reads as it did. -/
def loadRisesSpec : ChangeSpec := { name := "loadRises", fn := fun _ => fun
  | [d1, d2] => { results := [.lit (.bool true)], args := [d1, d2] }
  | _ => none }
def loadRisesRow : OpenClaim := { program := "ytabifaikklcghaa", sum := "e98e213666d4742f828566d92f820ea99d794bfecc77d891813576a83fe284a1", func := "overlay/overlaylaw06.LoadRises", spec := "loadRises", inPlace := ["math.Float64frombits", "math.Float64bits"], apart := false }
def LoadRisesSaid : Prop := loadRisesRow.holds Try.pinned (OpenSpec.ofChange loadRisesSpec)

/-- ITS FALSE NEIGHBOUR: 'it returns false'. Refute it at one input. -/
def loadRisesWrong : ChangeSpec := { name := "loadRises", fn := fun _ => fun
  | [d1, d2] => { results := [.lit (.bool false)], args := [d1, d2] }
  | _ => none }
def LoadRisesWrongFalsely : Prop := loadRisesRow.holds Try.pinned (OpenSpec.ofChange loadRisesWrong)

/-- 'overlaylaw06.LoadKeeps': WHATEVER THE INPUT: true; the input reads as it did. -/
def loadKeepsSpec : ChangeSpec := { name := "loadKeeps", fn := fun _ => fun
  | [d] => { results := [.lit (.bool true)], args := [d] }
  | _ => none }
def loadKeepsRow : OpenClaim := { program := "ytabifaikklcghaa", sum := "e98e213666d4742f828566d92f820ea99d794bfecc77d891813576a83fe284a1", func := "overlay/overlaylaw06.LoadKeeps", spec := "loadKeeps", inPlace := ["math.Float64frombits", "math.Float64bits"], apart := false }
def LoadKeepsSaid : Prop := loadKeepsRow.holds Try.pinned (OpenSpec.ofChange loadKeepsSpec)

/-- ITS FALSE NEIGHBOUR: 'it returns false'. Refute it at one input. -/
def loadKeepsWrong : ChangeSpec := { name := "loadKeeps", fn := fun _ => fun
  | [d] => { results := [.lit (.bool false)], args := [d] }
  | _ => none }
def LoadKeepsWrongFalsely : Prop := loadKeepsRow.holds Try.pinned (OpenSpec.ofChange loadKeepsWrong)

/-- 'overlaylaw09.RecordBack': WHATEVER THE INPUT: true; the input reads as it did. -/
def recordBackSpec : ChangeSpec := { name := "recordBack", fn := fun _ => fun
  | [d1, d2, d3] => { results := [.lit (.bool true)], args := [d1, d2, d3] }
  | _ => none }
def recordBackRow : OpenClaim := { program := "ytabifaikklcghaa", sum := "e98e213666d4742f828566d92f820ea99d794bfecc77d891813576a83fe284a1", func := "overlay/overlaylaw09.RecordBack", spec := "recordBack", apart := false }
def RecordBackSaid : Prop := recordBackRow.holds Try.pinned (OpenSpec.ofChange recordBackSpec)

/-- ITS FALSE NEIGHBOUR: 'it returns false'. Refute it at one input. -/
def recordBackWrong : ChangeSpec := { name := "recordBack", fn := fun _ => fun
  | [d1, d2, d3] => { results := [.lit (.bool false)], args := [d1, d2, d3] }
  | _ => none }
def RecordBackWrongFalsely : Prop := recordBackRow.holds Try.pinned (OpenSpec.ofChange recordBackWrong)

/-- 'overlaylaw09.RecordReads': WHATEVER THE INPUT: true; the input reads as it did. -/
def recordReadsSpec : ChangeSpec := { name := "recordReads", fn := fun _ => fun
  | [d1, d2, d3] => { results := [.lit (.bool true)], args := [d1, d2, d3] }
  | _ => none }
def recordReadsRow : OpenClaim := { program := "ytabifaikklcghaa", sum := "e98e213666d4742f828566d92f820ea99d794bfecc77d891813576a83fe284a1", func := "overlay/overlaylaw09.RecordReads", spec := "recordReads", apart := false }
def RecordReadsSaid : Prop := recordReadsRow.holds Try.pinned (OpenSpec.ofChange recordReadsSpec)

/-- ITS FALSE NEIGHBOUR: 'it returns false'. Refute it at one input. -/
def recordReadsWrong : ChangeSpec := { name := "recordReads", fn := fun _ => fun
  | [d1, d2, d3] => { results := [.lit (.bool false)], args := [d1, d2, d3] }
  | _ => none }
def RecordReadsWrongFalsely : Prop := recordReadsRow.holds Try.pinned (OpenSpec.ofChange recordReadsWrong)

/-- 'overlaylaw06.LoadClasses': WHATEVER THE INPUT: true; the input reads as it did. -/
def loadClassesSpec : ChangeSpec := { name := "loadClasses", fn := fun _ => fun
  | [d1, d2, d3] => { results := [.lit (.bool true)], args := [d1, d2, d3] }
  | _ => none }
def loadClassesRow : OpenClaim := { program := "ytabifaikklcghaa", sum := "e98e213666d4742f828566d92f820ea99d794bfecc77d891813576a83fe284a1", func := "overlay/overlaylaw06.LoadClasses", spec := "loadClasses", inPlace := ["math.Float64frombits", "math.Float64bits"], apart := false }
def LoadClassesSaid : Prop := loadClassesRow.holds Try.pinned (OpenSpec.ofChange loadClassesSpec)

/-- ITS FALSE NEIGHBOUR: 'it returns false'. Refute it at one input. -/
def loadClassesWrong : ChangeSpec := { name := "loadClasses", fn := fun _ => fun
  | [d1, d2, d3] => { results := [.lit (.bool false)], args := [d1, d2, d3] }
  | _ => none }
def LoadClassesWrongFalsely : Prop := loadClassesRow.holds Try.pinned (OpenSpec.ofChange loadClassesWrong)

/-- 'overlaylaw06.LoadSteps': WHATEVER THE INPUT: true; the input reads as it did. -/
def loadStepsSpec : ChangeSpec := { name := "loadSteps", fn := fun _ => fun
  | [d1, d2, d3] => { results := [.lit (.bool true)], args := [d1, d2, d3] }
  | _ => none }
def loadStepsRow : OpenClaim := { program := "ytabifaikklcghaa", sum := "e98e213666d4742f828566d92f820ea99d794bfecc77d891813576a83fe284a1", func := "overlay/overlaylaw06.LoadSteps", spec := "loadSteps", inPlace := ["math.Float64bits", "math.Float64frombits"], apart := false }
def LoadStepsSaid : Prop := loadStepsRow.holds Try.pinned (OpenSpec.ofChange loadStepsSpec)

/-- ITS FALSE NEIGHBOUR: 'it returns false'. Refute it at one input. -/
def loadStepsWrong : ChangeSpec := { name := "loadSteps", fn := fun _ => fun
  | [d1, d2, d3] => { results := [.lit (.bool false)], args := [d1, d2, d3] }
  | _ => none }
def LoadStepsWrongFalsely : Prop := loadStepsRow.holds Try.pinned (OpenSpec.ofChange loadStepsWrong)

/- THE SECOND FORM. 'bulk': how many values and letters a reading holds, each counted each time it is reached (what is shared counts as often as it is met; a slice's spare places count too). A statement '..UptoSaid' is the law's where the arguments, and the package variables that the reading takes, are together of bulk at most 1048576: NARROWER than '..Said'. Prove '..Said' where nothing that the law and all that it calls make is longer than what came in: it says more and counts as full. Else prove '..UptoSaid'. A law counts once. -/
mutual
def uptoBulk {H : Type} : DataW H → Nat
  | .lit (.string bytes) => bytes.length + 1
  | .lit _ => 1
  | .nil => 1
  | .ptr d => uptoBulk d + 1
  | .slice elems spare => uptoBulkAll elems + uptoBulkAll spare + 1
  | .agg parts => uptoBulkAll parts + 1
  | .iface _ d => uptoBulk d + 1
  | .map entries => uptoBulkEntries entries + 1
  | .held _ => 1
def uptoBulkAll {H : Type} : List (DataW H) → Nat
  | [] => 0
  | d :: r => uptoBulk d + uptoBulkAll r
def uptoBulkEntries {H : Type} : List (Lit × DataW H) → Nat
  | [] => 0
  | x :: r => uptoBulkEntry x + uptoBulkEntries r
def uptoBulkEntry {H : Type} : Lit × DataW H → Nat
  | (.string bytes, d) => bytes.length + uptoBulk d + 1
  | (_, d) => uptoBulk d + 1
 end
def uptoSmall : (H : Type) → List (DataW H) → Bool := fun _ ds => decide (uptoBulkAll ds ≤ 1048576)
def OpenSpec.upto (s : _root_.Go.ChangeSpec) : _root_.Go.OpenSpec := { _root_.Go.OpenSpec.ofChange s with cond := some uptoSmall }

/-- 'overlaylaw09.RecordCodes', WHERE WHAT IT READS IS OF BULK AT MOST 1048576: true; the input reads as it did. -/
def recordCodesUptoRow : OpenClaim := { program := "ytabifaikklcghaa", sum := "e98e213666d4742f828566d92f820ea99d794bfecc77d891813576a83fe284a1", func := "overlay/overlaylaw09.RecordCodes", spec := "recordCodes", apart := false, narrowed := true }
def RecordCodesUptoSaid : Prop := recordCodesUptoRow.holds Try.pinned (OpenSpec.upto recordCodesSpec)

/-- 'overlaylaw09.RecordApart', WHERE WHAT IT READS IS OF BULK AT MOST 1048576: true; the input reads as it did. -/
def recordApartUptoRow : OpenClaim := { program := "ytabifaikklcghaa", sum := "e98e213666d4742f828566d92f820ea99d794bfecc77d891813576a83fe284a1", func := "overlay/overlaylaw09.RecordApart", spec := "recordApart", apart := false, narrowed := true }
def RecordApartUptoSaid : Prop := recordApartUptoRow.holds Try.pinned (OpenSpec.upto recordApartSpec)

/-- 'overlaylaw06.LoadRuns', WHERE WHAT IT READS IS OF BULK AT MOST 1048576: true; the input reads as it did. -/
def loadRunsUptoRow : OpenClaim := { program := "ytabifaikklcghaa", sum := "e98e213666d4742f828566d92f820ea99d794bfecc77d891813576a83fe284a1", func := "overlay/overlaylaw06.LoadRuns", spec := "loadRuns", inPlace := ["math.Float64frombits", "math.Float64bits"], apart := false, narrowed := true }
def LoadRunsUptoSaid : Prop := loadRunsUptoRow.holds Try.pinned (OpenSpec.upto loadRunsSpec)

/-- 'overlaylaw06.LoadRises', WHERE WHAT IT READS IS OF BULK AT MOST 1048576: true; the input reads as it did. -/
def loadRisesUptoRow : OpenClaim := { program := "ytabifaikklcghaa", sum := "e98e213666d4742f828566d92f820ea99d794bfecc77d891813576a83fe284a1", func := "overlay/overlaylaw06.LoadRises", spec := "loadRises", inPlace := ["math.Float64frombits", "math.Float64bits"], apart := false, narrowed := true }
def LoadRisesUptoSaid : Prop := loadRisesUptoRow.holds Try.pinned (OpenSpec.upto loadRisesSpec)

/-- 'overlaylaw06.LoadKeeps', WHERE WHAT IT READS IS OF BULK AT MOST 1048576: true; the input reads as it did. -/
def loadKeepsUptoRow : OpenClaim := { program := "ytabifaikklcghaa", sum := "e98e213666d4742f828566d92f820ea99d794bfecc77d891813576a83fe284a1", func := "overlay/overlaylaw06.LoadKeeps", spec := "loadKeeps", inPlace := ["math.Float64frombits", "math.Float64bits"], apart := false, narrowed := true }
def LoadKeepsUptoSaid : Prop := loadKeepsUptoRow.holds Try.pinned (OpenSpec.upto loadKeepsSpec)

/-- 'overlaylaw09.RecordBack', WHERE WHAT IT READS IS OF BULK AT MOST 1048576: true; the input reads as it did. -/
def recordBackUptoRow : OpenClaim := { program := "ytabifaikklcghaa", sum := "e98e213666d4742f828566d92f820ea99d794bfecc77d891813576a83fe284a1", func := "overlay/overlaylaw09.RecordBack", spec := "recordBack", apart := false, narrowed := true }
def RecordBackUptoSaid : Prop := recordBackUptoRow.holds Try.pinned (OpenSpec.upto recordBackSpec)

/-- 'overlaylaw09.RecordReads', WHERE WHAT IT READS IS OF BULK AT MOST 1048576: true; the input reads as it did. -/
def recordReadsUptoRow : OpenClaim := { program := "ytabifaikklcghaa", sum := "e98e213666d4742f828566d92f820ea99d794bfecc77d891813576a83fe284a1", func := "overlay/overlaylaw09.RecordReads", spec := "recordReads", apart := false, narrowed := true }
def RecordReadsUptoSaid : Prop := recordReadsUptoRow.holds Try.pinned (OpenSpec.upto recordReadsSpec)

/-- 'overlaylaw06.LoadClasses', WHERE WHAT IT READS IS OF BULK AT MOST 1048576: true; the input reads as it did. -/
def loadClassesUptoRow : OpenClaim := { program := "ytabifaikklcghaa", sum := "e98e213666d4742f828566d92f820ea99d794bfecc77d891813576a83fe284a1", func := "overlay/overlaylaw06.LoadClasses", spec := "loadClasses", inPlace := ["math.Float64frombits", "math.Float64bits"], apart := false, narrowed := true }
def LoadClassesUptoSaid : Prop := loadClassesUptoRow.holds Try.pinned (OpenSpec.upto loadClassesSpec)

/-- 'overlaylaw06.LoadSteps', WHERE WHAT IT READS IS OF BULK AT MOST 1048576: true; the input reads as it did. -/
def loadStepsUptoRow : OpenClaim := { program := "ytabifaikklcghaa", sum := "e98e213666d4742f828566d92f820ea99d794bfecc77d891813576a83fe284a1", func := "overlay/overlaylaw06.LoadSteps", spec := "loadSteps", inPlace := ["math.Float64bits", "math.Float64frombits"], apart := false, narrowed := true }
def LoadStepsUptoSaid : Prop := loadStepsUptoRow.holds Try.pinned (OpenSpec.upto loadStepsSpec)

end Rows
end Go.Proofs.Ytabifaikklcghaa
