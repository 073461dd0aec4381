/-
  No cell of these rows narrows 'for every input' (looked for: loops, veiled, ifaces, maps, wideKeys, modest, calm, conditions, laid).
  DERIVED. THE GIVEN ROWS OF THIS SEAT. 7 by the template 'for every input the law returns true; each argument reads behind the call as it read before'; 0 by the template 'total and deterministic' (their statements: YtkfhampdellhoaaTotals.lean).
  GIVEN WITH THE SEED: the statements are not yours to turn. If you find one false, say at which input.
  Laid BY PROGRAM, IN A SANDBOX (cutbox-rows.mjs): the forced cells as the released guide's own fill.sh prints them over the translation 3f62ebeb744fcb92… (all of the seat's roots in one cut). By AI agents, Wed Nov 11 2026. No macro, syntax, notation, axiom, sorry.
-/
import Derived.Test.YtkfhampdellhoaaChecked
import GoSem.Claim
import GoSem.ClaimJoined
import GoSem.ClaimMapViews
import Derived.JoinedTies
import Derived.KernelRfl
namespace Go.Proofs.Ytkfhampdellhoaa
/- THE CELL 'sum', in the pinned program and in every row, IS THE sha256 OF THE DUMP (.gsa) THAT YtkfhampdellhoaaProg.lean LOADS. Nothing in Lean hashes anything: it is a label: what it is worth is what the hold of that sum in a sandbox is worth. -/
noncomputable def Try.pinned : Pinned := { name := "ytkfhampdellhoaa", sum := "3f62ebeb744fcb92014a821a8e4767263db0175e610d4ce9724fdcd3952bcc65", checked := Try.checked }
namespace Rows
def none {H : Type} : Left H := { results := [], args := [] }

/-- 'overlaylaw13.MotionTravels': WHATEVER THE INPUT: true; the input reads as it did. -/
def motionTravelsSpec : ChangeSpec := { name := "motionTravels", fn := fun _ => fun
  | [d1, d2] => { results := [.lit (.bool true)], args := [d1, d2] }
  | _ => none }
def motionTravelsRow : OpenClaim := { program := "ytkfhampdellhoaa", sum := "3f62ebeb744fcb92014a821a8e4767263db0175e610d4ce9724fdcd3952bcc65", func := "overlay/overlaylaw13.MotionTravels", spec := "motionTravels", apart := false }
def MotionTravelsSaid : Prop := motionTravelsRow.holds Try.pinned (OpenSpec.ofChange motionTravelsSpec)

/-- ITS FALSE NEIGHBOUR: 'it returns false'. Refute it at one input. -/
def motionTravelsWrong : ChangeSpec := { name := "motionTravels", fn := fun _ => fun
  | [d1, d2] => { results := [.lit (.bool false)], args := [d1, d2] }
  | _ => none }
def MotionTravelsWrongFalsely : Prop := motionTravelsRow.holds Try.pinned (OpenSpec.ofChange motionTravelsWrong)

/-- 'overlaylaw13.MotionWaits': WHATEVER THE INPUT: true; the input reads as it did. -/
def motionWaitsSpec : ChangeSpec := { name := "motionWaits", fn := fun _ => fun
  | [d1, d2, d3] => { results := [.lit (.bool true)], args := [d1, d2, d3] }
  | _ => none }
def motionWaitsRow : OpenClaim := { program := "ytkfhampdellhoaa", sum := "3f62ebeb744fcb92014a821a8e4767263db0175e610d4ce9724fdcd3952bcc65", func := "overlay/overlaylaw13.MotionWaits", spec := "motionWaits", apart := false }
def MotionWaitsSaid : Prop := motionWaitsRow.holds Try.pinned (OpenSpec.ofChange motionWaitsSpec)

/-- ITS FALSE NEIGHBOUR: 'it returns false'. Refute it at one input. -/
def motionWaitsWrong : ChangeSpec := { name := "motionWaits", fn := fun _ => fun
  | [d1, d2, d3] => { results := [.lit (.bool false)], args := [d1, d2, d3] }
  | _ => none }
def MotionWaitsWrongFalsely : Prop := motionWaitsRow.holds Try.pinned (OpenSpec.ofChange motionWaitsWrong)

/-- 'overlaylaw13.MotionSteps': WHATEVER THE INPUT: true; the input reads as it did. -/
def motionStepsSpec : ChangeSpec := { name := "motionSteps", fn := fun _ => fun
  | [d1, d2, d3] => { results := [.lit (.bool true)], args := [d1, d2, d3] }
  | _ => none }
def motionStepsRow : OpenClaim := { program := "ytkfhampdellhoaa", sum := "3f62ebeb744fcb92014a821a8e4767263db0175e610d4ce9724fdcd3952bcc65", func := "overlay/overlaylaw13.MotionSteps", spec := "motionSteps", apart := false }
def MotionStepsSaid : Prop := motionStepsRow.holds Try.pinned (OpenSpec.ofChange motionStepsSpec)

/-- ITS FALSE NEIGHBOUR: 'it returns false'. Refute it at one input. -/
def motionStepsWrong : ChangeSpec := { name := "motionSteps", fn := fun _ => fun
  | [d1, d2, d3] => { results := [.lit (.bool false)], args := [d1, d2, d3] }
  | _ => none }
def MotionStepsWrongFalsely : Prop := motionStepsRow.holds Try.pinned (OpenSpec.ofChange motionStepsWrong)

/-- 'overlaylaw13.MotionBlind': WHATEVER THE INPUT: true; the input reads as it did. -/
def motionBlindSpec : ChangeSpec := { name := "motionBlind", fn := fun _ => fun
  | [d] => { results := [.lit (.bool true)], args := [d] }
  | _ => none }
def motionBlindRow : OpenClaim := { program := "ytkfhampdellhoaa", sum := "3f62ebeb744fcb92014a821a8e4767263db0175e610d4ce9724fdcd3952bcc65", func := "overlay/overlaylaw13.MotionBlind", spec := "motionBlind", apart := false }
def MotionBlindSaid : Prop := motionBlindRow.holds Try.pinned (OpenSpec.ofChange motionBlindSpec)

/-- ITS FALSE NEIGHBOUR: 'it returns false'. Refute it at one input. -/
def motionBlindWrong : ChangeSpec := { name := "motionBlind", fn := fun _ => fun
  | [d] => { results := [.lit (.bool false)], args := [d] }
  | _ => none }
def MotionBlindWrongFalsely : Prop := motionBlindRow.holds Try.pinned (OpenSpec.ofChange motionBlindWrong)

/-- 'overlaylaw14.ParkMoves': WHATEVER THE INPUT: true; the input reads as it did. -/
def parkMovesSpec : ChangeSpec := { name := "parkMoves", fn := fun _ => fun
  | [d1, d2, d3] => { results := [.lit (.bool true)], args := [d1, d2, d3] }
  | _ => none }
def parkMovesRow : OpenClaim := { program := "ytkfhampdellhoaa", sum := "3f62ebeb744fcb92014a821a8e4767263db0175e610d4ce9724fdcd3952bcc65", func := "overlay/overlaylaw14.ParkMoves", spec := "parkMoves", apart := false }
def ParkMovesSaid : Prop := parkMovesRow.holds Try.pinned (OpenSpec.ofChange parkMovesSpec)

/-- ITS FALSE NEIGHBOUR: 'it returns false'. Refute it at one input. -/
def parkMovesWrong : ChangeSpec := { name := "parkMoves", fn := fun _ => fun
  | [d1, d2, d3] => { results := [.lit (.bool false)], args := [d1, d2, d3] }
  | _ => none }
def ParkMovesWrongFalsely : Prop := parkMovesRow.holds Try.pinned (OpenSpec.ofChange parkMovesWrong)

/-- 'overlaylaw14.ParkEnds': WHATEVER THE INPUT: true; the input reads as it did. -/
def parkEndsSpec : ChangeSpec := { name := "parkEnds", fn := fun _ => fun
  | [d1, d2, d3] => { results := [.lit (.bool true)], args := [d1, d2, d3] }
  | _ => none }
def parkEndsRow : OpenClaim := { program := "ytkfhampdellhoaa", sum := "3f62ebeb744fcb92014a821a8e4767263db0175e610d4ce9724fdcd3952bcc65", func := "overlay/overlaylaw14.ParkEnds", spec := "parkEnds", apart := false }
def ParkEndsSaid : Prop := parkEndsRow.holds Try.pinned (OpenSpec.ofChange parkEndsSpec)

/-- ITS FALSE NEIGHBOUR: 'it returns false'. Refute it at one input. -/
def parkEndsWrong : ChangeSpec := { name := "parkEnds", fn := fun _ => fun
  | [d1, d2, d3] => { results := [.lit (.bool false)], args := [d1, d2, d3] }
  | _ => none }
def ParkEndsWrongFalsely : Prop := parkEndsRow.holds Try.pinned (OpenSpec.ofChange parkEndsWrong)

/-- 'overlaylaw14.ParkSpreads': WHATEVER THE INPUT: true; the input reads as it did. -/
def parkSpreadsSpec : ChangeSpec := { name := "parkSpreads", fn := fun _ => fun
  | [d1, d2] => { results := [.lit (.bool true)], args := [d1, d2] }
  | _ => none }
def parkSpreadsRow : OpenClaim := { program := "ytkfhampdellhoaa", sum := "3f62ebeb744fcb92014a821a8e4767263db0175e610d4ce9724fdcd3952bcc65", func := "overlay/overlaylaw14.ParkSpreads", spec := "parkSpreads", apart := false }
def ParkSpreadsSaid : Prop := parkSpreadsRow.holds Try.pinned (OpenSpec.ofChange parkSpreadsSpec)

/-- ITS FALSE NEIGHBOUR: 'it returns false'. Refute it at one input. -/
def parkSpreadsWrong : ChangeSpec := { name := "parkSpreads", fn := fun _ => fun
  | [d1, d2] => { results := [.lit (.bool false)], args := [d1, d2] }
  | _ => none }
def ParkSpreadsWrongFalsely : Prop := parkSpreadsRow.holds Try.pinned (OpenSpec.ofChange parkSpreadsWrong)

/- THE SECOND FORM. 'bulk': how many values and letters a reading holds, each counted each time it is reached (what is shared counts as often as it is met; a slice's spare places count too). A statement '..UptoSaid' is the law's where the arguments, and the package variables that the reading takes, are together of bulk at most 1048576: NARROWER than '..Said'. Prove '..Said' where nothing that the law and all that it calls make is longer than what came in: it says more and counts as full. Else prove '..UptoSaid'. A law counts once. -/
mutual
def uptoBulk {H : Type} : DataW H → Nat
  | .lit (.string bytes) => bytes.length + 1
  | .lit _ => 1
  | .nil => 1
  | .ptr d => uptoBulk d + 1
  | .slice elems spare => uptoBulkAll elems + uptoBulkAll spare + 1
  | .agg parts => uptoBulkAll parts + 1
  | .iface _ d => uptoBulk d + 1
  | .map entries => uptoBulkEntries entries + 1
  | .held _ => 1
def uptoBulkAll {H : Type} : List (DataW H) → Nat
  | [] => 0
  | d :: r => uptoBulk d + uptoBulkAll r
def uptoBulkEntries {H : Type} : List (Lit × DataW H) → Nat
  | [] => 0
  | x :: r => uptoBulkEntry x + uptoBulkEntries r
def uptoBulkEntry {H : Type} : Lit × DataW H → Nat
  | (.string bytes, d) => bytes.length + uptoBulk d + 1
  | (_, d) => uptoBulk d + 1
 end
def uptoSmall : (H : Type) → List (DataW H) → Bool := fun _ ds => decide (uptoBulkAll ds ≤ 1048576)
def OpenSpec.upto (s : _root_.Go.ChangeSpec) : _root_.Go.OpenSpec := { _root_.Go.OpenSpec.ofChange s with cond := some uptoSmall }

/-- 'overlaylaw13.MotionTravels', WHERE WHAT IT READS IS OF BULK AT MOST 1048576: true; the input reads as it did. -/
def motionTravelsUptoRow : OpenClaim := { program := "ytkfhampdellhoaa", sum := "3f62ebeb744fcb92014a821a8e4767263db0175e610d4ce9724fdcd3952bcc65", func := "overlay/overlaylaw13.MotionTravels", spec := "motionTravels", apart := false, narrowed := true }
def MotionTravelsUptoSaid : Prop := motionTravelsUptoRow.holds Try.pinned (OpenSpec.upto motionTravelsSpec)

/-- 'overlaylaw13.MotionWaits', WHERE WHAT IT READS IS OF BULK AT MOST 1048576: true; the input reads as it did. -/
def motionWaitsUptoRow : OpenClaim := { program := "ytkfhampdellhoaa", sum := "3f62ebeb744fcb92014a821a8e4767263db0175e610d4ce9724fdcd3952bcc65", func := "overlay/overlaylaw13.MotionWaits", spec := "motionWaits", apart := false, narrowed := true }
def MotionWaitsUptoSaid : Prop := motionWaitsUptoRow.holds Try.pinned (OpenSpec.upto motionWaitsSpec)

/-- 'overlaylaw13.MotionSteps', WHERE WHAT IT READS IS OF BULK AT MOST 1048576: true; the input reads as it did. -/
def motionStepsUptoRow : OpenClaim := { program := "ytkfhampdellhoaa", sum := "3f62ebeb744fcb92014a821a8e4767263db0175e610d4ce9724fdcd3952bcc65", func := "overlay/overlaylaw13.MotionSteps", spec := "motionSteps", apart := false, narrowed := true }
def MotionStepsUptoSaid : Prop := motionStepsUptoRow.holds Try.pinned (OpenSpec.upto motionStepsSpec)

/-- 'overlaylaw13.MotionBlind', WHERE WHAT IT READS IS OF BULK AT MOST 1048576: true; the input reads as it did. -/
def motionBlindUptoRow : OpenClaim := { program := "ytkfhampdellhoaa", sum := "3f62ebeb744fcb92014a821a8e4767263db0175e610d4ce9724fdcd3952bcc65", func := "overlay/overlaylaw13.MotionBlind", spec := "motionBlind", apart := false, narrowed := true }
def MotionBlindUptoSaid : Prop := motionBlindUptoRow.holds Try.pinned (OpenSpec.upto motionBlindSpec)

/-- 'overlaylaw14.ParkMoves', WHERE WHAT IT READS IS OF BULK AT MOST 1048576: true; the input reads as it did. -/
def parkMovesUptoRow : OpenClaim := { program := "ytkfhampdellhoaa", sum := "3f62ebeb744fcb92014a821a8e4767263db0175e610d4ce9724fdcd3952bcc65", func := "overlay/overlaylaw14.ParkMoves", spec := "parkMoves", apart := false, narrowed := true }
def ParkMovesUptoSaid : Prop := parkMovesUptoRow.holds Try.pinned (OpenSpec.upto parkMovesSpec)

/-- 'overlaylaw14.ParkEnds', WHERE WHAT IT READS IS OF BULK AT MOST 1048576: true; the input reads as it did. -/
def parkEndsUptoRow : OpenClaim := { program := "ytkfhampdellhoaa", sum := "3f62ebeb744fcb92014a821a8e4767263db0175e610d4ce9724fdcd3952bcc65", func := "overlay/overlaylaw14.ParkEnds", spec := "parkEnds", apart := false, narrowed := true }
def ParkEndsUptoSaid : Prop := parkEndsUptoRow.holds Try.pinned (OpenSpec.upto parkEndsSpec)

/-- 'overlaylaw14.ParkSpreads', WHERE WHAT IT READS IS OF BULK AT MOST 1048576: true; the input reads as it did. -/
def parkSpreadsUptoRow : OpenClaim := { program := "ytkfhampdellhoaa", sum := "3f62ebeb744fcb92014a821a8e4767263db0175e610d4ce9724fdcd3952bcc65", func := "overlay/overlaylaw14.ParkSpreads", spec := "parkSpreads", apart := false, narrowed := true }
def ParkSpreadsUptoSaid : Prop := parkSpreadsUptoRow.holds Try.pinned (OpenSpec.upto parkSpreadsSpec)

end Rows
end Go.Proofs.Ytkfhampdellhoaa
