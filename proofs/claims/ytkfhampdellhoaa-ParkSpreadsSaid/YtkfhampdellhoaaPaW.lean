/- The laws' buildings as values (own work). -/
import Derived.Test.YtkfhampdellhoaaQ0
namespace Go.Proofs.Ytkfhampdellhoaa.Sy
open Go
def ctW : Ct := { ct16 with fresh := none }
def GmW : List (Nat × Ct) := (16, ctW) :: GmQ0
theorem gokGmW : GOk GmW := gok_cons (CtOk.weak ok16) ⟨_, Try.func16, by kernel_rfl, by kernel_rfl⟩ gokGmQ0
end Go.Proofs.Ytkfhampdellhoaa.Sy
