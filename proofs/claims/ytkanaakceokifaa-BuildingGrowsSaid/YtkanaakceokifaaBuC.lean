/- The plain laws of chapter 1, first part (own work). -/
import Derived.Test.YtkanaakceokifaaT5
import Derived.Test.YtkanaakceokifaaTr
namespace Go.Proofs.Ytkanaakceokifaa.Sp
open Go Sy
theorem sane_true : F14 () = true := by kernel_rfl
theorem law_valid (x : BldT) (h : InR ty25 x) : F3 x = true := by
  unfold F3
  have hl : x.cars.length ≤ maxLen := h.2.2.2.2.2.2.2.1
  rw [valid_eq x hl, rvalid_eq x hl, sane_true]
  simp
end Go.Proofs.Ytkanaakceokifaa.Sp
