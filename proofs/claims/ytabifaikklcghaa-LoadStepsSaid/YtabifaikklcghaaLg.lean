/- Edges: how many (own work). -/
import Derived.Test.YtabifaikklcghaaK2
namespace Go.Proofs.Ytabifaikklcghaa.Sp
open Go Sy Ieee
set_option maxRecDepth 10000
theorem edges_len (b : BldT) : (F32 b).length = 27 := by kernel_rfl
end Go.Proofs.Ytabifaikklcghaa.Sp
