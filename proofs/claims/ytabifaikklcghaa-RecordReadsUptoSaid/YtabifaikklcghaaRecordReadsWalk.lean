/- RecordReads: the call of the law returns true (written by own program mkwalk.py, out of the contract and the plain law). -/
import Derived.Test.YtabifaikklcghaaOpen
import Derived.Test.YtabifaikklcghaaTr
import Derived.Test.YtabifaikklcghaaY5
import Derived.Test.YtabifaikklcghaaRd
namespace Go.Proofs.Ytabifaikklcghaa.Sy
open Go Go.RowKit
set_option linter.unusedVariables false
set_option linter.unusedSimpArgs false
set_option maxRecDepth 100000
theorem tr_T5 {w : World} (cs : List Value) (h : E_T5 cs) : ∃ x : ty5.den, TR w (fun _ _ => False) ty5 x cs ∧ InR ty5 x := by
  obtain ⟨a0, rfl, w0⟩ := h
  exact ⟨a0, tr_of ⟨rfl, trivial⟩, w0⟩
def vLen : Value → Nat | .slice _ n _ => n | _ => 0
theorem lr_len {w : World} {X : Nat → Nat → Prop} {α : Type} {n : Nat} {R : α → List Value → Prop} {l : List α} {v : Value} (h : LR w X n R l v) : l.length = vLen v := by
  rcases h with ⟨rfl, rfl⟩ | ⟨a, cap, rfl, _⟩ <;> rfl
theorem walk_RecordReads (a0_0 : Int) (a1_0 : Value) (a2_0 : Value) (w : World) (w0_0 : (Lit.int .u8 a0_0).wf = true) (w1_0 : IsSlice w 1 E_T5 a1_0) (w2_0 : IsSlice w 1 E_T5 a2_0) (u1_0 : vLen a1_0 ≤ 1048576) (u2_0 : vLen a2_0 ≤ 1048576) :
    Calls Try.prog 9 #[.int .u8 a0_0, a1_0, a2_0] w fun e w' => e = .returned (.bool true) ∧ Below w.heap.size w w' := by
  obtain ⟨l1_0, t1_0, r1_0⟩ := slice_tr (e := ty5) rfl tr_T5 w1_0
  obtain ⟨l2_0, t2_0, r2_0⟩ := slice_tr (e := ty5) rfl tr_T5 w2_0
  have hp : Sp.pre9 (a0_0, l1_0, l2_0) := by
    have v1_0 := lr_len t1_0
    have v2_0 := lr_len t2_0
    simp only [InR, Lit.wf, Bool.and_eq_true, decide_eq_true_eq] at w0_0 r1_0 r2_0
    try simp only [show IntKind.u8.min = 0 from rfl, show IntKind.u8.max = 255 from rfl, show IntKind.u16.min = 0 from rfl, show IntKind.u16.max = 65535 from rfl, show IntKind.u32.min = 0 from rfl, show IntKind.u32.max = 4294967295 from rfl] at w0_0 r1_0 r2_0
    simp only [Sp.pre9]
    repeat' (first | exact trivial | apply And.intro)
    all_goals first | omega | (intro v hv; first | exact r1_0.2 v hv | exact r2_0.2 v hv)
  exact call_true ok9 (a0_0, l1_0, l2_0) w _ [.int .u8 a0_0, a1_0, a2_0] trivial (fun p hq => by cases hq; exact hp) ⟨_, rfl, ⟨_, rfl, ⟨_, rfl, rfl⟩⟩⟩ (tr_of ⟨rfl, ⟨t1_0, trivial⟩, ⟨t2_0, trivial⟩, trivial⟩) (Sp.law_reads _ ⟨w0_0, r1_0, r2_0⟩)
end Go.Proofs.Ytabifaikklcghaa.Sy
