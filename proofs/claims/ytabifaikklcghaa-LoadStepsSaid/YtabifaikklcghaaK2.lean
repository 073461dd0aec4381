/- Contracts of functions, by the evaluator (own program gen.py): load.Run, overlaylaw06.Edges. -/
import Derived.Test.YtabifaikklcghaaK1
set_option linter.unusedVariables false
set_option linter.unusedSimpArgs false
set_option maxRecDepth 100000
namespace Go.Proofs.Ytabifaikklcghaa.Sy
open Go Go.RowKit Sp
/-! load.Run -/
end Go.Proofs.Ytabifaikklcghaa.Sy
namespace Go.Proofs.Ytabifaikklcghaa.Sp
open Go Go.RowKit Sy
def in24_5 (k : ((List Nat) × Int × Int × Int × Int × Int × Nat × Nat × Nat × List (Int × Int × Int × Int × Int × Int × Int × Int × Int))) (x : ((List Int) × Int × Int)) : Prop := (0 : Int) ≤ x.2.1 ∧ k.2.1 = ((k.1).length : Int) ∧ (x.1.length : Int) ≤ x.2.1 ∧ k.1.length ≤ 5000
def mu24_5 (k : ((List Nat) × Int × Int × Int × Int × Int × Nat × Nat × Nat × List (Int × Int × Int × Int × Int × Int × Int × Int × Int))) (x : ((List Int) × Int × Int)) : Nat := (k.2.1 - x.2.1).toNat
def st24_5 (k : ((List Nat) × Int × Int × Int × Int × Int × Nat × Nat × Nat × List (Int × Int × Int × Int × Int × Int × Int × Int × Int))) (x : ((List Int) × Int × Int)) : BOut ((List Nat) × Int × Int × Int × Int × Int × Nat × Nat × Nat × List (Int × Int × Int × Int × Int × Int × Int × Int × Int)) ((List Int) × Int × Int) (List Int) :=
  bif (decide (x.2.1 < k.2.1)) then
    BOut.next k ((x.1 ++ [(Sp.F29 (k.2.2, x.2.2, (Sp.nthT k.1 x.2.1)))]), (IntKind.i64.wrap (x.2.1 + (1 : Int))), (Sp.F29 (k.2.2, x.2.2, (Sp.nthT k.1 x.2.1))))
  else
    BOut.brk k x
def G24_5 (k : ((List Nat) × Int × Int × Int × Int × Int × Nat × Nat × Nat × List (Int × Int × Int × Int × Int × Int × Int × Int × Int))) (x : ((List Int) × Int × Int)) : ((List Int) × Int × Int) := endOf st24_5 k (Nat.succ (mu24_5 k x)) x
end Go.Proofs.Ytabifaikklcghaa.Sp
namespace Go.Proofs.Ytabifaikklcghaa.Sy
def LS24_5 : LS ty47.den := mkLS (Ty.pair ty44 (Ty.pair ty3 ty28)) (Ty.pair ty47 (Ty.pair ty3 ty50))  [(13, none), (14, none)] [(3, 8)] [(7, none), (15, none)] [(4, 1)] [(0, 100500, true, 3)] [] [(3, 3), (4, 4)] 0 false Sp.in24_5 Sp.st24_5 Sp.mu24_5
theorem va24_5 (k : (Ty.pair ty44 (Ty.pair ty3 ty28)).den) (x : (Ty.pair ty47 (Ty.pair ty3 ty50)).den) : ((evCode (ctxG GmK1) (lookL []) (bodyAt (bodyOf Try.f24) [0]) (tmpl LS24_5 (enc (Ty.pair ty44 (Ty.pair ty3 ty28)) k) (enc (Ty.pair ty47 (Ty.pair ty3 ty50)) x)) (evRound LS24_5 (evRet (ctxG GmK1) Try.f24 (Rsh.one (none)) (some 3) ty47 .ret)))).val BOut.ret (BOut.brk (Ty.dflt (Ty.pair ty44 (Ty.pair ty3 ty28))) (Ty.dflt (Ty.pair ty47 (Ty.pair ty3 ty50)))) = Sp.st24_5 k x := by kernel_rfl
theorem se24_5 (k : (Ty.pair ty44 (Ty.pair ty3 ty28)).den) (x : (Ty.pair ty47 (Ty.pair ty3 ty50)).den) : ((evCode (ctxG GmK1) (lookL []) (bodyAt (bodyOf Try.f24) [0]) (tmpl LS24_5 (enc (Ty.pair ty44 (Ty.pair ty3 ty28)) k) (enc (Ty.pair ty47 (Ty.pair ty3 ty50)) x)) (evRound LS24_5 (evRet (ctxG GmK1) Try.f24 (Rsh.one (none)) (some 3) ty47 .ret)))).safe = ((((decide (x.2.1 < k.2.1)) = true → ((0 ≤ x.2.1 ∧ x.2.1 < ((k.1).length : Int)) ∧ (((List.length (x.1 : List Int) + List.length ([(Sp.F29 (k.2.2, x.2.2, (Sp.nthT k.1 x.2.1)))] : List Int)) * 8 ≤ 140737488355328 ∧ List.length (x.1 : List Int) + List.length ([(Sp.F29 (k.2.2, x.2.2, (Sp.nthT k.1 x.2.1)))] : List Int) ≤ 4611686018427387903) ∧ True))) ∧ ((decide (x.2.1 < k.2.1)) = false → True))) := by kernel_rfl
set_option maxHeartbeats 4000000 in
theorem sa24_5 (k : (Ty.pair ty44 (Ty.pair ty3 ty28)).den) (x : (Ty.pair ty47 (Ty.pair ty3 ty50)).den) (fk : Fit (Ty.pair ty44 (Ty.pair ty3 ty28)) k) (fx : Fit (Ty.pair ty47 (Ty.pair ty3 ty50)) x) (h : Sp.in24_5 k x) : SafeW ((evCode (ctxG GmK1) (lookL []) (bodyAt (bodyOf Try.f24) [0]) (tmpl LS24_5 (enc (Ty.pair ty44 (Ty.pair ty3 ty28)) k) (enc (Ty.pair ty47 (Ty.pair ty3 ty50)) x)) (evRound LS24_5 (evRet (ctxG GmK1) Try.f24 (Rsh.one (none)) (some 3) ty47 .ret)))) := by
  refine ⟨?_⟩
  rw [se24_5]
  try dsimp only [Ty.den] at *
  simp only [Sp.in24_5, Fit, maxLen] at h fk fx
  simp only [IntKind.wrap_i64, IntKind.wrap_u8, IntKind.wrap_u32, IntKind.wrap_u64, Sp.tmod_lit, Sp.tdiv_lit, bne_eq_false_iff_eq, Int.natCast_inj, setE, copyL, sliceL, zrow, List.length_append, List.length_cons, List.length_nil, List.length_set, List.length_replicate, List.length_take, List.length_drop, decide_eq_true_eq, decide_eq_false_iff_not, Bool.or_eq_true, Bool.and_eq_true, Bool.or_eq_false_iff, Bool.and_eq_false_iff, Bool.not_eq_true', Bool.not_eq_false', Bool.not_eq_true, Bool.not_eq_false, beq_iff_eq, beq_eq_false_iff_ne, bne_iff_ne, ne_eq, implies_true, and_true, true_and] at *
  all_goals ((repeat' (first | exact trivial | apply And.intro | intro _)) <;> first | trivial | omega | exact Sp.tmod_nn (by omega) | exact Sp.tmod_lt (by omega) (by omega))
set_option maxHeartbeats 4000000 in
theorem so24_5 (k : (Ty.pair ty44 (Ty.pair ty3 ty28)).den) (x : (Ty.pair ty47 (Ty.pair ty3 ty50)).den) (fk : Fit (Ty.pair ty44 (Ty.pair ty3 ty28)) k) (h : Sp.in24_5 k x) : StepOk false Sp.in24_5 Sp.mu24_5 k x (Sp.st24_5 k x) := by
  try dsimp only [Ty.den] at *
  simp only [Sp.in24_5, Fit, maxLen] at h fk
  unfold Sp.st24_5
  (repeat' (first | exact rfl | (refine StepOk.cnd (fun hc => ?_) (fun hc => ?_) <;> (try simp only [IntKind.wrap_i64, IntKind.wrap_u8, IntKind.wrap_u32, IntKind.wrap_u64, bne_eq_false_iff_eq, Int.natCast_inj, setE, copyL, sliceL, zrow, List.length_append, List.length_cons, List.length_nil, List.length_set, List.length_replicate, List.length_take, List.length_drop, decide_eq_true_eq, decide_eq_false_iff_not, Bool.or_eq_true, Bool.and_eq_true, Bool.or_eq_false_iff, Bool.and_eq_false_iff, Bool.not_eq_true', Bool.not_eq_false', Bool.not_eq_true, Bool.not_eq_false, beq_iff_eq, beq_eq_false_iff_ne, bne_iff_ne, ne_eq] at hc)) | refine StepOk.opt (fun _ => ?_))) <;> (first | exact rfl | (refine ⟨rfl, ?_, ?_⟩ <;> simp only [Sp.in24_5, Sp.mu24_5, IntKind.wrap_i64, IntKind.wrap_u8, IntKind.wrap_u32, IntKind.wrap_u64, Sp.tmod_lit, Sp.tdiv_lit, bne_eq_false_iff_eq, Int.natCast_inj, setE, copyL, sliceL, zrow, List.length_append, List.length_cons, List.length_nil, List.length_set, List.length_replicate, List.length_take, List.length_drop, decide_eq_true_eq, decide_eq_false_iff_not, Bool.or_eq_true, Bool.and_eq_true, Bool.or_eq_false_iff, Bool.and_eq_false_iff, Bool.not_eq_true', Bool.not_eq_false', Bool.not_eq_true, Bool.not_eq_false, beq_iff_eq, beq_eq_false_iff_ne, bne_iff_ne, ne_eq] <;> first | omega | (and_intros <;> first | omega | exact h.1 | exact h.2 | exact h.2.1 | exact h.2.2 | exact h.2.2.1 | exact h.2.2.2 | exact h.2.2.2.1 | exact h.2.2.2.2 | exact h.2.2.2.2.1 | exact h.2.2.2.2.2 | exact h.2.2.2.2.2.1 | exact h.2.2.2.2.2.2)))
theorem lo24_5 : LoopOk Try.prog gdS (RetAt Try.prog Try.f24 (Rsh.one (none)) (some 3) ty47) (bodyAt (bodyOf Try.f24) [0]) LS24_5 :=
  loop_run (ctxOkF gokGmK1 []) (L := lookL []) (loops_of (l := []) (by kernel_rfl) (loops_nil)) sa24_5 va24_5 so24_5
end Go.Proofs.Ytabifaikklcghaa.Sy
namespace Go.Proofs.Ytabifaikklcghaa.Sp
open Go Go.RowKit Sy
def F24 (x : (Int × Int × Int × Int × Nat × Nat × Nat × List (Int × Int × Int × Int × Int × Int × Int × Int × Int)) × Int × List Nat) : List Int :=
  bif (decide (((x.2.2).length : Int) > (5000 : Int))) then
    []
  else
    (Sp.G24_5 (x.2.2, ((x.2.2).length : Int), x.1) ([], (0 : Int), x.2.1)).1
end Go.Proofs.Ytabifaikklcghaa.Sp
namespace Go.Proofs.Ytabifaikklcghaa.Sy
def ct24 : Ct := { p := (Ty.pair ty28 (Ty.pair ty50 ty44)), psh := [some 8, some 1, none], r := ty47, rsh := (Rsh.one (none)), pre := none, fresh := (some 3), F := Sp.F24 }
theorem va24 (x : (Ty.pair ty28 (Ty.pair ty50 ty44)).den) : ((evFn (ctxG GmK1) Try.f24 (Ty.pair ty28 (Ty.pair ty50 ty44)) [some 8, some 1, none] (Rsh.one (none)) (some 3) ty47 (lookL [(5, LS24_5)]) x)).val (fun y => y) (Ty.dflt ty47) = Sp.F24 x := by kernel_rfl
theorem se24 (x : (Ty.pair ty28 (Ty.pair ty50 ty44)).den) : ((evFn (ctxG GmK1) Try.f24 (Ty.pair ty28 (Ty.pair ty50 ty44)) [some 8, some 1, none] (Rsh.one (none)) (some 3) ty47 (lookL [(5, LS24_5)]) x)).safe = ((((decide (((x.2.2).length : Int) > (5000 : Int))) = true → True) ∧ ((decide (((x.2.2).length : Int) > (5000 : Int))) = false → ((Sp.in24_5 (x.2.2, ((x.2.2).length : Int), x.1) ([], (0 : Int), x.2.1)) ∧ True)))) := by kernel_rfl
theorem sa24 (x : (Ty.pair ty28 (Ty.pair ty50 ty44)).den) (fx : Fit (Ty.pair ty28 (Ty.pair ty50 ty44)) x) : SafeW ((evFn (ctxG GmK1) Try.f24 (Ty.pair ty28 (Ty.pair ty50 ty44)) [some 8, some 1, none] (Rsh.one (none)) (some 3) ty47 (lookL [(5, LS24_5)]) x)) := by
  refine ⟨?_⟩
  rw [se24]
  try dsimp only [Ty.den] at *
  simp only [Fit, maxLen] at fx
  simp only [Sp.in24_5, IntKind.wrap_i64, IntKind.wrap_u8, IntKind.wrap_u32, IntKind.wrap_u64, Sp.tmod_lit, Sp.tdiv_lit, bne_eq_false_iff_eq, Int.natCast_inj, setE, copyL, sliceL, zrow, List.length_append, List.length_cons, List.length_nil, List.length_set, List.length_replicate, List.length_take, List.length_drop, decide_eq_true_eq, decide_eq_false_iff_not, Bool.or_eq_true, Bool.and_eq_true, Bool.or_eq_false_iff, Bool.and_eq_false_iff, Bool.not_eq_true', Bool.not_eq_false', Bool.not_eq_true, Bool.not_eq_false, beq_iff_eq, beq_eq_false_iff_ne, bne_iff_ne, ne_eq, implies_true, and_true, true_and] at *
  all_goals ((repeat' (first | exact trivial | apply And.intro | intro _)) <;> first | trivial | omega | exact Sp.tmod_nn (by omega) | exact Sp.tmod_lt (by omega) (by omega))
theorem ok24 : CtOk Try.prog gdS 24 ct24 :=
  fn_okU (ctxOkF gokGmK1 []) rfl Try.func24 (p := (Ty.pair ty28 (Ty.pair ty50 ty44))) (psh := [some 8, some 1, none]) (r := ty47) (rsh := (Rsh.one (none))) (pre := none) (fresh := (some 3)) (F := Sp.F24) (L := (lookL [(5, LS24_5)])) (c := bodyOf Try.f24) (dflt := Ty.dflt ty47) rfl (loops_of (l := [bodyAt (bodyOf Try.f24) [0]]) (by kernel_rfl) (loops_cons (s0 := LS24_5) (by kernel_rfl) lo24_5 (loops_nil)))
    (safe_no @sa24) va24
/-! overlaylaw06.Edges -/
end Go.Proofs.Ytabifaikklcghaa.Sy
namespace Go.Proofs.Ytabifaikklcghaa.Sp
open Go Go.RowKit Sy
def in32_3 (k : ((List Nat) × Int)) (x : ((List Nat) × Int)) : Prop := (0 : Int) ≤ x.2 ∧ k.2 = ((k.1).length : Int) ∧ (∀ t ∈ k.1, Sp.IsNum t) ∧ k.1.length = 3 ∧ (x.1.length : Int) ≤ 9 + 6 * x.2
def mu32_3 (k : ((List Nat) × Int)) (x : ((List Nat) × Int)) : Nat := (k.2 - x.2).toNat
def K32_3_1 (k : ((List Nat) × Int)) (x : ((List Nat) × Int)) :=
  (x.1 ++ [(Sp.nthT k.1 x.2), (Sp.F47 ((Sp.nthT k.1 x.2), (9109340329147925583 : Nat))), (Sp.F47 ((Sp.nthT k.1 x.2), (13830554455654793216 : Nat))), ((FloatKind.f64.format.sub (Sp.nthT k.1 x.2) (4589168020290535424 : Nat)).getD 0), (Sp.F47 (((FloatKind.f64.format.sub (Sp.nthT k.1 x.2) (4589168020290535424 : Nat)).getD 0), (13830554455654793216 : Nat))), (Sp.F47 (((FloatKind.f64.format.sub (Sp.nthT k.1 x.2) (4589168020290535424 : Nat)).getD 0), (9109340329147925583 : Nat)))])
def st32_3 (k : ((List Nat) × Int)) (x : ((List Nat) × Int)) : BOut ((List Nat) × Int) ((List Nat) × Int) (List Nat) :=
  bif (decide (x.2 < k.2)) then
    BOut.next k ((Sp.K32_3_1 k x), (IntKind.i64.wrap (x.2 + (1 : Int))))
  else
    BOut.brk k x
def G32_3 (k : ((List Nat) × Int)) (x : ((List Nat) × Int)) : ((List Nat) × Int) := endOf st32_3 k (Nat.succ (mu32_3 k x)) x
end Go.Proofs.Ytabifaikklcghaa.Sp
namespace Go.Proofs.Ytabifaikklcghaa.Sy
def LS32_3 : LS ty44.den := mkLS (Ty.pair ty44 ty3) (Ty.pair ty44 ty3)  [(17, none), (18, none)] [] [(3, none), (19, none)] [] [(0, 100300, false, 25)] [] [] 0 false Sp.in32_3 Sp.st32_3 Sp.mu32_3
theorem va32_3 (k : (Ty.pair ty44 ty3).den) (x : (Ty.pair ty44 ty3).den) : ((evCode (ctxG GmK1) (lookL []) (bodyAt (bodyOf Try.f32) [0]) (tmpl LS32_3 (enc (Ty.pair ty44 ty3) k) (enc (Ty.pair ty44 ty3) x)) (evRound LS32_3 (evRet (ctxG GmK1) Try.f32 (Rsh.one (none)) (some 1000025) ty44 .ret)))).val BOut.ret (BOut.brk (Ty.dflt (Ty.pair ty44 ty3)) (Ty.dflt (Ty.pair ty44 ty3))) = Sp.st32_3 k x := by kernel_rfl
theorem se32_3 (k : (Ty.pair ty44 ty3).den) (x : (Ty.pair ty44 ty3).den) : ((evCode (ctxG GmK1) (lookL []) (bodyAt (bodyOf Try.f32) [0]) (tmpl LS32_3 (enc (Ty.pair ty44 ty3) k) (enc (Ty.pair ty44 ty3) x)) (evRound LS32_3 (evRet (ctxG GmK1) Try.f32 (Rsh.one (none)) (some 1000025) ty44 .ret)))).safe = ((((decide (x.2 < k.2)) = true → ((0 ≤ x.2 ∧ x.2 < ((k.1).length : Int)) ∧ (((FloatKind.f64.format.sub (Sp.nthT k.1 x.2) (4589168020290535424 : Nat)).isSome = true) ∧ (((FloatKind.f64.format.sub (Sp.nthT k.1 x.2) (4589168020290535424 : Nat)).isSome = true) ∧ (((FloatKind.f64.format.sub (Sp.nthT k.1 x.2) (4589168020290535424 : Nat)).isSome = true) ∧ (((List.length (x.1 : List Nat) + List.length ([(Sp.nthT k.1 x.2), (Sp.F47 ((Sp.nthT k.1 x.2), (9109340329147925583 : Nat))), (Sp.F47 ((Sp.nthT k.1 x.2), (13830554455654793216 : Nat))), ((FloatKind.f64.format.sub (Sp.nthT k.1 x.2) (4589168020290535424 : Nat)).getD 0), (Sp.F47 (((FloatKind.f64.format.sub (Sp.nthT k.1 x.2) (4589168020290535424 : Nat)).getD 0), (13830554455654793216 : Nat))), (Sp.F47 (((FloatKind.f64.format.sub (Sp.nthT k.1 x.2) (4589168020290535424 : Nat)).getD 0), (9109340329147925583 : Nat)))] : List Nat)) * 8 ≤ 140737488355328 ∧ List.length (x.1 : List Nat) + List.length ([(Sp.nthT k.1 x.2), (Sp.F47 ((Sp.nthT k.1 x.2), (9109340329147925583 : Nat))), (Sp.F47 ((Sp.nthT k.1 x.2), (13830554455654793216 : Nat))), ((FloatKind.f64.format.sub (Sp.nthT k.1 x.2) (4589168020290535424 : Nat)).getD 0), (Sp.F47 (((FloatKind.f64.format.sub (Sp.nthT k.1 x.2) (4589168020290535424 : Nat)).getD 0), (13830554455654793216 : Nat))), (Sp.F47 (((FloatKind.f64.format.sub (Sp.nthT k.1 x.2) (4589168020290535424 : Nat)).getD 0), (9109340329147925583 : Nat)))] : List Nat) ≤ 4611686018427387903) ∧ True)))))) ∧ ((decide (x.2 < k.2)) = false → True))) := by kernel_rfl
set_option maxHeartbeats 4000000 in
theorem sa32_3 (k : (Ty.pair ty44 ty3).den) (x : (Ty.pair ty44 ty3).den) (fk : Fit (Ty.pair ty44 ty3) k) (fx : Fit (Ty.pair ty44 ty3) x) (h : Sp.in32_3 k x) : SafeW ((evCode (ctxG GmK1) (lookL []) (bodyAt (bodyOf Try.f32) [0]) (tmpl LS32_3 (enc (Ty.pair ty44 ty3) k) (enc (Ty.pair ty44 ty3) x)) (evRound LS32_3 (evRet (ctxG GmK1) Try.f32 (Rsh.one (none)) (some 1000025) ty44 .ret)))) := by
  refine ⟨?_⟩
  rw [se32_3]
  try dsimp only [Ty.den] at *
  simp only [Sp.in32_3, Fit, maxLen] at h fk fx
  obtain ⟨h1, h2, hN, h3, h4⟩ := h
  refine ⟨fun hc => ?_, fun _ => trivial⟩
  rw [decide_eq_true_eq] at hc
  have hx := hN (Sp.nthT k.1 x.2) (by rw [Sp.nthT_of k.1 x.2 (by omega) (by omega)]; exact List.getElem_mem _)
  obtain ⟨z, e, _⟩ := Sp.sub_ok hx Sp.margin_num
  have e' : (FloatKind.f64.format.sub (Sp.nthT k.1 x.2) 4589168020290535424).isSome = true := by rw [show FloatKind.f64.format.sub (Sp.nthT k.1 x.2) 4589168020290535424 = some z from e]; rfl
  refine ⟨⟨by omega, by omega⟩, e', e', e', ?_, trivial⟩
  simp only [List.length_cons, List.length_nil]
  omega
set_option maxHeartbeats 4000000 in
theorem so32_3 (k : (Ty.pair ty44 ty3).den) (x : (Ty.pair ty44 ty3).den) (fk : Fit (Ty.pair ty44 ty3) k) (h : Sp.in32_3 k x) : StepOk false Sp.in32_3 Sp.mu32_3 k x (Sp.st32_3 k x) := by
  try dsimp only [Ty.den] at *
  unfold Sp.in32_3 at h
  unfold Sp.st32_3 Sp.K32_3_1
  refine StepOk.cnd (fun hc => ?_) (fun hc => ?_)
  · rw [decide_eq_true_eq] at hc
    refine ⟨rfl, ?_, ?_⟩
    · unfold Sp.in32_3
      simp only [List.length_append, List.length_cons, List.length_nil]
      rw [Sp.wrap_i64_of (x := x.2 + 1) (by omega) (by omega)]
      exact ⟨by omega, h.2.1, h.2.2.1, h.2.2.2.1, by omega⟩
    · unfold Sp.mu32_3
      simp only
      rw [Sp.wrap_i64_of (x := x.2 + 1) (by omega) (by omega)]
      omega
  · exact rfl
theorem lo32_3 : LoopOk Try.prog gdS (RetAt Try.prog Try.f32 (Rsh.one (none)) (some 1000025) ty44) (bodyAt (bodyOf Try.f32) [0]) LS32_3 :=
  loop_run (ctxOkF gokGmK1 []) (L := lookL []) (loops_of (l := []) (by kernel_rfl) (loops_nil)) sa32_3 va32_3 so32_3
end Go.Proofs.Ytabifaikklcghaa.Sy
namespace Go.Proofs.Ytabifaikklcghaa.Sp
open Go Go.RowKit Sy
def K32_1 (x : Int × Int × Int × Int × Nat × Nat × Nat × List (Int × Int × Int × Int × Int × Int × Int × Int × Int)) :=
  (Sp.G32_3 ([x.2.2.2.2.1, x.2.2.2.2.2.1, x.2.2.2.2.2.2.1], (([x.2.2.2.2.1, x.2.2.2.2.2.1, x.2.2.2.2.2.2.1]).length : Int)) ([(0 : Nat), (Sp.F45 ((0 : Nat), (13830554455654793216 : Nat))), (Sp.F43 ()), (Sp.F44 (1 : Int)), (Sp.F44 (-1 : Int)), (9341994084744098649 : Nat), (1 : Nat), (9218868437227405311 : Nat), (4607182418800017408 : Nat)], (0 : Int)))
def F32 (x : Int × Int × Int × Int × Nat × Nat × Nat × List (Int × Int × Int × Int × Int × Int × Int × Int × Int)) : List Nat :=
  (Sp.K32_1 x).1
def pre32 (x : Int × Int × Int × Int × Nat × Nat × Nat × List (Int × Int × Int × Int × Int × Int × Int × Int × Int)) : Prop := Sp.Lds x
end Go.Proofs.Ytabifaikklcghaa.Sp
namespace Go.Proofs.Ytabifaikklcghaa.Sy
def ct32 : Ct := { p := ty28, psh := [some 8], r := ty44, rsh := (Rsh.one (none)), pre := some Sp.pre32, fresh := (some 1000025), F := Sp.F32 }
theorem va32 (x : ty28.den) : ((evFn (ctxG GmK1) Try.f32 ty28 [some 8] (Rsh.one (none)) (some 1000025) ty44 (lookL [(3, LS32_3)]) x)).val (fun y => y) (Ty.dflt ty44) = Sp.F32 x := by kernel_rfl
theorem se32 (x : ty28.den) : ((evFn (ctxG GmK1) Try.f32 ty28 [some 8] (Rsh.one (none)) (some 1000025) ty44 (lookL [(3, LS32_3)]) x)).safe = (((Sp.in32_3 ([x.2.2.2.2.1, x.2.2.2.2.2.1, x.2.2.2.2.2.2.1], (([x.2.2.2.2.1, x.2.2.2.2.2.1, x.2.2.2.2.2.2.1]).length : Int)) ([(0 : Nat), (Sp.F45 ((0 : Nat), (13830554455654793216 : Nat))), (Sp.F43 ()), (Sp.F44 (1 : Int)), (Sp.F44 (-1 : Int)), (9341994084744098649 : Nat), (1 : Nat), (9218868437227405311 : Nat), (4607182418800017408 : Nat)], (0 : Int))) ∧ True)) := by kernel_rfl
theorem sa32 (x : ty28.den) (fx : Fit ty28 x) (h : Sp.pre32 x) : SafeW ((evFn (ctxG GmK1) Try.f32 ty28 [some 8] (Rsh.one (none)) (some 1000025) ty44 (lookL [(3, LS32_3)]) x)) := by
  refine ⟨?_⟩
  rw [se32]
  try dsimp only [Ty.den] at *
  unfold Sp.in32_3
  unfold Sp.pre32 at h
  refine ⟨⟨by simp, rfl, ?_, rfl, by simp⟩, trivial⟩
  intro t ht
  simp only [List.mem_cons, List.not_mem_nil, or_false] at ht
  rcases ht with rfl | rfl | rfl
  · exact h.em
  · exact h.fu
  · exact h.ov
theorem ok32 : CtOk Try.prog gdS 32 ct32 :=
  fn_okU (ctxOkF gokGmK1 []) rfl Try.func32 (p := ty28) (psh := [some 8]) (r := ty44) (rsh := (Rsh.one (none))) (pre := some Sp.pre32) (fresh := (some 1000025)) (F := Sp.F32) (L := (lookL [(3, LS32_3)])) (c := bodyOf Try.f32) (dflt := Ty.dflt ty44) rfl (loops_of (l := [bodyAt (bodyOf Try.f32) [0]]) (by kernel_rfl) (loops_cons (s0 := LS32_3) (by kernel_rfl) lo32_3 (loops_nil)))
    (safe_pre @sa32) va32
def GmK2 : List (Nat × Ct) := (24, ct24) :: (32, ct32) :: GmK1
theorem gokGmK2 : GOk GmK2 := gok_cons ok24 ⟨_, Try.func24, by kernel_rfl, by kernel_rfl⟩ (gok_cons ok32 ⟨_, Try.func32, by kernel_rfl, by kernel_rfl⟩ (gokGmK1))
end Go.Proofs.Ytabifaikklcghaa.Sy
