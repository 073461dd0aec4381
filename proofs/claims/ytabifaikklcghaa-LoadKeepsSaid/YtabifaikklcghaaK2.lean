/- Contracts of functions, by the evaluator (own program gen.py): overlaylaw06.Edges, overlaylaw06.LoadRuns, overlaylaw06.LoadRises, overlaylaw06.LoadKeeps. -/
import Derived.Test.YtabifaikklcghaaK1
set_option linter.unusedVariables false
set_option linter.unusedSimpArgs false
set_option maxRecDepth 100000
namespace Go.Proofs.Ytabifaikklcghaa.Sy
open Go Go.RowKit Sp
/-! overlaylaw06.Edges -/
end Go.Proofs.Ytabifaikklcghaa.Sy
namespace Go.Proofs.Ytabifaikklcghaa.Sp
open Go Go.RowKit Sy
def in32_3 (k : ((List Nat) × Int)) (x : ((List Nat) × Int)) : Prop := (0 : Int) ≤ x.2 ∧ k.2 = ((k.1).length : Int) ∧ (∀ t ∈ k.1, Sp.IsNum t) ∧ k.1.length = 3 ∧ (x.1.length : Int) ≤ 9 + 6 * x.2
def mu32_3 (k : ((List Nat) × Int)) (x : ((List Nat) × Int)) : Nat := (k.2 - x.2).toNat
def K32_3_1 (k : ((List Nat) × Int)) (x : ((List Nat) × Int)) :=
  (x.1 ++ [(Sp.nthT k.1 x.2), (Sp.F47 ((Sp.nthT k.1 x.2), (9109340329147925583 : Nat))), (Sp.F47 ((Sp.nthT k.1 x.2), (13830554455654793216 : Nat))), ((FloatKind.f64.format.sub (Sp.nthT k.1 x.2) (4589168020290535424 : Nat)).getD 0), (Sp.F47 (((FloatKind.f64.format.sub (Sp.nthT k.1 x.2) (4589168020290535424 : Nat)).getD 0), (13830554455654793216 : Nat))), (Sp.F47 (((FloatKind.f64.format.sub (Sp.nthT k.1 x.2) (4589168020290535424 : Nat)).getD 0), (9109340329147925583 : Nat)))])
def st32_3 (k : ((List Nat) × Int)) (x : ((List Nat) × Int)) : BOut ((List Nat) × Int) ((List Nat) × Int) (List Nat) :=
  bif (decide (x.2 < k.2)) then
    BOut.next k ((Sp.K32_3_1 k x), (IntKind.i64.wrap (x.2 + (1 : Int))))
  else
    BOut.brk k x
def G32_3 (k : ((List Nat) × Int)) (x : ((List Nat) × Int)) : ((List Nat) × Int) := endOf st32_3 k (Nat.succ (mu32_3 k x)) x
end Go.Proofs.Ytabifaikklcghaa.Sp
namespace Go.Proofs.Ytabifaikklcghaa.Sy
def LS32_3 : LS ty44.den := mkLS (Ty.pair ty44 ty3) (Ty.pair ty44 ty3)  [(17, none), (18, none)] [] [(3, none), (19, none)] [] [(0, 100300, false, 25)] [] [] 0 false Sp.in32_3 Sp.st32_3 Sp.mu32_3
theorem va32_3 (k : (Ty.pair ty44 ty3).den) (x : (Ty.pair ty44 ty3).den) : ((evCode (ctxG GmK1) (lookL []) (bodyAt (bodyOf Try.f32) [0]) (tmpl LS32_3 (enc (Ty.pair ty44 ty3) k) (enc (Ty.pair ty44 ty3) x)) (evRound LS32_3 (evRet (ctxG GmK1) Try.f32 (Rsh.one (none)) none ty44 .ret)))).val BOut.ret (BOut.brk (Ty.dflt (Ty.pair ty44 ty3)) (Ty.dflt (Ty.pair ty44 ty3))) = Sp.st32_3 k x := by kernel_rfl
theorem se32_3 (k : (Ty.pair ty44 ty3).den) (x : (Ty.pair ty44 ty3).den) : ((evCode (ctxG GmK1) (lookL []) (bodyAt (bodyOf Try.f32) [0]) (tmpl LS32_3 (enc (Ty.pair ty44 ty3) k) (enc (Ty.pair ty44 ty3) x)) (evRound LS32_3 (evRet (ctxG GmK1) Try.f32 (Rsh.one (none)) none ty44 .ret)))).safe = ((((decide (x.2 < k.2)) = true → ((0 ≤ x.2 ∧ x.2 < ((k.1).length : Int)) ∧ (((FloatKind.f64.format.sub (Sp.nthT k.1 x.2) (4589168020290535424 : Nat)).isSome = true) ∧ (((FloatKind.f64.format.sub (Sp.nthT k.1 x.2) (4589168020290535424 : Nat)).isSome = true) ∧ (((FloatKind.f64.format.sub (Sp.nthT k.1 x.2) (4589168020290535424 : Nat)).isSome = true) ∧ (((List.length (x.1 : List Nat) + List.length ([(Sp.nthT k.1 x.2), (Sp.F47 ((Sp.nthT k.1 x.2), (9109340329147925583 : Nat))), (Sp.F47 ((Sp.nthT k.1 x.2), (13830554455654793216 : Nat))), ((FloatKind.f64.format.sub (Sp.nthT k.1 x.2) (4589168020290535424 : Nat)).getD 0), (Sp.F47 (((FloatKind.f64.format.sub (Sp.nthT k.1 x.2) (4589168020290535424 : Nat)).getD 0), (13830554455654793216 : Nat))), (Sp.F47 (((FloatKind.f64.format.sub (Sp.nthT k.1 x.2) (4589168020290535424 : Nat)).getD 0), (9109340329147925583 : Nat)))] : List Nat)) * 8 ≤ 140737488355328 ∧ List.length (x.1 : List Nat) + List.length ([(Sp.nthT k.1 x.2), (Sp.F47 ((Sp.nthT k.1 x.2), (9109340329147925583 : Nat))), (Sp.F47 ((Sp.nthT k.1 x.2), (13830554455654793216 : Nat))), ((FloatKind.f64.format.sub (Sp.nthT k.1 x.2) (4589168020290535424 : Nat)).getD 0), (Sp.F47 (((FloatKind.f64.format.sub (Sp.nthT k.1 x.2) (4589168020290535424 : Nat)).getD 0), (13830554455654793216 : Nat))), (Sp.F47 (((FloatKind.f64.format.sub (Sp.nthT k.1 x.2) (4589168020290535424 : Nat)).getD 0), (9109340329147925583 : Nat)))] : List Nat) ≤ 4611686018427387903) ∧ True)))))) ∧ ((decide (x.2 < k.2)) = false → True))) := by kernel_rfl
set_option maxHeartbeats 4000000 in
theorem sa32_3 (k : (Ty.pair ty44 ty3).den) (x : (Ty.pair ty44 ty3).den) (fk : Fit (Ty.pair ty44 ty3) k) (fx : Fit (Ty.pair ty44 ty3) x) (h : Sp.in32_3 k x) : SafeW ((evCode (ctxG GmK1) (lookL []) (bodyAt (bodyOf Try.f32) [0]) (tmpl LS32_3 (enc (Ty.pair ty44 ty3) k) (enc (Ty.pair ty44 ty3) x)) (evRound LS32_3 (evRet (ctxG GmK1) Try.f32 (Rsh.one (none)) none ty44 .ret)))) := by
  refine ⟨?_⟩
  rw [se32_3]
  try dsimp only [Ty.den] at *
  simp only [Sp.in32_3, Fit, maxLen] at h fk fx
  obtain ⟨h1, h2, hN, h3, h4⟩ := h
  refine ⟨fun hc => ?_, fun _ => trivial⟩
  rw [decide_eq_true_eq] at hc
  have hx := hN (Sp.nthT k.1 x.2) (by rw [Sp.nthT_of k.1 x.2 (by omega) (by omega)]; exact List.getElem_mem _)
  obtain ⟨z, e, _⟩ := Sp.sub_ok hx Sp.margin_num
  have e' : (FloatKind.f64.format.sub (Sp.nthT k.1 x.2) 4589168020290535424).isSome = true := by rw [show FloatKind.f64.format.sub (Sp.nthT k.1 x.2) 4589168020290535424 = some z from e]; rfl
  refine ⟨⟨by omega, by omega⟩, e', e', e', ?_, trivial⟩
  simp only [List.length_cons, List.length_nil]
  omega
set_option maxHeartbeats 4000000 in
theorem so32_3 (k : (Ty.pair ty44 ty3).den) (x : (Ty.pair ty44 ty3).den) (fk : Fit (Ty.pair ty44 ty3) k) (h : Sp.in32_3 k x) : StepOk false Sp.in32_3 Sp.mu32_3 k x (Sp.st32_3 k x) := by
  try dsimp only [Ty.den] at *
  unfold Sp.in32_3 at h
  unfold Sp.st32_3 Sp.K32_3_1
  refine StepOk.cnd (fun hc => ?_) (fun hc => ?_)
  · rw [decide_eq_true_eq] at hc
    refine ⟨rfl, ?_, ?_⟩
    · unfold Sp.in32_3
      simp only [List.length_append, List.length_cons, List.length_nil]
      rw [Sp.wrap_i64_of (x := x.2 + 1) (by omega) (by omega)]
      exact ⟨by omega, h.2.1, h.2.2.1, h.2.2.2.1, by omega⟩
    · unfold Sp.mu32_3
      simp only
      rw [Sp.wrap_i64_of (x := x.2 + 1) (by omega) (by omega)]
      omega
  · exact rfl
theorem lo32_3 : LoopOk Try.prog gdS (RetAt Try.prog Try.f32 (Rsh.one (none)) none ty44) (bodyAt (bodyOf Try.f32) [0]) LS32_3 :=
  loop_run (ctxOkF gokGmK1 []) (L := lookL []) (loops_of (l := []) (by kernel_rfl) (loops_nil)) sa32_3 va32_3 so32_3
end Go.Proofs.Ytabifaikklcghaa.Sy
namespace Go.Proofs.Ytabifaikklcghaa.Sp
open Go Go.RowKit Sy
def K32_1 (x : Int × Int × Int × Int × Nat × Nat × Nat × List (Int × Int × Int × Int × Int × Int × Int × Int × Int)) :=
  (Sp.G32_3 ([x.2.2.2.2.1, x.2.2.2.2.2.1, x.2.2.2.2.2.2.1], (([x.2.2.2.2.1, x.2.2.2.2.2.1, x.2.2.2.2.2.2.1]).length : Int)) ([(0 : Nat), (Sp.F45 ((0 : Nat), (13830554455654793216 : Nat))), (Sp.F43 ()), (Sp.F44 (1 : Int)), (Sp.F44 (-1 : Int)), (9341994084744098649 : Nat), (1 : Nat), (9218868437227405311 : Nat), (4607182418800017408 : Nat)], (0 : Int)))
def F32 (x : Int × Int × Int × Int × Nat × Nat × Nat × List (Int × Int × Int × Int × Int × Int × Int × Int × Int)) : List Nat :=
  (Sp.K32_1 x).1
def pre32 (x : Int × Int × Int × Int × Nat × Nat × Nat × List (Int × Int × Int × Int × Int × Int × Int × Int × Int)) : Prop := Sp.Lds x
end Go.Proofs.Ytabifaikklcghaa.Sp
namespace Go.Proofs.Ytabifaikklcghaa.Sy
def ct32 : Ct := { p := ty28, psh := [some 8], r := ty44, rsh := (Rsh.one (none)), pre := some Sp.pre32, fresh := none, F := Sp.F32 }
theorem va32 (x : ty28.den) : ((evFn (ctxG GmK1) Try.f32 ty28 [some 8] (Rsh.one (none)) none ty44 (lookL [(3, LS32_3)]) x)).val (fun y => y) (Ty.dflt ty44) = Sp.F32 x := by kernel_rfl
theorem se32 (x : ty28.den) : ((evFn (ctxG GmK1) Try.f32 ty28 [some 8] (Rsh.one (none)) none ty44 (lookL [(3, LS32_3)]) x)).safe = (((Sp.in32_3 ([x.2.2.2.2.1, x.2.2.2.2.2.1, x.2.2.2.2.2.2.1], (([x.2.2.2.2.1, x.2.2.2.2.2.1, x.2.2.2.2.2.2.1]).length : Int)) ([(0 : Nat), (Sp.F45 ((0 : Nat), (13830554455654793216 : Nat))), (Sp.F43 ()), (Sp.F44 (1 : Int)), (Sp.F44 (-1 : Int)), (9341994084744098649 : Nat), (1 : Nat), (9218868437227405311 : Nat), (4607182418800017408 : Nat)], (0 : Int))) ∧ True)) := by kernel_rfl
theorem sa32 (x : ty28.den) (fx : Fit ty28 x) (h : Sp.pre32 x) : SafeW ((evFn (ctxG GmK1) Try.f32 ty28 [some 8] (Rsh.one (none)) none ty44 (lookL [(3, LS32_3)]) x)) := by
  refine ⟨?_⟩
  rw [se32]
  try dsimp only [Ty.den] at *
  unfold Sp.in32_3
  unfold Sp.pre32 at h
  refine ⟨⟨by simp, rfl, ?_, rfl, by simp⟩, trivial⟩
  intro t ht
  simp only [List.mem_cons, List.not_mem_nil, or_false] at ht
  rcases ht with rfl | rfl | rfl
  · exact h.em
  · exact h.fu
  · exact h.ov
theorem ok32 : CtOk Try.prog gdS 32 ct32 :=
  fn_okU (ctxOkF gokGmK1 []) rfl Try.func32 (p := ty28) (psh := [some 8]) (r := ty44) (rsh := (Rsh.one (none))) (pre := some Sp.pre32) (fresh := none) (F := Sp.F32) (L := (lookL [(3, LS32_3)])) (c := bodyOf Try.f32) (dflt := Ty.dflt ty44) rfl (loops_of (l := [bodyAt (bodyOf Try.f32) [0]]) (by kernel_rfl) (loops_cons (s0 := LS32_3) (by kernel_rfl) lo32_3 (loops_nil)))
    (safe_pre @sa32) va32
/-! overlaylaw06.LoadRuns -/
end Go.Proofs.Ytabifaikklcghaa.Sy
namespace Go.Proofs.Ytabifaikklcghaa.Sp
open Go Go.RowKit Sy
def F5 (x : (List Nat) × (Nat × Nat × Nat) × Int) : Bool :=
  bif ((((((Sp.F24 ((Sp.F23 x.2.1), (0 : Int), (zrow ty25 (IntKind.i64.wrap ((IntKind.i64.wrap ((5000 : Int) + (IntKind.i64.wrap (Int.tmod x.2.2 (3 : Int))))) - (1 : Int))))))).length : Int) == (0 : Int)) != (decide ((IntKind.i64.wrap ((IntKind.i64.wrap ((5000 : Int) + (IntKind.i64.wrap (Int.tmod x.2.2 (3 : Int))))) - (1 : Int))) > (5000 : Int)))) || ((decide ((IntKind.i64.wrap ((IntKind.i64.wrap ((5000 : Int) + (IntKind.i64.wrap (Int.tmod x.2.2 (3 : Int))))) - (1 : Int))) ≤ (5000 : Int))) && ((((Sp.F24 ((Sp.F23 x.2.1), (0 : Int), (zrow ty25 (IntKind.i64.wrap ((IntKind.i64.wrap ((5000 : Int) + (IntKind.i64.wrap (Int.tmod x.2.2 (3 : Int))))) - (1 : Int))))))).length : Int) != (IntKind.i64.wrap ((IntKind.i64.wrap ((5000 : Int) + (IntKind.i64.wrap (Int.tmod x.2.2 (3 : Int))))) - (1 : Int)))))) then
    false
  else
    ((decide (((x.1).length : Int) > (300 : Int))) || ((Sp.F25 ((Sp.F24 ((Sp.F23 x.2.1), (0 : Int), x.1)), (Sp.F26 ((Sp.F23 x.2.1), (0 : Int), x.1)))) && (Sp.F27 ())))
def pre5 (x : (List Nat) × (Nat × Nat × Nat) × Int) : Prop := 0 ≤ x.2.2 ∧ x.2.2 ≤ 255
end Go.Proofs.Ytabifaikklcghaa.Sp
namespace Go.Proofs.Ytabifaikklcghaa.Sy
def ct5 : Ct := { p := (Ty.pair ty44 (Ty.pair ty45 ty5)), psh := [none, some 3, none], r := ty4, rsh := (Rsh.one (none)), pre := some Sp.pre5, fresh := none, F := Sp.F5 }
theorem va5 (x : (Ty.pair ty44 (Ty.pair ty45 ty5)).den) : ((evFn (ctxF GmK1 [(6, [16])]) Try.f5 (Ty.pair ty44 (Ty.pair ty45 ty5)) [none, some 3, none] (Rsh.one (none)) none ty4 noL x)).val (fun y => y) (Ty.dflt ty4) = Sp.F5 x := by kernel_rfl
theorem se5 (x : (Ty.pair ty44 (Ty.pair ty45 ty5)).den) : ((evFn (ctxF GmK1 [(6, [16])]) Try.f5 (Ty.pair ty44 (Ty.pair ty45 ty5)) [none, some 3, none] (Rsh.one (none)) none ty4 noL x)).safe = ((((3 : Int) ≠ 0) ∧ ((0 ≤ (IntKind.i64.wrap ((IntKind.i64.wrap ((5000 : Int) + (IntKind.i64.wrap (Int.tmod x.2.2 (3 : Int))))) - (1 : Int))) ∧ (IntKind.i64.wrap ((IntKind.i64.wrap ((5000 : Int) + (IntKind.i64.wrap (Int.tmod x.2.2 (3 : Int))))) - (1 : Int))) = (IntKind.i64.wrap ((IntKind.i64.wrap ((5000 : Int) + (IntKind.i64.wrap (Int.tmod x.2.2 (3 : Int))))) - (1 : Int))) ∧ (IntKind.i64.wrap ((IntKind.i64.wrap ((5000 : Int) + (IntKind.i64.wrap (Int.tmod x.2.2 (3 : Int))))) - (1 : Int))) * (8 : Int) ≤ 140737488355328 ∧ (IntKind.i64.wrap ((IntKind.i64.wrap ((5000 : Int) + (IntKind.i64.wrap (Int.tmod x.2.2 (3 : Int))))) - (1 : Int))) ≤ 4611686018427387903) ∧ ((((((((Sp.F24 ((Sp.F23 x.2.1), (0 : Int), (zrow ty25 (IntKind.i64.wrap ((IntKind.i64.wrap ((5000 : Int) + (IntKind.i64.wrap (Int.tmod x.2.2 (3 : Int))))) - (1 : Int))))))).length : Int) == (0 : Int)) != (decide ((IntKind.i64.wrap ((IntKind.i64.wrap ((5000 : Int) + (IntKind.i64.wrap (Int.tmod x.2.2 (3 : Int))))) - (1 : Int))) > (5000 : Int)))) || ((decide ((IntKind.i64.wrap ((IntKind.i64.wrap ((5000 : Int) + (IntKind.i64.wrap (Int.tmod x.2.2 (3 : Int))))) - (1 : Int))) ≤ (5000 : Int))) && ((((Sp.F24 ((Sp.F23 x.2.1), (0 : Int), (zrow ty25 (IntKind.i64.wrap ((IntKind.i64.wrap ((5000 : Int) + (IntKind.i64.wrap (Int.tmod x.2.2 (3 : Int))))) - (1 : Int))))))).length : Int) != (IntKind.i64.wrap ((IntKind.i64.wrap ((5000 : Int) + (IntKind.i64.wrap (Int.tmod x.2.2 (3 : Int))))) - (1 : Int)))))) = true → True) ∧ (((((((Sp.F24 ((Sp.F23 x.2.1), (0 : Int), (zrow ty25 (IntKind.i64.wrap ((IntKind.i64.wrap ((5000 : Int) + (IntKind.i64.wrap (Int.tmod x.2.2 (3 : Int))))) - (1 : Int))))))).length : Int) == (0 : Int)) != (decide ((IntKind.i64.wrap ((IntKind.i64.wrap ((5000 : Int) + (IntKind.i64.wrap (Int.tmod x.2.2 (3 : Int))))) - (1 : Int))) > (5000 : Int)))) || ((decide ((IntKind.i64.wrap ((IntKind.i64.wrap ((5000 : Int) + (IntKind.i64.wrap (Int.tmod x.2.2 (3 : Int))))) - (1 : Int))) ≤ (5000 : Int))) && ((((Sp.F24 ((Sp.F23 x.2.1), (0 : Int), (zrow ty25 (IntKind.i64.wrap ((IntKind.i64.wrap ((5000 : Int) + (IntKind.i64.wrap (Int.tmod x.2.2 (3 : Int))))) - (1 : Int))))))).length : Int) != (IntKind.i64.wrap ((IntKind.i64.wrap ((5000 : Int) + (IntKind.i64.wrap (Int.tmod x.2.2 (3 : Int))))) - (1 : Int)))))) = false → True))))) := by kernel_rfl
theorem sa5 (x : (Ty.pair ty44 (Ty.pair ty45 ty5)).den) (fx : Fit (Ty.pair ty44 (Ty.pair ty45 ty5)) x) (h : Sp.pre5 x) : SafeW ((evFn (ctxF GmK1 [(6, [16])]) Try.f5 (Ty.pair ty44 (Ty.pair ty45 ty5)) [none, some 3, none] (Rsh.one (none)) none ty4 noL x)) := by
  refine ⟨?_⟩
  rw [se5]
  try dsimp only [Ty.den] at *
  simp only [Fit, maxLen] at fx
  simp only [Sp.pre5, IntKind.wrap_i64, IntKind.wrap_u8, IntKind.wrap_u32, IntKind.wrap_u64, Sp.tmod_lit, Sp.tdiv_lit, bne_eq_false_iff_eq, Int.natCast_inj, setE, copyL, sliceL, zrow, List.length_append, List.length_cons, List.length_nil, List.length_set, List.length_replicate, List.length_take, List.length_drop, decide_eq_true_eq, decide_eq_false_iff_not, Bool.or_eq_true, Bool.and_eq_true, Bool.or_eq_false_iff, Bool.and_eq_false_iff, Bool.not_eq_true', Bool.not_eq_false', Bool.not_eq_true, Bool.not_eq_false, beq_iff_eq, beq_eq_false_iff_ne, bne_iff_ne, ne_eq, implies_true, and_true, true_and] at *
  all_goals ((repeat' (first | exact trivial | apply And.intro | intro _)) <;> first | trivial | omega | exact Sp.tmod_nn (by omega) | exact Sp.tmod_lt (by omega) (by omega))
theorem ok5 : CtOk Try.prog gdS 5 ct5 :=
  fn_okU (ctxOkF gokGmK1 [(6, [16])]) rfl Try.func5 (p := (Ty.pair ty44 (Ty.pair ty45 ty5))) (psh := [none, some 3, none]) (r := ty4) (rsh := (Rsh.one (none))) (pre := some Sp.pre5) (fresh := none) (F := Sp.F5) (L := noL) (c := bodyOf Try.f5) (dflt := Ty.dflt ty4) rfl (no_loops)
    (safe_pre @sa5) va5
/-! overlaylaw06.LoadRises -/
end Go.Proofs.Ytabifaikklcghaa.Sy
namespace Go.Proofs.Ytabifaikklcghaa.Sp
open Go Go.RowKit Sy
def in6_9 (k : ((List Nat) × (List Int) × Int × Int × Int × Int × Nat × Nat × Nat × List (Int × Int × Int × Int × Int × Int × Int × Int × Int))) (x : (Int × Int)) : Prop := (0 : Int) ≤ x.2 ∧ k.1.length = k.2.1.length
def mu6_9 (k : ((List Nat) × (List Int) × Int × Int × Int × Int × Nat × Nat × Nat × List (Int × Int × Int × Int × Int × Int × Int × Int × Int))) (x : (Int × Int)) : Nat := (((k.1).length : Int) - x.2).toNat
def st6_9 (k : ((List Nat) × (List Int) × Int × Int × Int × Int × Nat × Nat × Nat × List (Int × Int × Int × Int × Int × Int × Int × Int × Int))) (x : (Int × Int)) : BOut ((List Nat) × (List Int) × Int × Int × Int × Int × Nat × Nat × Nat × List (Int × Int × Int × Int × Int × Int × Int × Int × Int)) (Int × Int) (Bool) :=
  bif (decide (x.2 < ((k.1).length : Int))) then
    (bif (((Sp.nthT k.2.1 x.2) == (0 : Int)) != (((FloatKind.f64.format.order (Sp.nthT k.1 x.2) (Sp.nthT k.1 x.2)) != some Ordering.eq) || ((FloatKind.f64.format.order (Sp.nthT k.1 x.2) (0 : Nat)) == some Ordering.lt))) then
      BOut.ret false
    else
      bif ((decide ((Sp.nthT k.2.1 x.2) > x.1)) && (((((Sp.nthT k.2.1 x.2) == (3 : Int)) && ((FloatKind.f64.format.order (Sp.nthT k.1 x.2) k.2.2.2.2.2.2.2.1) == some Ordering.lt)) || (((Sp.nthT k.2.1 x.2) == (4 : Int)) && ((FloatKind.f64.format.order (Sp.nthT k.1 x.2) k.2.2.2.2.2.2.2.2.1) == some Ordering.lt))) || (((Sp.nthT k.2.1 x.2) == (2 : Int)) && ((FloatKind.f64.format.order (Sp.nthT k.1 x.2) k.2.2.2.2.2.2.1) == some Ordering.lt)))) then
        BOut.ret false
      else
        bif ((x.1 == (0 : Int)) && ((Sp.nthT k.2.1 x.2) != (Sp.F28 (k.2.2, (Sp.nthT k.1 x.2))))) then
          BOut.ret false
        else
          BOut.next k ((Sp.nthT k.2.1 x.2), (IntKind.i64.wrap (x.2 + (1 : Int)))))
  else
    BOut.brk k x
def G6_9 (k : ((List Nat) × (List Int) × Int × Int × Int × Int × Nat × Nat × Nat × List (Int × Int × Int × Int × Int × Int × Int × Int × Int))) (x : (Int × Int)) : (Int × Int) := endOf st6_9 k (Nat.succ (mu6_9 k x)) x
def R6_9 (k : ((List Nat) × (List Int) × Int × Int × Int × Int × Nat × Nat × Nat × List (Int × Int × Int × Int × Int × Int × Int × Int × Int))) (x : (Int × Int)) : Option (Bool) := retOf st6_9 k (Nat.succ (mu6_9 k x)) x
end Go.Proofs.Ytabifaikklcghaa.Sp
namespace Go.Proofs.Ytabifaikklcghaa.Sy
def LS6_9 : LS ty4.den := mkLS (Ty.pair ty44 (Ty.pair ty47 ty28)) (Ty.pair ty3 ty3)  [(0, none), (6, none)] [(5, 8)] [(7, none), (8, none)] [] [] [16, 24] [(5, 5)] 0 true Sp.in6_9 Sp.st6_9 Sp.mu6_9
theorem va6_9 (k : (Ty.pair ty44 (Ty.pair ty47 ty28)).den) (x : (Ty.pair ty3 ty3).den) : ((evCode (ctxG GmK1) (lookL []) (bodyAt (bodyOf Try.f6) [0]) (tmpl LS6_9 (enc (Ty.pair ty44 (Ty.pair ty47 ty28)) k) (enc (Ty.pair ty3 ty3) x)) (evRound LS6_9 (evRet (ctxG GmK1) Try.f6 (Rsh.one (none)) none ty4 .ret)))).val BOut.ret (BOut.brk (Ty.dflt (Ty.pair ty44 (Ty.pair ty47 ty28))) (Ty.dflt (Ty.pair ty3 ty3))) = Sp.st6_9 k x := by kernel_rfl
theorem se6_9 (k : (Ty.pair ty44 (Ty.pair ty47 ty28)).den) (x : (Ty.pair ty3 ty3).den) : ((evCode (ctxG GmK1) (lookL []) (bodyAt (bodyOf Try.f6) [0]) (tmpl LS6_9 (enc (Ty.pair ty44 (Ty.pair ty47 ty28)) k) (enc (Ty.pair ty3 ty3) x)) (evRound LS6_9 (evRet (ctxG GmK1) Try.f6 (Rsh.one (none)) none ty4 .ret)))).safe = ((((decide (x.2 < ((k.1).length : Int))) = true → ((0 ≤ x.2 ∧ x.2 < ((k.1).length : Int)) ∧ ((0 ≤ x.2 ∧ x.2 < ((k.2.1).length : Int)) ∧ (((((Sp.nthT k.2.1 x.2) == (0 : Int)) != (((FloatKind.f64.format.order (Sp.nthT k.1 x.2) (Sp.nthT k.1 x.2)) != some Ordering.eq) || ((FloatKind.f64.format.order (Sp.nthT k.1 x.2) (0 : Nat)) == some Ordering.lt))) = true → True) ∧ ((((Sp.nthT k.2.1 x.2) == (0 : Int)) != (((FloatKind.f64.format.order (Sp.nthT k.1 x.2) (Sp.nthT k.1 x.2)) != some Ordering.eq) || ((FloatKind.f64.format.order (Sp.nthT k.1 x.2) (0 : Nat)) == some Ordering.lt))) = false → ((0 ≤ x.2 ∧ x.2 < ((k.2.1).length : Int)) ∧ ((((decide ((Sp.nthT k.2.1 x.2) > x.1)) = true → 0 ≤ x.2 ∧ x.2 < ((k.2.1).length : Int))) ∧ ((((decide ((Sp.nthT k.2.1 x.2) > x.1)) = true → ((((Sp.nthT k.2.1 x.2) == (3 : Int)) && ((FloatKind.f64.format.order (Sp.nthT k.1 x.2) k.2.2.2.2.2.2.2.1) == some Ordering.lt)) = false → 0 ≤ x.2 ∧ x.2 < ((k.2.1).length : Int)))) ∧ ((((decide ((Sp.nthT k.2.1 x.2) > x.1)) = true → (((((Sp.nthT k.2.1 x.2) == (3 : Int)) && ((FloatKind.f64.format.order (Sp.nthT k.1 x.2) k.2.2.2.2.2.2.2.1) == some Ordering.lt)) || (((Sp.nthT k.2.1 x.2) == (4 : Int)) && ((FloatKind.f64.format.order (Sp.nthT k.1 x.2) k.2.2.2.2.2.2.2.2.1) == some Ordering.lt))) = false → 0 ≤ x.2 ∧ x.2 < ((k.2.1).length : Int)))) ∧ ((((decide ((Sp.nthT k.2.1 x.2) > x.1)) && (((((Sp.nthT k.2.1 x.2) == (3 : Int)) && ((FloatKind.f64.format.order (Sp.nthT k.1 x.2) k.2.2.2.2.2.2.2.1) == some Ordering.lt)) || (((Sp.nthT k.2.1 x.2) == (4 : Int)) && ((FloatKind.f64.format.order (Sp.nthT k.1 x.2) k.2.2.2.2.2.2.2.2.1) == some Ordering.lt))) || (((Sp.nthT k.2.1 x.2) == (2 : Int)) && ((FloatKind.f64.format.order (Sp.nthT k.1 x.2) k.2.2.2.2.2.2.1) == some Ordering.lt)))) = true → True) ∧ (((decide ((Sp.nthT k.2.1 x.2) > x.1)) && (((((Sp.nthT k.2.1 x.2) == (3 : Int)) && ((FloatKind.f64.format.order (Sp.nthT k.1 x.2) k.2.2.2.2.2.2.2.1) == some Ordering.lt)) || (((Sp.nthT k.2.1 x.2) == (4 : Int)) && ((FloatKind.f64.format.order (Sp.nthT k.1 x.2) k.2.2.2.2.2.2.2.2.1) == some Ordering.lt))) || (((Sp.nthT k.2.1 x.2) == (2 : Int)) && ((FloatKind.f64.format.order (Sp.nthT k.1 x.2) k.2.2.2.2.2.2.1) == some Ordering.lt)))) = false → ((((x.1 == (0 : Int)) = true → 0 ≤ x.2 ∧ x.2 < ((k.2.1).length : Int))) ∧ ((((x.1 == (0 : Int)) && ((Sp.nthT k.2.1 x.2) != (Sp.F28 (k.2.2, (Sp.nthT k.1 x.2))))) = true → True) ∧ (((x.1 == (0 : Int)) && ((Sp.nthT k.2.1 x.2) != (Sp.F28 (k.2.2, (Sp.nthT k.1 x.2))))) = false → ((0 ≤ x.2 ∧ x.2 < ((k.2.1).length : Int)) ∧ True))))))))))))))) ∧ ((decide (x.2 < ((k.1).length : Int))) = false → True))) := by kernel_rfl
set_option maxHeartbeats 4000000 in
theorem sa6_9 (k : (Ty.pair ty44 (Ty.pair ty47 ty28)).den) (x : (Ty.pair ty3 ty3).den) (fk : Fit (Ty.pair ty44 (Ty.pair ty47 ty28)) k) (fx : Fit (Ty.pair ty3 ty3) x) (h : Sp.in6_9 k x) : SafeW ((evCode (ctxG GmK1) (lookL []) (bodyAt (bodyOf Try.f6) [0]) (tmpl LS6_9 (enc (Ty.pair ty44 (Ty.pair ty47 ty28)) k) (enc (Ty.pair ty3 ty3) x)) (evRound LS6_9 (evRet (ctxG GmK1) Try.f6 (Rsh.one (none)) none ty4 .ret)))) := by
  refine ⟨?_⟩
  rw [se6_9]
  try dsimp only [Ty.den] at *
  simp only [Sp.in6_9, Fit, maxLen] at h fk fx
  simp only [IntKind.wrap_i64, IntKind.wrap_u8, IntKind.wrap_u32, IntKind.wrap_u64, Sp.tmod_lit, Sp.tdiv_lit, bne_eq_false_iff_eq, Int.natCast_inj, setE, copyL, sliceL, zrow, List.length_append, List.length_cons, List.length_nil, List.length_set, List.length_replicate, List.length_take, List.length_drop, decide_eq_true_eq, decide_eq_false_iff_not, Bool.or_eq_true, Bool.and_eq_true, Bool.or_eq_false_iff, Bool.and_eq_false_iff, Bool.not_eq_true', Bool.not_eq_false', Bool.not_eq_true, Bool.not_eq_false, beq_iff_eq, beq_eq_false_iff_ne, bne_iff_ne, ne_eq, implies_true, and_true, true_and] at *
  all_goals ((repeat' (first | exact trivial | apply And.intro | intro _)) <;> first | trivial | omega | exact Sp.tmod_nn (by omega) | exact Sp.tmod_lt (by omega) (by omega))
set_option maxHeartbeats 4000000 in
theorem so6_9 (k : (Ty.pair ty44 (Ty.pair ty47 ty28)).den) (x : (Ty.pair ty3 ty3).den) (fk : Fit (Ty.pair ty44 (Ty.pair ty47 ty28)) k) (h : Sp.in6_9 k x) : StepOk true Sp.in6_9 Sp.mu6_9 k x (Sp.st6_9 k x) := by
  try dsimp only [Ty.den] at *
  simp only [Sp.in6_9, Fit, maxLen] at h fk
  unfold Sp.st6_9
  (repeat' (first | exact rfl | (refine StepOk.cnd (fun hc => ?_) (fun hc => ?_) <;> (try simp only [IntKind.wrap_i64, IntKind.wrap_u8, IntKind.wrap_u32, IntKind.wrap_u64, bne_eq_false_iff_eq, Int.natCast_inj, setE, copyL, sliceL, zrow, List.length_append, List.length_cons, List.length_nil, List.length_set, List.length_replicate, List.length_take, List.length_drop, decide_eq_true_eq, decide_eq_false_iff_not, Bool.or_eq_true, Bool.and_eq_true, Bool.or_eq_false_iff, Bool.and_eq_false_iff, Bool.not_eq_true', Bool.not_eq_false', Bool.not_eq_true, Bool.not_eq_false, beq_iff_eq, beq_eq_false_iff_ne, bne_iff_ne, ne_eq] at hc)) | refine StepOk.opt (fun _ => ?_))) <;> (first | exact rfl | (refine ⟨rfl, ?_, ?_⟩ <;> simp only [Sp.in6_9, Sp.mu6_9, IntKind.wrap_i64, IntKind.wrap_u8, IntKind.wrap_u32, IntKind.wrap_u64, Sp.tmod_lit, Sp.tdiv_lit, bne_eq_false_iff_eq, Int.natCast_inj, setE, copyL, sliceL, zrow, List.length_append, List.length_cons, List.length_nil, List.length_set, List.length_replicate, List.length_take, List.length_drop, decide_eq_true_eq, decide_eq_false_iff_not, Bool.or_eq_true, Bool.and_eq_true, Bool.or_eq_false_iff, Bool.and_eq_false_iff, Bool.not_eq_true', Bool.not_eq_false', Bool.not_eq_true, Bool.not_eq_false, beq_iff_eq, beq_eq_false_iff_ne, bne_iff_ne, ne_eq] <;> first | omega | (and_intros <;> first | omega | exact h.1 | exact h.2 | exact h.2.1 | exact h.2.2 | exact h.2.2.1 | exact h.2.2.2 | exact h.2.2.2.1 | exact h.2.2.2.2 | exact h.2.2.2.2.1 | exact h.2.2.2.2.2 | exact h.2.2.2.2.2.1 | exact h.2.2.2.2.2.2)))
theorem lo6_9 : LoopOk Try.prog gdS (RetAt Try.prog Try.f6 (Rsh.one (none)) none ty4) (bodyAt (bodyOf Try.f6) [0]) LS6_9 :=
  loop_run (ctxOkF gokGmK1 []) (L := lookL []) (loops_of (l := []) (by kernel_rfl) (loops_nil)) sa6_9 va6_9 so6_9
end Go.Proofs.Ytabifaikklcghaa.Sy
namespace Go.Proofs.Ytabifaikklcghaa.Sp
open Go Go.RowKit Sy
def F6 (x : (List Nat) × Nat × Nat × Nat) : Bool :=
  bif (decide (((x.1).length : Int) > (300 : Int))) then
    (Sp.F27 ())
  else
    bif ((((Sp.F24 ((Sp.F23 x.2), (0 : Int), x.1))).length : Int) != ((x.1).length : Int)) then
      false
    else
      Sp.optR (Sp.R6_9 (x.1, (Sp.F24 ((Sp.F23 x.2), (0 : Int), x.1)), (Sp.F23 x.2)) ((0 : Int), (0 : Int))) (fun y => y)
      ((Sp.F27 ()))
end Go.Proofs.Ytabifaikklcghaa.Sp
namespace Go.Proofs.Ytabifaikklcghaa.Sy
def ct6 : Ct := { p := (Ty.pair ty44 ty45), psh := [none, some 3], r := ty4, rsh := (Rsh.one (none)), pre := none, fresh := none, F := Sp.F6 }
theorem va6 (x : (Ty.pair ty44 ty45).den) : ((evFn (ctxG GmK1) Try.f6 (Ty.pair ty44 ty45) [none, some 3] (Rsh.one (none)) none ty4 (lookL [(9, LS6_9)]) x)).val (fun y => y) (Ty.dflt ty4) = Sp.F6 x := by kernel_rfl
theorem se6 (x : (Ty.pair ty44 ty45).den) : ((evFn (ctxG GmK1) Try.f6 (Ty.pair ty44 ty45) [none, some 3] (Rsh.one (none)) none ty4 (lookL [(9, LS6_9)]) x)).safe = ((((decide (((x.1).length : Int) > (300 : Int))) = true → True) ∧ ((decide (((x.1).length : Int) > (300 : Int))) = false → ((((((Sp.F24 ((Sp.F23 x.2), (0 : Int), x.1))).length : Int) != ((x.1).length : Int)) = true → True) ∧ (((((Sp.F24 ((Sp.F23 x.2), (0 : Int), x.1))).length : Int) != ((x.1).length : Int)) = false → ((Sp.in6_9 (x.1, (Sp.F24 ((Sp.F23 x.2), (0 : Int), x.1)), (Sp.F23 x.2)) ((0 : Int), (0 : Int))) ∧ ((Sp.R6_9 (x.1, (Sp.F24 ((Sp.F23 x.2), (0 : Int), x.1)), (Sp.F23 x.2)) ((0 : Int), (0 : Int))) = none → True))))))) := by kernel_rfl
theorem sa6 (x : (Ty.pair ty44 ty45).den) (fx : Fit (Ty.pair ty44 ty45) x) : SafeW ((evFn (ctxG GmK1) Try.f6 (Ty.pair ty44 ty45) [none, some 3] (Rsh.one (none)) none ty4 (lookL [(9, LS6_9)]) x)) := by
  refine ⟨?_⟩
  rw [se6]
  try dsimp only [Ty.den] at *
  simp only [Fit, maxLen] at fx
  simp only [Sp.in6_9, IntKind.wrap_i64, IntKind.wrap_u8, IntKind.wrap_u32, IntKind.wrap_u64, Sp.tmod_lit, Sp.tdiv_lit, bne_eq_false_iff_eq, Int.natCast_inj, setE, copyL, sliceL, zrow, List.length_append, List.length_cons, List.length_nil, List.length_set, List.length_replicate, List.length_take, List.length_drop, decide_eq_true_eq, decide_eq_false_iff_not, Bool.or_eq_true, Bool.and_eq_true, Bool.or_eq_false_iff, Bool.and_eq_false_iff, Bool.not_eq_true', Bool.not_eq_false', Bool.not_eq_true, Bool.not_eq_false, beq_iff_eq, beq_eq_false_iff_ne, bne_iff_ne, ne_eq, implies_true, and_true, true_and] at *
  all_goals ((repeat' (first | exact trivial | apply And.intro | intro _)) <;> first | trivial | omega | exact Sp.tmod_nn (by omega) | exact Sp.tmod_lt (by omega) (by omega))
theorem ok6 : CtOk Try.prog gdS 6 ct6 :=
  fn_okU (ctxOkF gokGmK1 []) rfl Try.func6 (p := (Ty.pair ty44 ty45)) (psh := [none, some 3]) (r := ty4) (rsh := (Rsh.one (none))) (pre := none) (fresh := none) (F := Sp.F6) (L := (lookL [(9, LS6_9)])) (c := bodyOf Try.f6) (dflt := Ty.dflt ty4) rfl (loops_of (l := [bodyAt (bodyOf Try.f6) [0]]) (by kernel_rfl) (loops_cons (s0 := LS6_9) (by kernel_rfl) lo6_9 (loops_nil)))
    (safe_no @sa6) va6
/-! overlaylaw06.LoadKeeps -/
end Go.Proofs.Ytabifaikklcghaa.Sy
namespace Go.Proofs.Ytabifaikklcghaa.Sp
open Go Go.RowKit Sy
def in7_7 (k : ((List Nat) × Int × Int × Int × Int × Nat × Nat × Nat × List (Int × Int × Int × Int × Int × Int × Int × Int × Int))) (x : (Bool × Int × Int)) : Prop := (0 : Int) ≤ x.2.1
def mu7_7 (k : ((List Nat) × Int × Int × Int × Int × Nat × Nat × Nat × List (Int × Int × Int × Int × Int × Int × Int × Int × Int))) (x : (Bool × Int × Int)) : Nat := (((k.1).length : Int) - x.2.1).toNat
def st7_7 (k : ((List Nat) × Int × Int × Int × Int × Nat × Nat × Nat × List (Int × Int × Int × Int × Int × Int × Int × Int × Int))) (x : (Bool × Int × Int)) : BOut ((List Nat) × Int × Int × Int × Int × Nat × Nat × Nat × List (Int × Int × Int × Int × Int × Int × Int × Int × Int)) (Bool × Int × Int) (Bool) :=
  bif (decide (x.2.1 < ((k.1).length : Int))) then
    (bif (!(((FloatKind.f64.format.order (Sp.nthT k.1 x.2.1) (4602678819172646912 : Nat)) == some Ordering.gt || (FloatKind.f64.format.order (Sp.nthT k.1 x.2.1) (4602678819172646912 : Nat)) == some Ordering.eq) && ((FloatKind.f64.format.order (Sp.nthT k.1 x.2.1) (4607182418800017408 : Nat)) == some Ordering.lt))) then
      (bif ((((Sp.F29 (k.2, x.2.2, (4604367669032910848 : Nat))) == (3 : Int)) != (((FloatKind.f64.format.order (4604367669032910848 : Nat) (4604930618986332160 : Nat)) == some Ordering.gt || (FloatKind.f64.format.order (4604367669032910848 : Nat) (4604930618986332160 : Nat)) == some Ordering.eq) || (x.1 && ((FloatKind.f64.format.order (4604367669032910848 : Nat) (4604367669032910848 : Nat)) == some Ordering.gt || (FloatKind.f64.format.order (4604367669032910848 : Nat) (4604367669032910848 : Nat)) == some Ordering.eq)))) || (((Sp.F29 (k.2, x.2.2, (4604367669032910848 : Nat))) != (3 : Int)) && ((Sp.F29 (k.2, x.2.2, (4604367669032910848 : Nat))) != (2 : Int)))) then
        BOut.ret false
      else
        BOut.next k ((((FloatKind.f64.format.order (4604367669032910848 : Nat) (4604930618986332160 : Nat)) == some Ordering.gt || (FloatKind.f64.format.order (4604367669032910848 : Nat) (4604930618986332160 : Nat)) == some Ordering.eq) || (x.1 && ((FloatKind.f64.format.order (4604367669032910848 : Nat) (4604367669032910848 : Nat)) == some Ordering.gt || (FloatKind.f64.format.order (4604367669032910848 : Nat) (4604367669032910848 : Nat)) == some Ordering.eq))), (IntKind.i64.wrap (x.2.1 + (1 : Int))), (Sp.F29 (k.2, x.2.2, (4604367669032910848 : Nat)))))
    else
      bif ((((Sp.F29 (k.2, x.2.2, (Sp.nthT k.1 x.2.1))) == (3 : Int)) != (((FloatKind.f64.format.order (Sp.nthT k.1 x.2.1) (4604930618986332160 : Nat)) == some Ordering.gt || (FloatKind.f64.format.order (Sp.nthT k.1 x.2.1) (4604930618986332160 : Nat)) == some Ordering.eq) || (x.1 && ((FloatKind.f64.format.order (Sp.nthT k.1 x.2.1) (4604367669032910848 : Nat)) == some Ordering.gt || (FloatKind.f64.format.order (Sp.nthT k.1 x.2.1) (4604367669032910848 : Nat)) == some Ordering.eq)))) || (((Sp.F29 (k.2, x.2.2, (Sp.nthT k.1 x.2.1))) != (3 : Int)) && ((Sp.F29 (k.2, x.2.2, (Sp.nthT k.1 x.2.1))) != (2 : Int)))) then
        BOut.ret false
      else
        BOut.next k ((((FloatKind.f64.format.order (Sp.nthT k.1 x.2.1) (4604930618986332160 : Nat)) == some Ordering.gt || (FloatKind.f64.format.order (Sp.nthT k.1 x.2.1) (4604930618986332160 : Nat)) == some Ordering.eq) || (x.1 && ((FloatKind.f64.format.order (Sp.nthT k.1 x.2.1) (4604367669032910848 : Nat)) == some Ordering.gt || (FloatKind.f64.format.order (Sp.nthT k.1 x.2.1) (4604367669032910848 : Nat)) == some Ordering.eq))), (IntKind.i64.wrap (x.2.1 + (1 : Int))), (Sp.F29 (k.2, x.2.2, (Sp.nthT k.1 x.2.1)))))
  else
    BOut.brk k x
def G7_7 (k : ((List Nat) × Int × Int × Int × Int × Nat × Nat × Nat × List (Int × Int × Int × Int × Int × Int × Int × Int × Int))) (x : (Bool × Int × Int)) : (Bool × Int × Int) := endOf st7_7 k (Nat.succ (mu7_7 k x)) x
def R7_7 (k : ((List Nat) × Int × Int × Int × Int × Nat × Nat × Nat × List (Int × Int × Int × Int × Int × Int × Int × Int × Int))) (x : (Bool × Int × Int)) : Option (Bool) := retOf st7_7 k (Nat.succ (mu7_7 k x)) x
end Go.Proofs.Ytabifaikklcghaa.Sp
namespace Go.Proofs.Ytabifaikklcghaa.Sy
def LS7_7 : LS ty4.den := mkLS (Ty.pair ty44 ty28) (Ty.pair ty4 (Ty.pair ty3 ty50))  [(0, none)] [(3, 8)] [(4, none), (6, none)] [(5, 1)] [] [8] [(3, 3), (5, 5)] 0 true Sp.in7_7 Sp.st7_7 Sp.mu7_7
theorem va7_7 (k : (Ty.pair ty44 ty28).den) (x : (Ty.pair ty4 (Ty.pair ty3 ty50)).den) : ((evCode (ctxG GmK1) (lookL []) (bodyAt (bodyOf Try.f7) [0]) (tmpl LS7_7 (enc (Ty.pair ty44 ty28) k) (enc (Ty.pair ty4 (Ty.pair ty3 ty50)) x)) (evRound LS7_7 (evRet (ctxG GmK1) Try.f7 (Rsh.one (none)) none ty4 .ret)))).val BOut.ret (BOut.brk (Ty.dflt (Ty.pair ty44 ty28)) (Ty.dflt (Ty.pair ty4 (Ty.pair ty3 ty50)))) = Sp.st7_7 k x := by kernel_rfl
theorem se7_7 (k : (Ty.pair ty44 ty28).den) (x : (Ty.pair ty4 (Ty.pair ty3 ty50)).den) : ((evCode (ctxG GmK1) (lookL []) (bodyAt (bodyOf Try.f7) [0]) (tmpl LS7_7 (enc (Ty.pair ty44 ty28) k) (enc (Ty.pair ty4 (Ty.pair ty3 ty50)) x)) (evRound LS7_7 (evRet (ctxG GmK1) Try.f7 (Rsh.one (none)) none ty4 .ret)))).safe = ((((decide (x.2.1 < ((k.1).length : Int))) = true → ((0 ≤ x.2.1 ∧ x.2.1 < ((k.1).length : Int)) ∧ (((!(((FloatKind.f64.format.order (Sp.nthT k.1 x.2.1) (4602678819172646912 : Nat)) == some Ordering.gt || (FloatKind.f64.format.order (Sp.nthT k.1 x.2.1) (4602678819172646912 : Nat)) == some Ordering.eq) && ((FloatKind.f64.format.order (Sp.nthT k.1 x.2.1) (4607182418800017408 : Nat)) == some Ordering.lt))) = true → ((((((Sp.F29 (k.2, x.2.2, (4604367669032910848 : Nat))) == (3 : Int)) != (((FloatKind.f64.format.order (4604367669032910848 : Nat) (4604930618986332160 : Nat)) == some Ordering.gt || (FloatKind.f64.format.order (4604367669032910848 : Nat) (4604930618986332160 : Nat)) == some Ordering.eq) || (x.1 && ((FloatKind.f64.format.order (4604367669032910848 : Nat) (4604367669032910848 : Nat)) == some Ordering.gt || (FloatKind.f64.format.order (4604367669032910848 : Nat) (4604367669032910848 : Nat)) == some Ordering.eq)))) || (((Sp.F29 (k.2, x.2.2, (4604367669032910848 : Nat))) != (3 : Int)) && ((Sp.F29 (k.2, x.2.2, (4604367669032910848 : Nat))) != (2 : Int)))) = true → True) ∧ (((((Sp.F29 (k.2, x.2.2, (4604367669032910848 : Nat))) == (3 : Int)) != (((FloatKind.f64.format.order (4604367669032910848 : Nat) (4604930618986332160 : Nat)) == some Ordering.gt || (FloatKind.f64.format.order (4604367669032910848 : Nat) (4604930618986332160 : Nat)) == some Ordering.eq) || (x.1 && ((FloatKind.f64.format.order (4604367669032910848 : Nat) (4604367669032910848 : Nat)) == some Ordering.gt || (FloatKind.f64.format.order (4604367669032910848 : Nat) (4604367669032910848 : Nat)) == some Ordering.eq)))) || (((Sp.F29 (k.2, x.2.2, (4604367669032910848 : Nat))) != (3 : Int)) && ((Sp.F29 (k.2, x.2.2, (4604367669032910848 : Nat))) != (2 : Int)))) = false → True))) ∧ ((!(((FloatKind.f64.format.order (Sp.nthT k.1 x.2.1) (4602678819172646912 : Nat)) == some Ordering.gt || (FloatKind.f64.format.order (Sp.nthT k.1 x.2.1) (4602678819172646912 : Nat)) == some Ordering.eq) && ((FloatKind.f64.format.order (Sp.nthT k.1 x.2.1) (4607182418800017408 : Nat)) == some Ordering.lt))) = false → ((((((Sp.F29 (k.2, x.2.2, (Sp.nthT k.1 x.2.1))) == (3 : Int)) != (((FloatKind.f64.format.order (Sp.nthT k.1 x.2.1) (4604930618986332160 : Nat)) == some Ordering.gt || (FloatKind.f64.format.order (Sp.nthT k.1 x.2.1) (4604930618986332160 : Nat)) == some Ordering.eq) || (x.1 && ((FloatKind.f64.format.order (Sp.nthT k.1 x.2.1) (4604367669032910848 : Nat)) == some Ordering.gt || (FloatKind.f64.format.order (Sp.nthT k.1 x.2.1) (4604367669032910848 : Nat)) == some Ordering.eq)))) || (((Sp.F29 (k.2, x.2.2, (Sp.nthT k.1 x.2.1))) != (3 : Int)) && ((Sp.F29 (k.2, x.2.2, (Sp.nthT k.1 x.2.1))) != (2 : Int)))) = true → True) ∧ (((((Sp.F29 (k.2, x.2.2, (Sp.nthT k.1 x.2.1))) == (3 : Int)) != (((FloatKind.f64.format.order (Sp.nthT k.1 x.2.1) (4604930618986332160 : Nat)) == some Ordering.gt || (FloatKind.f64.format.order (Sp.nthT k.1 x.2.1) (4604930618986332160 : Nat)) == some Ordering.eq) || (x.1 && ((FloatKind.f64.format.order (Sp.nthT k.1 x.2.1) (4604367669032910848 : Nat)) == some Ordering.gt || (FloatKind.f64.format.order (Sp.nthT k.1 x.2.1) (4604367669032910848 : Nat)) == some Ordering.eq)))) || (((Sp.F29 (k.2, x.2.2, (Sp.nthT k.1 x.2.1))) != (3 : Int)) && ((Sp.F29 (k.2, x.2.2, (Sp.nthT k.1 x.2.1))) != (2 : Int)))) = false → True)))))) ∧ ((decide (x.2.1 < ((k.1).length : Int))) = false → True))) := by kernel_rfl
set_option maxHeartbeats 4000000 in
theorem sa7_7 (k : (Ty.pair ty44 ty28).den) (x : (Ty.pair ty4 (Ty.pair ty3 ty50)).den) (fk : Fit (Ty.pair ty44 ty28) k) (fx : Fit (Ty.pair ty4 (Ty.pair ty3 ty50)) x) (h : Sp.in7_7 k x) : SafeW ((evCode (ctxG GmK1) (lookL []) (bodyAt (bodyOf Try.f7) [0]) (tmpl LS7_7 (enc (Ty.pair ty44 ty28) k) (enc (Ty.pair ty4 (Ty.pair ty3 ty50)) x)) (evRound LS7_7 (evRet (ctxG GmK1) Try.f7 (Rsh.one (none)) none ty4 .ret)))) := by
  refine ⟨?_⟩
  rw [se7_7]
  try dsimp only [Ty.den] at *
  simp only [Sp.in7_7, Fit, maxLen] at h fk fx
  simp only [IntKind.wrap_i64, IntKind.wrap_u8, IntKind.wrap_u32, IntKind.wrap_u64, Sp.tmod_lit, Sp.tdiv_lit, bne_eq_false_iff_eq, Int.natCast_inj, setE, copyL, sliceL, zrow, List.length_append, List.length_cons, List.length_nil, List.length_set, List.length_replicate, List.length_take, List.length_drop, decide_eq_true_eq, decide_eq_false_iff_not, Bool.or_eq_true, Bool.and_eq_true, Bool.or_eq_false_iff, Bool.and_eq_false_iff, Bool.not_eq_true', Bool.not_eq_false', Bool.not_eq_true, Bool.not_eq_false, beq_iff_eq, beq_eq_false_iff_ne, bne_iff_ne, ne_eq, implies_true, and_true, true_and] at *
  all_goals ((repeat' (first | exact trivial | apply And.intro | intro _)) <;> first | trivial | omega | exact Sp.tmod_nn (by omega) | exact Sp.tmod_lt (by omega) (by omega))
set_option maxHeartbeats 4000000 in
theorem so7_7 (k : (Ty.pair ty44 ty28).den) (x : (Ty.pair ty4 (Ty.pair ty3 ty50)).den) (fk : Fit (Ty.pair ty44 ty28) k) (h : Sp.in7_7 k x) : StepOk true Sp.in7_7 Sp.mu7_7 k x (Sp.st7_7 k x) := by
  try dsimp only [Ty.den] at *
  simp only [Sp.in7_7, Fit, maxLen] at h fk
  unfold Sp.st7_7
  (repeat' (first | exact rfl | (refine StepOk.cnd (fun hc => ?_) (fun hc => ?_) <;> (try simp only [IntKind.wrap_i64, IntKind.wrap_u8, IntKind.wrap_u32, IntKind.wrap_u64, bne_eq_false_iff_eq, Int.natCast_inj, setE, copyL, sliceL, zrow, List.length_append, List.length_cons, List.length_nil, List.length_set, List.length_replicate, List.length_take, List.length_drop, decide_eq_true_eq, decide_eq_false_iff_not, Bool.or_eq_true, Bool.and_eq_true, Bool.or_eq_false_iff, Bool.and_eq_false_iff, Bool.not_eq_true', Bool.not_eq_false', Bool.not_eq_true, Bool.not_eq_false, beq_iff_eq, beq_eq_false_iff_ne, bne_iff_ne, ne_eq] at hc)) | refine StepOk.opt (fun _ => ?_))) <;> (first | exact rfl | (refine ⟨rfl, ?_, ?_⟩ <;> simp only [Sp.in7_7, Sp.mu7_7, IntKind.wrap_i64, IntKind.wrap_u8, IntKind.wrap_u32, IntKind.wrap_u64, Sp.tmod_lit, Sp.tdiv_lit, bne_eq_false_iff_eq, Int.natCast_inj, setE, copyL, sliceL, zrow, List.length_append, List.length_cons, List.length_nil, List.length_set, List.length_replicate, List.length_take, List.length_drop, decide_eq_true_eq, decide_eq_false_iff_not, Bool.or_eq_true, Bool.and_eq_true, Bool.or_eq_false_iff, Bool.and_eq_false_iff, Bool.not_eq_true', Bool.not_eq_false', Bool.not_eq_true, Bool.not_eq_false, beq_iff_eq, beq_eq_false_iff_ne, bne_iff_ne, ne_eq] <;> first | omega | (and_intros <;> first | omega | exact h.1 | exact h.2 | exact h.2.1 | exact h.2.2 | exact h.2.2.1 | exact h.2.2.2 | exact h.2.2.2.1 | exact h.2.2.2.2 | exact h.2.2.2.2.1 | exact h.2.2.2.2.2 | exact h.2.2.2.2.2.1 | exact h.2.2.2.2.2.2)))
theorem lo7_7 : LoopOk Try.prog gdS (RetAt Try.prog Try.f7 (Rsh.one (none)) none ty4) (bodyAt (bodyOf Try.f7) [0]) LS7_7 :=
  loop_run (ctxOkF gokGmK1 []) (L := lookL []) (loops_of (l := []) (by kernel_rfl) (loops_nil)) sa7_7 va7_7 so7_7
end Go.Proofs.Ytabifaikklcghaa.Sy
namespace Go.Proofs.Ytabifaikklcghaa.Sp
open Go Go.RowKit Sy
def F7 (x : List Nat) : Bool :=
  bif (decide (((x).length : Int) > (300 : Int))) then
    (Sp.F27 ())
  else
    Sp.optR (Sp.R7_7 (x, (Sp.F23 ((4593671619917905920 : Nat), (4604930618986332160 : Nat), (4607182418800017408 : Nat)))) (false, (0 : Int), (0 : Int))) (fun y => y)
    ((Sp.F27 ()))
end Go.Proofs.Ytabifaikklcghaa.Sp
namespace Go.Proofs.Ytabifaikklcghaa.Sy
def ct7 : Ct := { p := ty44, psh := [none], r := ty4, rsh := (Rsh.one (none)), pre := none, fresh := none, F := Sp.F7 }
theorem va7 (x : ty44.den) : ((evFn (ctxG GmK1) Try.f7 ty44 [none] (Rsh.one (none)) none ty4 (lookL [(7, LS7_7)]) x)).val (fun y => y) (Ty.dflt ty4) = Sp.F7 x := by kernel_rfl
theorem se7 (x : ty44.den) : ((evFn (ctxG GmK1) Try.f7 ty44 [none] (Rsh.one (none)) none ty4 (lookL [(7, LS7_7)]) x)).safe = ((((decide (((x).length : Int) > (300 : Int))) = true → True) ∧ ((decide (((x).length : Int) > (300 : Int))) = false → ((Sp.in7_7 (x, (Sp.F23 ((4593671619917905920 : Nat), (4604930618986332160 : Nat), (4607182418800017408 : Nat)))) (false, (0 : Int), (0 : Int))) ∧ ((Sp.R7_7 (x, (Sp.F23 ((4593671619917905920 : Nat), (4604930618986332160 : Nat), (4607182418800017408 : Nat)))) (false, (0 : Int), (0 : Int))) = none → True))))) := by kernel_rfl
theorem sa7 (x : ty44.den) (fx : Fit ty44 x) : SafeW ((evFn (ctxG GmK1) Try.f7 ty44 [none] (Rsh.one (none)) none ty4 (lookL [(7, LS7_7)]) x)) := by
  refine ⟨?_⟩
  rw [se7]
  try dsimp only [Ty.den] at *
  simp only [Fit, maxLen] at fx
  simp only [Sp.in7_7, IntKind.wrap_i64, IntKind.wrap_u8, IntKind.wrap_u32, IntKind.wrap_u64, Sp.tmod_lit, Sp.tdiv_lit, bne_eq_false_iff_eq, Int.natCast_inj, setE, copyL, sliceL, zrow, List.length_append, List.length_cons, List.length_nil, List.length_set, List.length_replicate, List.length_take, List.length_drop, decide_eq_true_eq, decide_eq_false_iff_not, Bool.or_eq_true, Bool.and_eq_true, Bool.or_eq_false_iff, Bool.and_eq_false_iff, Bool.not_eq_true', Bool.not_eq_false', Bool.not_eq_true, Bool.not_eq_false, beq_iff_eq, beq_eq_false_iff_ne, bne_iff_ne, ne_eq, implies_true, and_true, true_and] at *
  all_goals ((repeat' (first | exact trivial | apply And.intro | intro _)) <;> first | trivial | omega | exact Sp.tmod_nn (by omega) | exact Sp.tmod_lt (by omega) (by omega))
theorem ok7 : CtOk Try.prog gdS 7 ct7 :=
  fn_okU (ctxOkF gokGmK1 []) rfl Try.func7 (p := ty44) (psh := [none]) (r := ty4) (rsh := (Rsh.one (none))) (pre := none) (fresh := none) (F := Sp.F7) (L := (lookL [(7, LS7_7)])) (c := bodyOf Try.f7) (dflt := Ty.dflt ty4) rfl (loops_of (l := [bodyAt (bodyOf Try.f7) [0]]) (by kernel_rfl) (loops_cons (s0 := LS7_7) (by kernel_rfl) lo7_7 (loops_nil)))
    (safe_no @sa7) va7
def GmK2 : List (Nat × Ct) := (32, ct32) :: (5, ct5) :: (6, ct6) :: (7, ct7) :: GmK1
theorem gokGmK2 : GOk GmK2 := gok_cons ok32 ⟨_, Try.func32, by kernel_rfl, by kernel_rfl⟩ (gok_cons ok5 ⟨_, Try.func5, by kernel_rfl, by kernel_rfl⟩ (gok_cons ok6 ⟨_, Try.func6, by kernel_rfl, by kernel_rfl⟩ (gok_cons ok7 ⟨_, Try.func7, by kernel_rfl, by kernel_rfl⟩ (gokGmK1))))
end Go.Proofs.Ytabifaikklcghaa.Sy
