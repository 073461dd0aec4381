/- The sample buildings, and bounds (own work). -/
import Derived.Test.YtghlpolodjlgjaaT2
import Derived.Test.YtghlpolodjlgjaaBuB
namespace Go.Proofs.Ytghlpolodjlgjaa.Sp
open Go Sy
set_option linter.unusedVariables false
set_option linter.unusedSimpArgs false
def sampleCar (fl : Int) (i : Nat) : CarT := (100, 2, 6, 5, 4, 2, 3, 10, (i : Int) % fl)
def sampleB (fl : Int) (n : Nat) : BldT := (fl, 1, 4000, 30, 4591870180066957722, 4605380978949069210, 4607632778762754458, (List.range n).map (sampleCar fl))
theorem sample_eq (fl : Int) (n : Nat) (h0 : 1 ≤ fl) (hn : n ≤ 100) : F4 (fl, (n : Int)) = sampleB fl n := by
  unfold F4 G4_3
  have hs : ∀ i, i < n → ∃ k', st4_3 (fl, (n : Int)) ((fun i : Nat => ((i : Int), sampleB fl i)) i) = .next k' ((fun i : Nat => ((i : Int), sampleB fl i)) (i + 1)) := by
    intro i hi
    refine ⟨(fl, (n : Int)), ?_⟩
    have h1 : decide ((i : Int) < (n : Int)) = true := by simp; omega
    simp only [st4_3, sampleB, h1, cond_true, wrap_succ hi (show n ≤ maxLen by simp [maxLen]; omega), List.range_succ, List.map_append, List.map_cons, List.map_nil, sampleCar,
      Int.tmod_eq_emod_of_nonneg (Int.natCast_nonneg i)]
  have hb : st4_3 (fl, (n : Int)) ((fun i : Nat => ((i : Int), sampleB fl i)) n) = .brk (fl, (n : Int)) ((n : Int), sampleB fl n) := by
    simp [st4_3]
  have := (end_row_brk _ n hs hb (fuel := Nat.succ (mu4_3 (fl, (n : Int)) (0, sampleB fl 0))) (by simp [mu4_3])).1
  exact congrArg Prod.snd this
theorem sample_cars (fl : Int) (n : Nat) : (sampleB fl n).cars = (List.range n).map (sampleCar fl) := rfl
theorem sample_len (fl : Int) (n : Nat) : (sampleB fl n).cars.length = n := by simp [sample_cars]
theorem sample_isB (fl : Int) (n : Nat) (h : 2 ≤ fl ∧ fl ≤ 32) (hn : 1 ≤ n ∧ n ≤ 8) : IsB (sampleB fl n) where
  fl := h
  cn := by rw [sample_len]; exact hn
  deb := by show (1 : Int) ≤ 1 ∧ (1 : Int) ≤ 16; decide
  park := by show (1 : Int) ≤ 30 ∧ (30 : Int) ≤ 10000; decide
  car := by
    intro c hc
    rw [sample_cars, List.mem_map] at hc
    obtain ⟨i, hi, rfl⟩ := hc
    have h1 : 0 ≤ (i : Int) % fl := Int.emod_nonneg _ (by omega)
    have h2 : (i : Int) % fl < fl := Int.emod_lt_of_pos _ (by omega)
    have h3 : (i : Int) % fl ≤ fl - 1 := by omega
    simp only [carOk, sampleCar, tOk, sampleB]
    simp [h1, h3]
  loads := by simp only [loadsOk, sampleB]; kernel_rfl
  room := by rw [sample_len]; simp only [sampleB]; omega
end Go.Proofs.Ytghlpolodjlgjaa.Sp
