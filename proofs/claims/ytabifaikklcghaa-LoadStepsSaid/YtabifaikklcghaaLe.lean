/- The law's building (own work). -/
import Derived.Test.YtabifaikklcghaaK0
namespace Go.Proofs.Ytabifaikklcghaa.Sp
open Go Sy Ieee
set_option linter.unusedVariables false
set_option linter.unusedSimpArgs false
set_option maxRecDepth 10000
def bldT (t : Nat × Nat × Nat) : BldT := (5, 1, 4000, 30, t.1, t.2.1, t.2.2, (sampleB 5 2).cars)
def usualT : Nat × Nat × Nat := (4593671619917905920, 4604930618986332160, 4607182418800017408)
theorem bldT_isB (t : Nat × Nat × Nat) (h : loadsOk (bldT t) = true) : IsB (bldT t) where
  fl := by show (2 : Int) ≤ 5 ∧ (5 : Int) ≤ 32; decide
  cn := (sample_isB 5 2 (by omega) (by omega)).cn
  deb := (sample_isB 5 2 (by omega) (by omega)).deb
  park := (sample_isB 5 2 (by omega) (by omega)).park
  car := (sample_isB 5 2 (by omega) (by omega)).car
  loads := h
  room := (sample_isB 5 2 (by omega) (by omega)).room
theorem bld_eq (t : Nat × Nat × Nat) : F23 t = bif (F40 (bldT t) != (0 : Int)) then bldT usualT else bldT t := by
  unfold F23
  rw [show F35 ((5 : Int), (2 : Int)) = sampleB 5 2 from sample_eq 5 2 (by omega) (by omega)]
  rfl
theorem bld_cases (t : Nat × Nat × Nat) : ∃ t', F23 t = bldT t' ∧ IsB (bldT t') := by
  rw [bld_eq]
  cases hv : (F40 (bldT t) != (0 : Int)) with
  | true => exact ⟨usualT, rfl, bldT_isB _ (by kernel_rfl)⟩
  | false =>
    refine ⟨t, rfl, rvalid_b ?_ (by simpa using hv)⟩
    show (sampleB 5 2).cars.length ≤ maxLen
    rw [sample_len]; simp only [maxLen]; omega
theorem bld_isB (t : Nat × Nat × Nat) : IsB (F23 t) := by
  obtain ⟨t', e, h⟩ := bld_cases t
  rw [e]; exact h
theorem bld_lds (t : Nat × Nat × Nat) : Lds (F23 t) := lds_of (bld_isB t).loads
theorem bld_usual : F23 usualT = bldT usualT := by
  rw [bld_eq]
  cases (F40 (bldT usualT) != (0 : Int)) <;> rfl
end Go.Proofs.Ytabifaikklcghaa.Sp
