/- A part of the proof: lemmas about the walk of the program (module D41.T5a of the prover). No conditions beyond those that each lemma states. -/
import Derived.Test.YtmpfdejckbceiaaD41T4
import Derived.Test.YtmpfdejckbceiaaD41W
set_option linter.unusedSimpArgs false
set_option linter.unusedVariables false
set_option maxRecDepth 20000
namespace Go.Proofs.Ytmpfdejckbceiaa
open Go Go.Sx

theorem add_in (a b : Int) (ha : In64 a) (hb : In64 b) (h : In64 (a + b)) : intRes [43] a b = (intDat (a + b), []) := by
  have hw : IntKind.i64.wrap (a + b) = a + b := w64 h
  have : (decide (a < a + b) == decide (0 < b)) = true := by
    rw [beq_iff_eq, decide_eq_decide]; omega
  simp only [intRes, hw, this]; rfl
theorem add_out (a b : Int) (ha : In64 a) (hb : In64 b) (h : ¬ In64 (a + b)) : intRes [43] a b = (zeroDat, sOver) := by
  obtain ⟨k, hk, h1⟩ := wrap64 (a + b)
  have : (decide (a < IntKind.i64.wrap (a + b)) == decide (0 < b)) = false := by
    rw [beq_eq_false_iff_ne, ne_eq, decide_eq_decide]; omega
  simp only [intRes, this]; rfl
theorem sub_in (a b : Int) (ha : In64 a) (hb : In64 b) (h : In64 (a - b)) : intRes [45] a b = (intDat (a - b), []) := by
  have hw : IntKind.i64.wrap (a - b) = a - b := w64 h
  have : (decide (a - b < a) == decide (0 < b)) = true := by
    rw [beq_iff_eq, decide_eq_decide]; omega
  simp only [intRes, hw, this]; rfl
theorem div_zero (a : Int) : intRes [100, 105, 118] a 0 = (zeroDat, sZero) := by rfl
theorem rem_zero (a : Int) : intRes [114, 101, 109] a 0 = (zeroDat, sZero) := by rfl
theorem div_over : intRes [100, 105, 118] (-9223372036854775808) (-1) = (zeroDat, sOver) := by rfl
theorem rem_over : intRes [114, 101, 109] (-9223372036854775808) (-1) = (zeroDat, sOver) := by rfl
theorem not_over (a b : Int) (ha : In64 a) (hb : In64 b) (h1 : ¬ (a = -9223372036854775808 ∧ b = -1)) : (decide (b = -1) && (decide (a = IntKind.i64.wrap (0 - a)) && !decide (a = 0))) = false := by
  obtain ⟨k, hk, h2⟩ := wrap64 (0 - a)
  by_cases hb1 : b = -1
  · have : (decide (a = IntKind.i64.wrap (0 - a)) && !decide (a = 0)) = false := by
      by_cases h3 : a = 0
      · simp [h3]
      · have : decide (a = IntKind.i64.wrap (0 - a)) = false := by rw [decide_eq_false_iff_not]; omega
        rw [this, Bool.false_and]
    rw [this, Bool.and_false]
  · simp [hb1]
theorem div_ok (a b : Int) (ha : In64 a) (hb : In64 b) (h0 : b ≠ 0) (h1 : ¬ (a = -9223372036854775808 ∧ b = -1)) : intRes [100, 105, 118] a b = (intDat (a.tdiv b), []) := by
  have h0' : decide (b = 0) = false := by simpa using h0
  have hw : IntKind.i64.wrap (a.tdiv b) = a.tdiv b := w64 (tdiv_in a b ha hb h0 h1)
  simp only [intRes, h0', hw, not_over a b ha hb h1]; rfl
theorem rem_ok (a b : Int) (ha : In64 a) (hb : In64 b) (h0 : b ≠ 0) (h1 : ¬ (a = -9223372036854775808 ∧ b = -1)) : intRes [114, 101, 109] a b = (intDat (a.tmod b), []) := by
  have h0' : decide (b = 0) = false := by simpa using h0
  simp only [intRes, h0', not_over a b ha hb h1]; rfl
theorem num_int (a : Int) : (intDat a).num = a := rfl
theorem num_zero : zeroDat.num = 0 := rfl
theorem isInt_int (a : Int) : isInt (intDat a, []) = true := rfl
theorem isInt_zero : isInt (zeroDat, sZero) = false := rfl
theorem isInt_over : isInt (zeroDat, sOver) = false := rfl
def absR (a : Int) : Int := if a < 0 then IntKind.i64.wrap (0 - a) else a

theorem maxE (b : Int) (hb : In64 b) : IntKind.i64.wrap (9223372036854775807 - if 0 > b then 0 else b) = 9223372036854775807 - if 0 > b then 0 else b := by
  refine w64 ?_
  split <;> omega
theorem minE (b : Int) (hb : In64 b) : IntKind.i64.wrap (-9223372036854775808 - if 0 < b then 0 else b) = -9223372036854775808 - if 0 < b then 0 else b := by
  refine w64 ?_
  split <;> omega
end Go.Proofs.Ytmpfdejckbceiaa
