/- A part of the proof: lemmas about the walk of the program (module D41.T6 of the prover). No conditions beyond those that each lemma states. -/
import Derived.Test.YtmpfdejckbceiaaD41T5
import Derived.Test.YtmpfdejckbceiaaD41T5z
import Derived.Test.YtmpfdejckbceiaaSxBridge
set_option linter.unusedVariables false
namespace Go.Proofs.Ytmpfdejckbceiaa
open Go Go.Sx

theorem divides_c (a b : Int) (ha : In64 a) (hb : In64 b) : PC Try.prog 4 [I .i64 a, I .i64 b] (Bo true) := by
  by_cases h0 : b = 0
  · subst h0; exact divides_zero a ha
  by_cases hov : a = -9223372036854775808 ∧ b = -1
  · obtain ⟨rfl, rfl⟩ := hov
    exact divides_over
  have hB : ∃ B, (if b < 0 then IntKind.i64.wrap (0 - b) else b) = B ∧ (b ≠ -9223372036854775808 → B = if b < 0 then -b else b) := by
    refine ⟨_, rfl, fun h => ?_⟩
    split
    · rw [w64 (by omega)]; omega
    · rfl
  obtain ⟨B, hB, hB2⟩ := hB
  have hbd := bound a b h0
  have hsum : ∃ c sum, (intRes [43] a b).1.num = c ∧ isInt (intRes [43] a b) = sum ∧ (sum = true → intRes [45] c b = (intDat a, [])) ∧ (sum = true ↔ In64 (a + b)) := by
    by_cases h : In64 (a + b)
    · rw [add_in a b ha hb h]
      refine ⟨_, _, rfl, rfl, fun _ => ?_, ?_⟩
      · have := sub_in (a + b) b h hb (by rw [Int.add_sub_cancel]; exact ha)
        rw [Int.add_sub_cancel] at this
        exact this
      · exact ⟨fun _ => h, fun _ => rfl⟩
    · rw [add_out a b ha hb h]
      refine ⟨_, _, rfl, rfl, fun h => ?_, ?_⟩
      · cases h
      · exact ⟨fun h => (by cases h), fun h' => absurd h' h⟩
  obtain ⟨c, sum, hc, hi, hsub, hsum⟩ := hsum
  refine divides_b a b (a.tdiv b) (a.tmod b) c sum _ _ _ _ B (div_ok a b ha hb h0 hov) (rem_ok a b ha hb h0 hov) (by simpa using h0) rfl ?_ rfl rfl rfl ?_ (back a b ha) (sgn a b) hB ?_ ?_ hc hi hsub ?_ ?_
  · intro h; simp only [decide_eq_true_eq] at h; simp only [decide_eq_false_iff_not]; exact fun e => hov ⟨h, e⟩
  · by_cases h : b < 0
    · have : ¬ 0 ≤ b := by omega
      simp [h, this]
    · have : 0 ≤ b := by omega
      simp [h, this]
  · intro h
    simp only [decide_eq_false_iff_not] at h ⊢
    rw [hB2 h]; omega
  · intro h
    simp only [decide_eq_false_iff_not] at h ⊢
    have := hB2 h
    rw [w64 (by rw [this]; split <;> omega), this]; omega
  · intro h
    rw [maxE b hb]
    simp only [decide_eq_true_eq] at h
    have e : (if 0 > b then 0 else b) = b := by split <;> omega
    rw [e]
    cases sum
    · have : ¬ In64 (a + b) := fun h' => by have := hsum.2 h'; cases this
      simp only [decide_eq_false_iff_not]; omega
    · have := hsum.1 rfl
      simp only [decide_eq_true_eq]; omega
  · intro h
    rw [minE b hb]
    simp only [decide_eq_false_iff_not] at h
    have e : (if 0 < b then 0 else b) = b := by split <;> omega
    rw [e]
    cases sum
    · have : ¬ In64 (a + b) := fun h' => by have := hsum.2 h'; cases this
      simp only [decide_eq_false_iff_not]; omega
    · have := hsum.1 rfl
      simp only [decide_eq_true_eq]; omega
end Go.Proofs.Ytmpfdejckbceiaa
