/- A part of the proof: lemmas about the walk of the program and about plain integers and lists. No conditions beyond those that each lemma states. -/
import Derived.Test.YtjpkddhpkohiaaaSxLoop
import Derived.RowKit3
/-! From a contract to what a row asks of a walk. -/
set_option linter.unusedVariables false
namespace Go.Sx
open Go.RowKit
variable {P : Program}

theorem keptBut_same {w w' : World} (may : MemPlace → Prop) (h1 : w'.os = w.os) (h2 : w'.output = w.output) (h : ∀ i, i < w.heap.size → w'.heap[i]? = w.heap[i]?) : w.keptBut w' may := by
  refine ⟨h1, h2, fun i hi => ?_⟩
  rw [h i hi]
  cases w.heap[i]? with
  | none => rfl
  | some o => cases o <;> first | exact ⟨rfl, rfl, rfl, fun _ _ => rfl⟩ | exact .inr ⟨rfl, rfl⟩ | rfl

theorem Sat.whole (w : World) (ν : Nu) : Sat ⟨w, boxBlocks [] ν, ν⟩ (fun b => w.heap[b]?) ν [] w :=
  ⟨rfl, rfl, rfl, Nat.le_refl _, Nat.le_refl _, fun _ _ _ => rfl, fun _ _ e => e, fun _ _ h => (by cases h), fun _ _ _ h => (by cases h), fun _ _ _ _ _ h => (by cases h), by simp⟩

end Go.Sx
