/- A part of the proof: lemmas about the walk of the program (module Sx.Bridge of the prover). No conditions beyond those that each lemma states. -/
import Derived.Test.YtmpfdejckbceiaaSxLoop
import Derived.RowKit3
/-! From a contract to what a row asks of a walk. -/
set_option linter.unusedVariables false
namespace Go.Sx
open Go.RowKit
variable {P : Program}

theorem keptBut_same {w w' : World} (may : MemPlace → Prop) (h1 : w'.os = w.os) (h2 : w'.output = w.output) (h : ∀ i, i < w.heap.size → w'.heap[i]? = w.heap[i]?) : w.keptBut w' may := by
  refine ⟨h1, h2, fun i hi => ?_⟩
  rw [h i hi]
  cases w.heap[i]? with
  | none => rfl
  | some o => cases o <;> first | exact ⟨rfl, rfl, rfl, fun _ _ => rfl⟩ | exact .inr ⟨rfl, rfl⟩ | rfl

theorem Sat.whole (w : World) (ν : Nu) : Sat ⟨w, boxBlocks [] ν, ν⟩ (fun b => w.heap[b]?) ν [] w :=
  ⟨rfl, rfl, rfl, fun _ => rfl, Nat.le_refl _, fun _ _ _ => rfl, fun _ _ e => e, fun _ _ h => (by cases h), fun _ _ _ h => (by cases h), fun _ _ _ _ _ h => (by cases h), by simp⟩

theorem PC.walk {f : FuncId} {args : List T} {b : Bool} (h : PC P f args (Bo b)) (w : World) (vs : List Value) (hv : T.reps (fun b => w.heap[b]?) (fun _ => ⟨none, 0⟩) args vs) :
    Calls P f vs.toArray w fun e w' => e = .returned (.bool b) ∧ Grown w w' := by
  refine Calls.mono (h.2 _ _ w vs (Sat.whole w _) hv) ?_
  rintro e w' ⟨v, M', rfl, _, hr, hs⟩
  simp only [T.rep, Cell.rep, C.rep] at hr
  subst hr
  refine ⟨rfl, keptBut_same _ hs.os hs.output (fun i hi => hs.unch i hi ?_), hs.cold, hs.size⟩
  rintro ⟨_, _, hm, _⟩
  cases hm
end Go.Sx
