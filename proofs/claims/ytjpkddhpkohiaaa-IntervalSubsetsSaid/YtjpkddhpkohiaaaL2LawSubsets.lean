/-
  The law IntervalSubsets holds: for every two lists of ranges and every integer the Go function returns true and leaves its arguments as they were. No conditions.
-/
import Derived.Test.YtjpkddhpkohiaaaRows
import Derived.WalkKit
import Derived.ProofKit
import Derived.Test.YtjpkddhpkohiaaaSxOpen
import Derived.Test.YtjpkddhpkohiaaaL2T9
namespace Go.Proofs.Ytjpkddhpkohiaaa.intervalSubsets
open Go.ChangeShapes Go.WideShapes Go.ChangeAt Go.RowKit
set_option linter.unusedVariables false

theorem own : ownKnob Try.prog.godebug = none := by kernel_rfl
theorem walk : ∀ us, Sx.argsOk Try.prog Try.f6.params.toList us → Sx.PC Try.prog 6 us (Sx.Bo true) := walk_rrn fun a b n ha hb _ => subsets_law a b ha hb n

set_option maxRecDepth 100000 in
theorem lifted (os : Os) (started : os.Started) (H : Type) (enc : TypeId × Value → H) :
    ReturnsInHanded {} Try.checked os 6 .any (Rows.intervalSubsetsSpec.pre6 enc Try.prog Try.f6 Rows.intervalSubsetsRow.domain false) (Rows.intervalSubsetsSpec.post enc Try.prog Try.f6 false true false false) := by
  refine returnsInHanded_of_change (C := Try.checked) own started (by kernel_rfl) Try.func6
    (ChangeSpec.witness6 (enc := enc) (C := Try.checked) false ⟨#[], #[.slice none 0 0, .slice none 0 0, .int .i64 0], []⟩ 8 (by kernel_rfl) (by kernel_rfl) (by kernel_rfl) (by kernel_rfl)) ?_
  intro W base args ds gs before hval0 hW hcnd _
  exact Sx.law_post (C := Try.checked) (F := 6) (fn := Try.f6) (s := Rows.intervalSubsetsSpec) (L := [22, 35, 2]) (tb := 4) (by kernel_rfl) (by kernel_rfl) (by kernel_rfl) rfl rfl Try.underlying4
    (by
      intro ds h
      match ds, h with
      | [d1, d2, d3], _ => rfl) walk W base args ds gs before hval0 hW

theorem over : Rows.intervalSubsetsRow.holds Try.pinned (OpenSpec.ofChange Rows.intervalSubsetsSpec) :=
  OpenClaim.holds_of_wide 6 Try.f6 rfl rfl rfl rfl rfl rfl rfl ⟨rfl, rfl, rfl, rfl, rfl⟩ rfl rfl rfl rfl rfl (by kernel_rfl) Try.func6 (by kernel_rfl)
    (of_decide_eq_true (by kernel_rfl)) (by unfold Func.isWrapper; first | (rw [if_pos (by decide +kernel)]; kernel_rfl) | (rw [if_neg (by decide +kernel)]; exact ⟨rfl, rfl⟩))
    (fun os started H enc _ => lifted os started H enc)

/-- THE STATEMENT -/
theorem proved : Rows.IntervalSubsetsSaid :=
  over
#print axioms proved
end Go.Proofs.Ytjpkddhpkohiaaa.intervalSubsets
