/-
  The law IntervalAlgebra holds: for every two lists of ranges the Go function returns true and leaves its arguments as they were. No conditions.
-/
import Derived.Test.YtjpkddhpkohiaaaRows
import Derived.WalkKit
import Derived.ProofKit
import Derived.Test.YtjpkddhpkohiaaaSxOpen
import Derived.Test.YtjpkddhpkohiaaaL2T9
namespace Go.Proofs.Ytjpkddhpkohiaaa.intervalAlgebra
open Go.ChangeShapes Go.WideShapes Go.ChangeAt Go.RowKit
set_option linter.unusedVariables false

theorem own : ownKnob Try.prog.godebug = none := by kernel_rfl
theorem walk : ∀ us, Sx.argsOk Try.prog Try.f5.params.toList us → Sx.PC Try.prog 5 us (Sx.Bo true) := walk_rr fun a b ha hb => algebra_law a b ha hb

set_option maxRecDepth 100000 in
theorem lifted (os : Os) (started : os.Started) (H : Type) (enc : TypeId × Value → H) :
    ReturnsInHanded {} Try.checked os 5 .any (Rows.intervalAlgebraSpec.pre6 enc Try.prog Try.f5 Rows.intervalAlgebraRow.domain false) (Rows.intervalAlgebraSpec.post enc Try.prog Try.f5 false true false false) := by
  refine returnsInHanded_of_change (C := Try.checked) own started (by kernel_rfl) Try.func5
    (ChangeSpec.witness6 (enc := enc) (C := Try.checked) false ⟨#[], #[.slice none 0 0, .slice none 0 0], []⟩ 8 (by kernel_rfl) (by kernel_rfl) (by kernel_rfl) (by kernel_rfl)) ?_
  intro W base args ds gs before hval0 hW hcnd _
  exact Sx.law_post (C := Try.checked) (F := 5) (fn := Try.f5) (s := Rows.intervalAlgebraSpec) (L := [22, 35, 2]) (tb := 4) (by kernel_rfl) (by kernel_rfl) (by kernel_rfl) rfl rfl Try.underlying4
    (by
      intro ds h
      match ds, h with
      | [d1, d2], _ => rfl) walk W base args ds gs before hval0 hW

theorem over : Rows.intervalAlgebraRow.holds Try.pinned (OpenSpec.ofChange Rows.intervalAlgebraSpec) :=
  OpenClaim.holds_of_wide 5 Try.f5 rfl rfl rfl rfl rfl rfl rfl ⟨rfl, rfl, rfl, rfl, rfl⟩ rfl rfl rfl rfl rfl (by kernel_rfl) Try.func5 (by kernel_rfl)
    (of_decide_eq_true (by kernel_rfl)) (by unfold Func.isWrapper; first | (rw [if_pos (by decide +kernel)]; kernel_rfl) | (rw [if_neg (by decide +kernel)]; exact ⟨rfl, rfl⟩))
    (fun os started H enc _ => lifted os started H enc)

/-- THE STATEMENT -/
theorem proved : Rows.IntervalAlgebraSaid :=
  over
#print axioms proved
end Go.Proofs.Ytjpkddhpkohiaaa.intervalAlgebra
