/-
  The law DatumBack holds: for every list of numbers the Go function returns true and leaves its argument as it was. No conditions.
-/
import Derived.Test.YtmpfdejckbceiaaRows
import Derived.WalkKit
import Derived.ProofKit
import Derived.Test.YtmpfdejckbceiaaBk4
import Derived.Test.YtmpfdejckbceiaaBk11
namespace Go.Proofs.Ytmpfdejckbceiaa.datumBack
open Go.ChangeShapes Go.WideShapes Go.ChangeAt Go.RowKit
set_option linter.unusedVariables false

theorem own : ownKnob Try.prog.godebug = none := by kernel_rfl
theorem walk : ∀ us, Sx.argsOk Try.prog Try.f5.params.toList us → Sx.PC Try.prog 5 us (Sx.Bo true) := by
  rintro us ⟨n1, r1, u1, rfl, h1, rfl⟩
  obtain ⟨l, e1, _, hl⟩ := Sx.arg_sl (enc := Sx.encInt) (p := In64) (sz := 1) Try.underlying22 ag22 (by kernel_rfl) (fun n row h => Sx.cells_int (n := n) Try.underlying3 h) h1
  rw [e1]
  exact back_law l hl

set_option maxRecDepth 100000 in
theorem lifted (os : Os) (started : os.Started) (H : Type) (enc : TypeId × Value → H) :
    ReturnsInHanded {} Try.checked os 5 .any (Rows.datumBackSpec.pre6 enc Try.prog Try.f5 Rows.datumBackRow.domain false) (Rows.datumBackSpec.post enc Try.prog Try.f5 false true false false) := by
  refine returnsInHanded_of_change (C := Try.checked) own started (by kernel_rfl) Try.func5
    (ChangeSpec.witness6 (enc := enc) (C := Try.checked) false ⟨#[], #[.slice none 0 0], []⟩ 8 (by kernel_rfl) (by kernel_rfl) (by kernel_rfl) (by kernel_rfl)) ?_
  intro W base args ds gs before hval0 hW hcnd _
  exact Sx.law_post (C := Try.checked) (F := 5) (fn := Try.f5) (s := Rows.datumBackSpec) (L := [22, 3]) (tb := 4) (by kernel_rfl) (by kernel_rfl) (by kernel_rfl) rfl rfl Try.underlying4
    (by
      intro ds h
      match ds, h with
      | [d1], _ => rfl) walk W base args ds gs before hval0 hW

theorem over : Rows.datumBackRow.holds Try.pinned (OpenSpec.ofChange Rows.datumBackSpec) :=
  OpenClaim.holds_of_wide 5 Try.f5 rfl rfl rfl rfl rfl rfl rfl ⟨rfl, rfl, rfl, rfl, rfl⟩ rfl rfl rfl rfl rfl (by kernel_rfl) Try.func5 (by kernel_rfl)
    (of_decide_eq_true (by kernel_rfl)) (by unfold Func.isWrapper; first | (rw [if_pos (by decide +kernel)]; kernel_rfl) | (rw [if_neg (by decide +kernel)]; exact ⟨rfl, rfl⟩))
    (fun os started H enc _ => lifted os started H enc)

/-- THE STATEMENT -/
theorem proved : Rows.DatumBackSaid :=
  over
#print axioms proved
end Go.Proofs.Ytmpfdejckbceiaa.datumBack
