/-
  The law DatumParts holds: for every list of numbers and every key the Go function returns true and leaves its arguments as they were. No conditions.
-/
import Derived.Test.YthpndlinlhapgaaRows
import Derived.WalkKit
import Derived.ProofKit
import Derived.Test.YthpndlinlhapgaaDq6
import Derived.Test.YthpndlinlhapgaaDq10
namespace Go.Proofs.Ythpndlinlhapgaa.datumParts
open Go.ChangeShapes Go.WideShapes Go.ChangeAt Go.RowKit
set_option linter.unusedVariables false
theorem own : ownKnob Try.prog.godebug = none := by kernel_rfl
theorem walk : ∀ us, Sx.argsOk Try.prog Try.f3.params.toList us → Sx.PC Try.prog 3 us (Sx.Bo true) := by
  rintro us ⟨n1, r1, u1, rfl, h1, n2, r2, u2, rfl, h2, rfl⟩
  obtain ⟨l, e1, _, hl⟩ := Sx.arg_sl (enc := Sx.encInt) (p := In64) (sz := 1) Try.underlying22 ag22 (by kernel_rfl) (fun n row h => Sx.cells_int (n := n) Try.underlying3 h) h1
  obtain ⟨k, e2⟩ := cells_key h2
  rw [Sx.arg_st (n := 0) ag24, e1, e2]
  exact parts_law l hl k
set_option maxRecDepth 100000 in
theorem lifted (os : Os) (started : os.Started) (H : Type) (enc : TypeId × Value → H) :
    ReturnsInHanded {} Try.checked os 3 .any (Rows.datumPartsSpec.pre6 enc Try.prog Try.f3 Rows.datumPartsRow.domain false) (Rows.datumPartsSpec.post enc Try.prog Try.f3 false true false false) := by
  refine returnsInHanded_of_change (C := Try.checked) own started (by kernel_rfl) Try.func3
    (ChangeSpec.witness6 (enc := enc) (C := Try.checked) false ⟨#[], #[.slice none 0 0, .agg #[.int .i64 0, .string ⟨#[]⟩]], []⟩ 8 (by kernel_rfl) (by kernel_rfl) (by kernel_rfl) (by kernel_rfl)) ?_
  intro W base args ds gs before hval0 hW hcnd _
  exact Sx.law_post (C := Try.checked) (F := 3) (fn := Try.f3) (s := Rows.datumPartsSpec) (L := [22, 3, 24, 9]) (tb := 4) (by kernel_rfl) (by kernel_rfl) (by kernel_rfl) rfl rfl Try.underlying4
    (by
      intro ds h
      match ds, h with
      | [d1, d2], _ => rfl) walk W (Sx.GlobOk.none _) base args ds gs before hval0 hW
theorem over : Rows.datumPartsRow.holds Try.pinned (OpenSpec.ofChange Rows.datumPartsSpec) :=
  OpenClaim.holds_of_wide 3 Try.f3 rfl rfl rfl rfl rfl rfl rfl ⟨rfl, rfl, rfl, rfl, rfl⟩ rfl rfl rfl rfl rfl (by kernel_rfl) Try.func3 (by kernel_rfl)
    (of_decide_eq_true (by kernel_rfl)) (by unfold Func.isWrapper; first | (rw [if_pos (by decide +kernel)]; kernel_rfl) | (rw [if_neg (by decide +kernel)]; exact ⟨rfl, rfl⟩))
    (fun os started H enc _ => lifted os started H enc)
/-- THE STATEMENT -/
theorem proved : Rows.DatumPartsSaid :=
  over
#print axioms proved
end Go.Proofs.Ythpndlinlhapgaa.datumParts
