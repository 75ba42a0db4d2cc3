/-
  The law DatumOperates holds: for every list of numbers, number, pair of integers and operator the Go function returns true and leaves its arguments as they were. No conditions.
-/
import Derived.Test.YtmpfdejckbceiaaRows
import Derived.WalkKit
import Derived.ProofKit
import Derived.Test.YtmpfdejckbceiaaOp14
import Derived.Test.YtmpfdejckbceiaaOp35
namespace Go.Proofs.Ytmpfdejckbceiaa.datumOperates
open Go.ChangeShapes Go.WideShapes Go.ChangeAt Go.RowKit
set_option linter.unusedVariables false

theorem own : ownKnob Try.prog.godebug = none := by kernel_rfl
theorem walk : ∀ us, Sx.argsOk Try.prog Try.f3.params.toList us → Sx.PC Try.prog 3 us (Sx.Bo true) := by
  rintro us ⟨n1, r1, u1, rfl, h1, n2, r2, u2, rfl, h2, n3, r3, u3, rfl, h3, n4, r4, u4, rfl, h4, n5, r5, u5, rfl, h5, rfl⟩
  obtain ⟨l, e1, _, hl⟩ := Sx.arg_sl (enc := Sx.encInt) (p := In64) (sz := 1) Try.underlying22 ag22 (by kernel_rfl) (fun n row h => Sx.cells_int (n := n) Try.underlying3 h) h1
  obtain ⟨n, e2, _⟩ := Sx.arg_int Try.underlying3 ag3 h2
  obtain ⟨a, e3, ha⟩ := Sx.arg_int Try.underlying2 ag2 h3
  obtain ⟨b, e4, hb⟩ := Sx.arg_int Try.underlying2 ag2 h4
  obtain ⟨op, e5, _⟩ := Sx.arg_str Try.underlying9 ag9 h5
  rw [e1, e2, e3, e4, e5]
  exact operates_law l n a b op hl ha hb

set_option maxRecDepth 100000 in
theorem lifted (os : Os) (started : os.Started) (H : Type) (enc : TypeId × Value → H) :
    ReturnsInHanded {} Try.checked os 3 .any (Rows.datumOperatesSpec.pre6 enc Try.prog Try.f3 Rows.datumOperatesRow.domain false) (Rows.datumOperatesSpec.post enc Try.prog Try.f3 false true false false) := by
  refine returnsInHanded_of_change (C := Try.checked) own started (by kernel_rfl) Try.func3
    (ChangeSpec.witness6 (enc := enc) (C := Try.checked) false ⟨#[], #[.slice none 0 0, .int .i64 0, .int .i64 0, .int .i64 0, .string ⟨#[]⟩], []⟩ 8 (by kernel_rfl) (by kernel_rfl) (by kernel_rfl) (by kernel_rfl)) ?_
  intro W base args ds gs before hval0 hW hcnd _
  exact Sx.law_post (C := Try.checked) (F := 3) (fn := Try.f3) (s := Rows.datumOperatesSpec) (L := [22, 3, 2, 9]) (tb := 4) (by kernel_rfl) (by kernel_rfl) (by kernel_rfl) rfl rfl Try.underlying4
    (by
      intro ds h
      match ds, h with
      | [d1, d2, d3, d4, d5], _ => rfl) walk W base args ds gs before hval0 hW

theorem over : Rows.datumOperatesRow.holds Try.pinned (OpenSpec.ofChange Rows.datumOperatesSpec) :=
  OpenClaim.holds_of_wide 3 Try.f3 rfl rfl rfl rfl rfl rfl rfl ⟨rfl, rfl, rfl, rfl, rfl⟩ rfl rfl rfl rfl rfl (by kernel_rfl) Try.func3 (by kernel_rfl)
    (of_decide_eq_true (by kernel_rfl)) (by unfold Func.isWrapper; first | (rw [if_pos (by decide +kernel)]; kernel_rfl) | (rw [if_neg (by decide +kernel)]; exact ⟨rfl, rfl⟩))
    (fun os started H enc _ => lifted os started H enc)

/-- THE STATEMENT -/
theorem proved : Rows.DatumOperatesSaid :=
  over
#print axioms proved
end Go.Proofs.Ytmpfdejckbceiaa.datumOperates
