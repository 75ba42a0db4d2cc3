/-
 The law DatumMatches holds: for every list of numbers and every number the Go function returns true and leaves its arguments as they were. No conditions.
-/
import Derived.Test.YtajfdbdklphonaaGreatDm16
import Derived.Test.YtajfdbdklphonaaGreatRows
import Derived.WalkKit
import Derived.ProofKit
namespace Go.Proofs.YtajfdbdklphonaaGreat.datumMatches
open Go.ChangeShapes Go.WideShapes Go.ChangeAt Go.RowKit
set_option linter.unusedVariables false
theorem own : ownKnob Tryz.prog.godebug = none := by kernel_rfl
theorem walk : ∀ us, Sx.argsOk Tryz.prog Tryz.f3.params.toList us → Sx.PC Tryz.prog 3 us (Sx.Bo true) := by
 rintro us ⟨n1, r1, u1, rfl, h1, n2, r2, u2, rfl, h2, rfl⟩
 obtain ⟨l, e1, _, hl⟩ := Sx.arg_sl (enc := Sx.encInt) (p := In64) (sz := 1) Tryz.underlying22 ag22 (by kernel_rfl) (fun n row h => Sx.cells_int (n := n) Tryz.underlying3 h) h1
 obtain ⟨n, e2, _⟩ := Sx.arg_int Tryz.underlying3 ag3 h2
 rw [e1, e2]
 exact matches41_law l hl n
set_option maxRecDepth 100000 in
theorem lifted (os : Os) (started : os.Started) (H : Type) (enc : TypeId × Value → H) :
    ReturnsInHanded {} Tryz.checked os 3 .any (Rows.datumMatchesSpec.pre6 enc Tryz.prog Tryz.f3 Rows.datumMatchesRow.domain false) (Rows.datumMatchesSpec.post enc Tryz.prog Tryz.f3 false true false false) := by
  refine returnsInHanded_of_change (C := Tryz.checked) own started (by kernel_rfl) Tryz.func3
    (ChangeSpec.witness6 (enc := enc) (C := Tryz.checked) false ⟨#[], #[.slice none 0 0, .int .i64 0], []⟩ 8 (by kernel_rfl) (by kernel_rfl) (by kernel_rfl) (by kernel_rfl)) ?_
  intro W base args ds gs before hval0 hW hcnd _
  exact Sx.law_post (C := Tryz.checked) (F := 3) (fn := Tryz.f3) (s := Rows.datumMatchesSpec) (L := [22, 3]) (tb := 4) (by kernel_rfl) (by kernel_rfl) (by kernel_rfl) rfl rfl Tryz.underlying4
    (by
      intro ds h
      match ds, h with
      | [d1, d2], _ => rfl) walk W base args ds gs before hval0 hW
theorem over : Rows.datumMatchesRow.holds Tryz.pinned (OpenSpec.ofChange Rows.datumMatchesSpec) :=
 OpenClaim.holds_of_wide 3 Tryz.f3 rfl rfl rfl rfl rfl rfl rfl ⟨rfl, rfl, rfl, rfl, rfl⟩ rfl rfl rfl rfl rfl (by kernel_rfl) Tryz.func3 (by kernel_rfl)
  (of_decide_eq_true (by kernel_rfl)) (by unfold Func.isWrapper; first | (rw [if_pos (by decide +kernel)]; kernel_rfl) | (rw [if_neg (by decide +kernel)]; exact ⟨rfl, rfl⟩))
  (fun os started H enc _ => lifted os started H enc)
theorem proved : Rows.DatumMatchesSaid :=
 over
#print axioms proved
end Go.Proofs.YtajfdbdklphonaaGreat.datumMatches
