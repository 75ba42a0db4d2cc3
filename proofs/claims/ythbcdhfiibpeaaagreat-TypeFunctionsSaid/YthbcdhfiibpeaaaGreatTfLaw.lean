/-
  The law TypeFunctions holds: the Go function returns true and leaves its arguments as they were. No conditions.
-/
import Derived.Test.YthbcdhfiibpeaaaGreatTf1
import Derived.Test.YthbcdhfiibpeaaaGreatRows
import Derived.JoinedCond
import Derived.Test.YthbcdhfiibpeaaaGreatTf5
namespace Go.Proofs.YthbcdhfiibpeaaaGreat.typeFunctions
open Go.ChangeShapes Go.WideShapes Go.ChangeAt Go.RowKit
set_option linter.unusedVariables false
theorem own : ownKnob Tryz.prog.godebug = none := by kernel_rfl
theorem walk : ∀ us, Sx.argsOk Tryz.prog Tryz.f4.params.toList us → Sx.PC Tryz.prog 4 us (Sx.Bo true) := by
  rintro us ⟨n1, r1, u1, rfl, h1, n2, r2, u2, rfl, h2, n3, r3, u3, rfl, h3, rfl⟩
  obtain ⟨l1, e1, _, hl1⟩ := Sx.arg_sl (enc := Sx.encInt) (p := fun x => -9223372036854775808 ≤ x ∧ x ≤ 9223372036854775807) (sz := 1) Tryz.underlying22 ag22 (by kernel_rfl) (fun n row h => Sx.cells_int (n := n) Tryz.underlying3 h) h1
  obtain ⟨l2, e2, _, hl2⟩ := Sx.arg_sl (enc := Sx.encInt) (p := fun x => -9223372036854775808 ≤ x ∧ x ≤ 9223372036854775807) (sz := 1) Tryz.underlying22 ag22 (by kernel_rfl) (fun n row h => Sx.cells_int (n := n) Tryz.underlying3 h) h2
  obtain ⟨a3, e3, _⟩ := Sx.arg_int Tryz.underlying3 ag3 h3
  rw [e1, e2, e3]
  exact functions_law l1 l2 hl1 hl2 a3
set_option maxRecDepth 100000 in
theorem lifted (os : Os) (started : os.Started) (H : Type) (enc : TypeId × Value → H) :
  ReturnsInHanded {} Tryz.checked os 4 .any (Rows.typeFunctionsSpec.pre6 enc Tryz.prog Tryz.f4 Rows.typeFunctionsRow.domain false) (Rows.typeFunctionsSpec.post enc Tryz.prog Tryz.f4 false true false false) := by
 refine returnsInHanded_of_change (C := Tryz.checked) own started (by kernel_rfl) Tryz.func4
  (ChangeSpec.witness6 (enc := enc) (C := Tryz.checked) false ⟨#[], #[.slice none 0 0, .slice none 0 0, .int .i64 0], []⟩ 8 (by kernel_rfl) (by kernel_rfl) (by kernel_rfl) (by kernel_rfl)) ?_
 intro W base args ds gs before hval0 hW hcnd _
 exact Sx.law_post (C := Tryz.checked) (F := 4) (fn := Tryz.f4) (s := Rows.typeFunctionsSpec) (L := [22, 3, 2, 4]) (tb := 4) (by kernel_rfl) (by kernel_rfl) (by kernel_rfl) rfl rfl Tryz.underlying4
  (by
   intro ds h
   match ds, h with
   | [d1, d2, d3], _ => rfl) walk W (Sx.GlobOk.none _) base args ds gs before hval0 hW
theorem over : Rows.typeFunctionsRow.holds Tryz.pinned (OpenSpec.ofChange Rows.typeFunctionsSpec) :=
 OpenClaim.holds_of_wide 4 Tryz.f4 rfl rfl rfl rfl rfl rfl rfl ⟨rfl, rfl, rfl, rfl, rfl⟩ rfl rfl rfl rfl rfl (by kernel_rfl) Tryz.func4 (by kernel_rfl)
  (of_decide_eq_true (by kernel_rfl)) (by unfold Func.isWrapper; first | (rw [if_pos (by decide +kernel)]; kernel_rfl) | (rw [if_neg (by decide +kernel)]; exact ⟨rfl, rfl⟩))
  (fun os started H enc _ => lifted os started H enc)
theorem proved : Rows.TypeFunctionsSaid :=
  over
#print axioms proved
end Go.Proofs.YthbcdhfiibpeaaaGreat.typeFunctions

