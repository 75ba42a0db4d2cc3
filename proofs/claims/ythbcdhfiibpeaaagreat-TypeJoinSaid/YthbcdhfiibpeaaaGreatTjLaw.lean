/-
  The law TypeJoin holds: the Go function returns true and leaves its arguments as they were. No conditions.
-/
import Derived.Test.YthbcdhfiibpeaaaGreatTj1
import Derived.Test.YthbcdhfiibpeaaaGreatRows
import Derived.JoinedCond
import Derived.Test.YthbcdhfiibpeaaaGreatTj2
namespace Go.Proofs.YthbcdhfiibpeaaaGreat.typeJoin
open Go.ChangeShapes Go.WideShapes Go.ChangeAt Go.RowKit
set_option linter.unusedVariables false
theorem own : ownKnob Tryz.prog.godebug = none := by kernel_rfl
theorem walk : ∀ us, Sx.argsOk Tryz.prog Tryz.f3.params.toList us → Sx.PC Tryz.prog 3 us (Sx.Bo true) := by
  rintro us ⟨n1, r1, u1, rfl, h1, n2, r2, u2, rfl, h2, n3, r3, u3, rfl, h3, n4, r4, u4, rfl, h4, rfl⟩
  obtain ⟨l1, e1, _, hl1⟩ := Sx.arg_sl (enc := Sx.encInt) (p := fun x => -9223372036854775808 ≤ x ∧ x ≤ 9223372036854775807) (sz := 1) Tryz.underlying22 ag22 (by kernel_rfl) (fun n row h => Sx.cells_int (n := n) Tryz.underlying3 h) h1
  obtain ⟨l2, e2, _, hl2⟩ := Sx.arg_sl (enc := Sx.encInt) (p := fun x => -9223372036854775808 ≤ x ∧ x ≤ 9223372036854775807) (sz := 1) Tryz.underlying22 ag22 (by kernel_rfl) (fun n row h => Sx.cells_int (n := n) Tryz.underlying3 h) h2
  obtain ⟨l3, e3, _, hl3⟩ := Sx.arg_sl (enc := Sx.encInt) (p := fun x => -9223372036854775808 ≤ x ∧ x ≤ 9223372036854775807) (sz := 1) Tryz.underlying22 ag22 (by kernel_rfl) (fun n row h => Sx.cells_int (n := n) Tryz.underlying3 h) h3
  obtain ⟨a4, e4, _⟩ := Sx.arg_int Tryz.underlying3 ag3 h4
  rw [e1, e2, e3, e4]
  exact join_law l1 l2 l3 hl1 hl2 hl3 a4
set_option maxRecDepth 100000 in
theorem lifted (os : Os) (started : os.Started) (H : Type) (enc : TypeId × Value → H) :
  ReturnsInHanded {} Tryz.checked os 3 .any (Rows.typeJoinSpec.pre6 enc Tryz.prog Tryz.f3 Rows.typeJoinRow.domain false) (Rows.typeJoinSpec.post enc Tryz.prog Tryz.f3 false true false false) := by
 refine returnsInHanded_of_change (C := Tryz.checked) own started (by kernel_rfl) Tryz.func3
  (ChangeSpec.witness6 (enc := enc) (C := Tryz.checked) false ⟨#[], #[.slice none 0 0, .slice none 0 0, .slice none 0 0, .int .i64 0], []⟩ 8 (by kernel_rfl) (by kernel_rfl) (by kernel_rfl) (by kernel_rfl)) ?_
 intro W base args ds gs before hval0 hW hcnd _
 exact Sx.law_post (C := Tryz.checked) (F := 3) (fn := Tryz.f3) (s := Rows.typeJoinSpec) (L := [22, 3, 2, 4]) (tb := 4) (by kernel_rfl) (by kernel_rfl) (by kernel_rfl) rfl rfl Tryz.underlying4
  (by
   intro ds h
   match ds, h with
   | [d1, d2, d3, d4], _ => rfl) walk W (Sx.GlobOk.none _) base args ds gs before hval0 hW
theorem over : Rows.typeJoinRow.holds Tryz.pinned (OpenSpec.ofChange Rows.typeJoinSpec) :=
 OpenClaim.holds_of_wide 3 Tryz.f3 rfl rfl rfl rfl rfl rfl rfl ⟨rfl, rfl, rfl, rfl, rfl⟩ rfl rfl rfl rfl rfl (by kernel_rfl) Tryz.func3 (by kernel_rfl)
  (of_decide_eq_true (by kernel_rfl)) (by unfold Func.isWrapper; first | (rw [if_pos (by decide +kernel)]; kernel_rfl) | (rw [if_neg (by decide +kernel)]; exact ⟨rfl, rfl⟩))
  (fun os started H enc _ => lifted os started H enc)
theorem proved : Rows.TypeJoinSaid :=
  over
#print axioms proved
end Go.Proofs.YthbcdhfiibpeaaaGreat.typeJoin

