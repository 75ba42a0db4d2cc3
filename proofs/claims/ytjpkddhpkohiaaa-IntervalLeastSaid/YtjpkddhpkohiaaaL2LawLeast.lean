/-
  The law IntervalLeast holds: for every list of ranges and every integer the Go function returns true and leaves its arguments as they were. No conditions.
-/
import Derived.Test.YtjpkddhpkohiaaaRows
import Derived.WalkKit
import Derived.ProofKit
import Derived.Test.YtjpkddhpkohiaaaSxOpen
import Derived.Test.YtjpkddhpkohiaaaL2T9
import Derived.Test.YtjpkddhpkohiaaaL2T10
namespace Go.Proofs.Ytjpkddhpkohiaaa.intervalLeast
open Go.ChangeShapes Go.WideShapes Go.ChangeAt Go.RowKit
set_option linter.unusedVariables false

theorem own : ownKnob Try.prog.godebug = none := by kernel_rfl
theorem walk_rn2 {F : FuncId} (h : ∀ (l : List Ivl.Rg) (n : Int), (∀ r ∈ l, Ivl.In6 r) → In64 n → Sx.PC Try.prog F [Sl l, Sx.I .i64 n] (Sx.Bo true)) : ∀ us, Sx.argsOk Try.prog [22, 2] us → Sx.PC Try.prog F us (Sx.Bo true) := by
  rintro us ⟨n1, r1, u1, rfl, h1, n2, r2, u2, rfl, h2, rfl⟩
  obtain ⟨l, e1, hl⟩ := arg_ranges h1
  obtain ⟨m, e2, hm⟩ := arg_int h2
  rw [e1, e2]; exact h l m hl hm
theorem walk : ∀ us, Sx.argsOk Try.prog Try.f3.params.toList us → Sx.PC Try.prog 3 us (Sx.Bo true) := walk_rn2 fun a n ha hn => least_law a ha n hn

set_option maxRecDepth 100000 in
theorem lifted (os : Os) (started : os.Started) (H : Type) (enc : TypeId × Value → H) :
    ReturnsInHanded {} Try.checked os 3 .any (Rows.intervalLeastSpec.pre6 enc Try.prog Try.f3 Rows.intervalLeastRow.domain false) (Rows.intervalLeastSpec.post enc Try.prog Try.f3 false true false false) := by
  refine returnsInHanded_of_change (C := Try.checked) own started (by kernel_rfl) Try.func3
    (ChangeSpec.witness6 (enc := enc) (C := Try.checked) false ⟨#[], #[.slice none 0 0, .int .i64 0], []⟩ 8 (by kernel_rfl) (by kernel_rfl) (by kernel_rfl) (by kernel_rfl)) ?_
  intro W base args ds gs before hval0 hW hcnd _
  exact Sx.law_post (C := Try.checked) (F := 3) (fn := Try.f3) (s := Rows.intervalLeastSpec) (L := [22, 35, 2]) (tb := 4) (by kernel_rfl) (by kernel_rfl) (by kernel_rfl) rfl rfl Try.underlying4
    (by
      intro ds h
      match ds, h with
      | [d1, d2], _ => rfl) walk W base args ds gs before hval0 hW

theorem over : Rows.intervalLeastRow.holds Try.pinned (OpenSpec.ofChange Rows.intervalLeastSpec) :=
  OpenClaim.holds_of_wide 3 Try.f3 rfl rfl rfl rfl rfl rfl rfl ⟨rfl, rfl, rfl, rfl, rfl⟩ rfl rfl rfl rfl rfl (by kernel_rfl) Try.func3 (by kernel_rfl)
    (of_decide_eq_true (by kernel_rfl)) (by unfold Func.isWrapper; first | (rw [if_pos (by decide +kernel)]; kernel_rfl) | (rw [if_neg (by decide +kernel)]; exact ⟨rfl, rfl⟩))
    (fun os started H enc _ => lifted os started H enc)

/-- THE STATEMENT -/
theorem proved : Rows.IntervalLeastSaid :=
  over
#print axioms proved
end Go.Proofs.Ytjpkddhpkohiaaa.intervalLeast
