/-
  The law DatumOf holds in its second form: for every list of numbers and every value that together hold at most 1048576 values and letters the Go function returns true and leaves its arguments as they were. Condition: that bound.
-/
import Derived.Test.YtmpfdejckbceiaaGreatRows
import Derived.WalkKit
import Derived.ProofKit
import Derived.OpenShut
import Derived.JoinedCond
import Derived.Test.YtmpfdejckbceiaaGreatOf4
import Derived.Test.YtmpfdejckbceiaaGreatOf14
namespace Go.Proofs.YtmpfdejckbceiaaGreat.datumOf
open Go.ChangeShapes Go.WideShapes Go.ChangeAt Go.RowKit
set_option linter.unusedVariables false
theorem own : ownKnob Tryz.prog.godebug = none := by kernel_rfl
theorem all_sum {H : Type} : ∀ l : List (DataW H), (l.map Rows.uptoBulk).sum = Rows.uptoBulkAll l
  | [] => by simp [Rows.uptoBulkAll]
  | d :: l => by simp only [List.map_cons, List.sum_cons, Rows.uptoBulkAll, all_sum l]
theorem blk {H : Type} : Sx.Blk (H := H) Rows.uptoBulk where
  lit l := by cases l <;> simp [Rows.uptoBulk]
  str l := by simp [Rows.uptoBulk]
  nil := by simp [Rows.uptoBulk]
  sl a b := by rw [all_sum]; simp only [Rows.uptoBulk]; omega
  agg a := by rw [all_sum]; simp only [Rows.uptoBulk]; omega
theorem walk : ∀ us, Sx.argsOkB Tryz.prog 1048576 Tryz.f3.params.toList us → Sx.PC Tryz.prog 3 us (Sx.Bo true) := by
  rintro us ⟨n1, r1, u1, rfl, h1, b1, n2, r2, u2, rfl, h2, b2, rfl⟩
  obtain ⟨l, e1, _, hl⟩ := Sx.arg_sl (enc := Sx.encInt) (p := In64) (sz := 1) Tryz.underlying22 ag22 (by kernel_rfl) (fun n row h => Sx.cells_int (n := n) Tryz.underlying3 h) h1
  obtain ⟨v, e2⟩ := cells_val n2 r2 h2
  rw [e1, Sx.arg_st (n := 0) ag28, e2]
  have hb := bulk_le v
  rw [e2] at b2
  exact of_law l hl v (by unfold Sm; omega)
set_option maxRecDepth 100000 in
theorem lifted (os : Os) (started : os.Started) (H : Type) (enc : TypeId × Value → H) (F : Stop.Interp) :
    ReturnsInHanded {} Tryz.checked os 3 .any ((Rows.OpenSpec.upto Rows.datumOfSpec).pre6 enc Tryz.prog Tryz.f3 Rows.datumOfUptoRow.domain false) (((Rows.OpenSpec.upto Rows.datumOfSpec).at F).post enc Tryz.prog Tryz.f3 false true false false) := by
  refine returnsInHanded_of_cond (C := Tryz.checked) (s := Rows.OpenSpec.upto Rows.datumOfSpec) (k := Rows.uptoSmall) rfl own started (by kernel_rfl) Tryz.func3
    (OpenSpec.witness (enc := enc) (C := Tryz.checked) (s := Rows.OpenSpec.upto Rows.datumOfSpec) (k := Rows.uptoSmall) rfl false ⟨#[], #[.slice none 0 0, .agg #[.int .i64 0, .int .i64 0, .string ⟨#[]⟩, .slice none 0 0, .slice none 0 0, .slice none 0 0, .slice none 0 0]], []⟩ 8 (by kernel_rfl) (by kernel_rfl) (by kernel_rfl)
      (x := ([.nil, .agg [.lit (.int .i64 0), .lit (.int .i64 0), .lit (.string []), .nil, .nil, .nil, .nil]], [], [])) (by kernel_rfl) rfl (by kernel_rfl)) ?_
  intro W base args ds gs before hval0 hW hcnd hk _
  have hB : Rows.uptoBulkAll (ds ++ gs) ≤ 1048576 := of_decide_eq_true hk
  have hB' : (ds.map Rows.uptoBulk).sum ≤ 1048576 := by
    rw [← all_sum, List.map_append, List.sum_append] at hB
    omega
  exact Sx.law_postB blk (B := 1048576) (C := Tryz.checked) (F := 3) (fn := Tryz.f3) (s := Rows.datumOfSpec) (L := [22, 3, 28, 2, 9, 23, 24, 25, 26, 63, 49, 4]) (tb := 4) (by kernel_rfl) (by kernel_rfl) (by kernel_rfl) rfl rfl Tryz.underlying4
    (by
      intro ds h
      match ds, h with
      | [d1, d2], _ => rfl) walk W base args ds gs before hval0 hW hB'
theorem over : Rows.datumOfUptoRow.holds Tryz.pinned (Rows.OpenSpec.upto Rows.datumOfSpec) :=
  OpenClaim.holds_of_cond 3 Tryz.f3 rfl rfl rfl rfl rfl rfl rfl ⟨rfl, rfl, rfl, rfl, rfl⟩ rfl rfl rfl rfl rfl (by kernel_rfl) Tryz.func3 (by kernel_rfl)
    (of_decide_eq_true (by kernel_rfl)) (by unfold Func.isWrapper; first | (rw [if_pos (by decide +kernel)]; kernel_rfl) | (rw [if_neg (by decide +kernel)]; exact ⟨rfl, rfl⟩))
    (fun os started H enc _ F => lifted os started H enc F)
/-- THE STATEMENT -/
theorem proved : Rows.DatumOfUptoSaid :=
  over
#print axioms proved
end Go.Proofs.YtmpfdejckbceiaaGreat.datumOf
