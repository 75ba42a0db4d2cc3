/-
  The law GuardEvaluates holds in its second form: for all lists of numbers, names and values that together hold at most 1048576 values and letters the Go function returns true and leaves its arguments as they were. Condition: that bound.
-/
import Derived.Test.YteobojeemflggaaGreatRows
import Derived.WalkKit
import Derived.ProofKit
import Derived.OpenShut
import Derived.JoinedCond
import Derived.Test.YteobojeemflggaaGreatEv4
import Derived.Test.YteobojeemflggaaGreatEv21
namespace Go.Proofs.YteobojeemflggaaGreat.guardEvaluates
open Go.ChangeShapes Go.WideShapes Go.ChangeAt Go.RowKit
set_option linter.unusedVariables false
theorem own : ownKnob Tryz.prog.godebug = none := by kernel_rfl
theorem all_sum {H : Type} : ∀ l : List (DataW H), (l.map Rows.uptoBulk).sum = Rows.uptoBulkAll l
  | [] => by simp [Rows.uptoBulkAll]
  | d :: l => by simp only [List.map_cons, List.sum_cons, Rows.uptoBulkAll, all_sum l]
theorem blk {H : Type} : Sx.Blk (H := H) Rows.uptoBulk where
  lit l := by cases l <;> simp [Rows.uptoBulk]
  str l := by simp [Rows.uptoBulk]
  nil := by simp [Rows.uptoBulk]
  sl a b := by rw [all_sum]; simp only [Rows.uptoBulk]; omega
  agg a := by rw [all_sum]; simp only [Rows.uptoBulk]; omega
theorem cbRs_mem : ∀ {l : List Sx.Val} {v : Sx.Val}, v ∈ l → Sx.cbL (Sx.encVal v) ≤ Sx.cbRs (l.map Sx.encVal)
  | x :: l, v, h => by
    simp only [List.map_cons, Sx.cbRs]
    rcases List.mem_cons.1 h with rfl | h
    · omega
    · have := cbRs_mem h; omega
theorem walk : ∀ us, Sx.argsOkB Tryz.prog 1048576 Tryz.f3.params.toList us → Sx.PC Tryz.prog 3 us (Sx.Bo true) := by
  rintro us ⟨n1, r1, u1, rfl, h1, b1, n2, r2, u2, rfl, h2, b2, n3, r3, u3, rfl, h3, b3, n4, r4, u4, rfl, h4, b4, rfl⟩
  obtain ⟨l, e1, _, hl⟩ := Sx.arg_sl (enc := Sx.encInt) (p := fun x => -9223372036854775808 ≤ x ∧ x ≤ 9223372036854775807) (sz := 1) Tryz.underlying22 ag22 (by kernel_rfl) (fun n row h => Sx.cells_int (n := n) Tryz.underlying3 h) h1
  obtain ⟨m, e2, _, hm⟩ := Sx.arg_sl (enc := Sx.encInt) (p := fun x => -9223372036854775808 ≤ x ∧ x ≤ 9223372036854775807) (sz := 1) Tryz.underlying22 ag22 (by kernel_rfl) (fun n row h => Sx.cells_int (n := n) Tryz.underlying3 h) h2
  obtain ⟨ns, e3, _, _⟩ := Sx.arg_sl (enc := Sx.encStr) (p := fun _ => True) (sz := 1) Tryz.underlying23 ag23 (by kernel_rfl) (fun n row h => by obtain ⟨s, e⟩ := Sx.cells_text (n := n) Tryz.underlying9 h; exact ⟨s, e, trivial⟩) h3
  obtain ⟨vs, e4⟩ := Sx.cells_row (enc := Sx.encVal) (sz := 7) Tryz.underlying24 (by kernel_rfl) (fun r hr => cells_val (n4 - 1) r hr) h4
  have e5 : Sx.argT Tryz.prog 24 r4 = .one (.dat (.sl 7 (vs.map Sx.encVal))) := by rw [e4]; simp only [Sx.argT, ag24]; rfl
  rw [e1, e2, e3, e5]
  refine evaluates_law l m hl hm ns vs fun v hv => ?_
  have hb := bulk_le v
  have hc := cbRs_mem hv
  rw [e4] at b4
  simp only [Sx.cbL, Sx.cbC] at b4
  unfold Sm; omega
set_option maxRecDepth 100000 in
theorem lifted (os : Os) (started : os.Started) (H : Type) (enc : TypeId × Value → H) (F : Stop.Interp) :
    ReturnsInHanded {} Tryz.checked os 3 .any ((Rows.OpenSpec.upto Rows.guardEvaluatesSpec).pre6 enc Tryz.prog Tryz.f3 Rows.guardEvaluatesUptoRow.domain false) (((Rows.OpenSpec.upto Rows.guardEvaluatesSpec).at F).post enc Tryz.prog Tryz.f3 false true false false) := by
  refine returnsInHanded_of_cond (C := Tryz.checked) (s := Rows.OpenSpec.upto Rows.guardEvaluatesSpec) (k := Rows.uptoSmall) rfl own started (by kernel_rfl) Tryz.func3
    (OpenSpec.witness (enc := enc) (C := Tryz.checked) (s := Rows.OpenSpec.upto Rows.guardEvaluatesSpec) (k := Rows.uptoSmall) rfl false ⟨#[], #[.slice none 0 0, .slice none 0 0, .slice none 0 0, .slice none 0 0], []⟩ 8 (by kernel_rfl) (by kernel_rfl) (by kernel_rfl)
      (x := ([.nil, .nil, .nil, .nil], [], [])) (by kernel_rfl) rfl (by kernel_rfl)) ?_
  intro W base args ds gs before hval0 hW hcnd hk _
  have hB : Rows.uptoBulkAll (ds ++ gs) ≤ 1048576 := of_decide_eq_true hk
  have hB' : (ds.map Rows.uptoBulk).sum ≤ 1048576 := by
    rw [← all_sum, List.map_append, List.sum_append] at hB
    omega
  exact Sx.law_postB blk (B := 1048576) (C := Tryz.checked) (F := 3) (fn := Tryz.f3) (s := Rows.guardEvaluatesSpec) (L := [22, 3, 23, 9, 24, 31, 2, 28, 33, 29, 64, 4]) (tb := 4) (by kernel_rfl) (by kernel_rfl) (by kernel_rfl) rfl rfl Tryz.underlying4
    (by
      intro ds h
      match ds, h with
      | [d1, d2, d3, d4], _ => rfl) walk W base args ds gs before hval0 hW hB'
theorem over : Rows.guardEvaluatesUptoRow.holds Tryz.pinned (Rows.OpenSpec.upto Rows.guardEvaluatesSpec) :=
  OpenClaim.holds_of_cond 3 Tryz.f3 rfl rfl rfl rfl rfl rfl rfl ⟨rfl, rfl, rfl, rfl, rfl⟩ rfl rfl rfl rfl rfl (by kernel_rfl) Tryz.func3 (by kernel_rfl)
    (of_decide_eq_true (by kernel_rfl)) (by unfold Func.isWrapper; first | (rw [if_pos (by decide +kernel)]; kernel_rfl) | (rw [if_neg (by decide +kernel)]; exact ⟨rfl, rfl⟩))
    (fun os started H enc _ F => lifted os started H enc F)
/-- THE STATEMENT -/
theorem proved : Rows.GuardEvaluatesUptoSaid :=
  over
#print axioms proved
end Go.Proofs.YteobojeemflggaaGreat.guardEvaluates
