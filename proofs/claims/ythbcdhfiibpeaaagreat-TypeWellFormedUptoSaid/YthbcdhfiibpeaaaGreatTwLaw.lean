/-
  The law TypeWellFormed holds in its second form: for all types, lists of numbers and numbers that together hold at most 1048576 values and letters the Go function returns true and leaves its arguments as they were. Condition: that bound.
-/
import Derived.Test.YthbcdhfiibpeaaaGreatTw2
import Derived.Test.YthbcdhfiibpeaaaGreatRows
import Derived.JoinedCond
namespace Go.Proofs.YthbcdhfiibpeaaaGreat.typeWellFormed
open Go.ChangeShapes Go.WideShapes Go.ChangeAt Go.RowKit
set_option linter.unusedVariables false
theorem own : ownKnob Tryz.prog.godebug = none := by kernel_rfl
theorem all_sum {H : Type} : ∀ l : List (DataW H), (l.map Rows.uptoBulk).sum = Rows.uptoBulkAll l
  | [] => by simp [Rows.uptoBulkAll]
  | d :: l => by simp only [List.map_cons, List.sum_cons, Rows.uptoBulkAll, all_sum l]
theorem blk {H : Type} : Sx.Blk (H := H) Rows.uptoBulk where
  lit l := by cases l <;> simp [Rows.uptoBulk]
  str l := by simp [Rows.uptoBulk]
  nil := by simp [Rows.uptoBulk]
  sl a b := by rw [all_sum]; simp only [Rows.uptoBulk]; omega
  agg a := by rw [all_sum]; simp only [Rows.uptoBulk]; omega
theorem walk : ∀ us, Sx.argsOkB Tryz.prog 1048576 Tryz.f6.params.toList us → Sx.PC Tryz.prog 6 us (Sx.Bo true) := by
  rintro us ⟨n1, r1, u1, rfl, h1, b1, n2, r2, u2, rfl, h2, b2, n3, r3, u3, rfl, h3, b3, n4, r4, u4, rfl, h4, b4, n5, r5, u5, rfl, h5, b5, rfl⟩
  obtain ⟨t, r, e1⟩ := cells_ty h1
  obtain ⟨l, e2, _, hl⟩ := Sx.arg_sl (enc := Sx.encInt) (p := fun x => -9223372036854775808 ≤ x ∧ x ≤ 9223372036854775807) (sz := 1) Tryz.underlying22 ag22 (by kernel_rfl) (fun n row h => Sx.cells_int (n := n) Tryz.underlying3 h) h2
  obtain ⟨a, e3, _⟩ := Sx.arg_int Tryz.underlying3 ag3 h3
  obtain ⟨b, e4, _⟩ := Sx.arg_int Tryz.underlying3 ag3 h4
  obtain ⟨c, e5, _⟩ := Sx.arg_int Tryz.underlying3 ag3 h5
  rw [e1] at b1
  rw [Sx.arg_st (n := 0) ag26, e1, e2, e3, e4, e5]
  exact wellFormed_law t r (bdT_of (r := r) (by omega)) l hl a b c
set_option maxRecDepth 100000 in
theorem lifted (os : Os) (started : os.Started) (H : Type) (enc : TypeId × Value → H) (F : Stop.Interp) :
  ReturnsInHanded {} Tryz.checked os 6 .any ((Rows.OpenSpec.upto Rows.typeWellFormedSpec).pre6 enc Tryz.prog Tryz.f6 Rows.typeWellFormedUptoRow.domain false) (((Rows.OpenSpec.upto Rows.typeWellFormedSpec).at F).post enc Tryz.prog Tryz.f6 false true false false) := by
 refine returnsInHanded_of_cond (C := Tryz.checked) (s := Rows.OpenSpec.upto Rows.typeWellFormedSpec) (k := Rows.uptoSmall) rfl own started (by kernel_rfl) Tryz.func6
  (OpenSpec.witness (enc := enc) (C := Tryz.checked) (s := Rows.OpenSpec.upto Rows.typeWellFormedSpec) (k := Rows.uptoSmall) rfl false ⟨#[], #[.agg #[.slice none 0 0, .int .i64 0], .slice none 0 0, .int .i64 0, .int .i64 0, .int .i64 0], []⟩ 8 (by kernel_rfl) (by kernel_rfl) (by kernel_rfl)
   (x := ([.agg [.nil, .lit (.int .i64 0)], .nil, .lit (.int .i64 0), .lit (.int .i64 0), .lit (.int .i64 0)], [], [])) (by kernel_rfl) rfl (by kernel_rfl)) ?_
 intro W base args ds gs before hval0 hW hcnd hk _
 have hB : Rows.uptoBulkAll (ds ++ gs) ≤ 1048576 := of_decide_eq_true hk
 have hB' : (ds.map Rows.uptoBulk).sum ≤ 1048576 := by
  rw [← all_sum, List.map_append, List.sum_append] at hB
  omega
 exact Sx.law_postB blk (B := 1048576) (C := Tryz.checked) (F := 6) (fn := Tryz.f6) (s := Rows.typeWellFormedSpec) (L := [26, 24, 60, 22, 57, 119, 117, 58, 9, 2, 3, 4]) (tb := 4) (by kernel_rfl) (by kernel_rfl) (by kernel_rfl) rfl rfl Tryz.underlying4
  (by
   intro ds h
   match ds, h with
   | [d1, d2, d3, d4, d5], _ => rfl) walk W (Sx.GlobOk.none _) base args ds gs before hval0 hW hB'
theorem over : Rows.typeWellFormedUptoRow.holds Tryz.pinned (Rows.OpenSpec.upto Rows.typeWellFormedSpec) :=
 OpenClaim.holds_of_cond 6 Tryz.f6 rfl rfl rfl rfl rfl rfl rfl ⟨rfl, rfl, rfl, rfl, rfl⟩ rfl rfl rfl rfl rfl (by kernel_rfl) Tryz.func6 (by kernel_rfl)
  (of_decide_eq_true (by kernel_rfl)) (by unfold Func.isWrapper; first | (rw [if_pos (by decide +kernel)]; kernel_rfl) | (rw [if_neg (by decide +kernel)]; exact ⟨rfl, rfl⟩))
  (fun os started H enc _ F => lifted os started H enc F)
theorem proved : Rows.TypeWellFormedUptoSaid :=
  over
#print axioms proved
end Go.Proofs.YthbcdhfiibpeaaaGreat.typeWellFormed

