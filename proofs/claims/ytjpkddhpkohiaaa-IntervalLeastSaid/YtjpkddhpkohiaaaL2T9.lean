/- A part of the proof: lemmas about the walk of the program and about plain integers and lists. No conditions beyond those that each lemma states. -/
import Derived.Test.YtjpkddhpkohiaaaL2T8
import Derived.Test.YtjpkddhpkohiaaaSxOpen
set_option linter.unusedSimpArgs false
set_option linter.unusedVariables false
namespace Go.Proofs.Ytjpkddhpkohiaaa
open Go Go.Sx Go.Ivl

theorem in64_wf {m : Int} (h : (Lit.int .i64 m).wf = true) : -9223372036854775808 ≤ m ∧ m ≤ 9223372036854775807 := by
  simp only [Lit.wf, Bool.and_eq_true, decide_eq_true_eq] at h
  exact ⟨h.1, h.2⟩
theorem arg_int {n : Nat} {row : List C} (h : hasT Try.prog n 2 row) : ∃ m, argT Try.prog 2 row = I .i64 m ∧ -9223372036854775808 ≤ m ∧ m ≤ 9223372036854775807 := by
  cases n with
  | zero => exact h.elim
  | succ n =>
    simp only [hasT, Try.underlying2] at h
    obtain ⟨m, rfl, hw⟩ := h
    exact ⟨m, by simp only [argT, ag2]; rfl, in64_wf hw⟩
theorem cells_int {n : Nat} {row : List C} (h : hasT Try.prog n 2 row) : ∃ m, row = [.int .i64 m] ∧ -9223372036854775808 ≤ m ∧ m ≤ 9223372036854775807 := by
  cases n with
  | zero => exact h.elim
  | succ n =>
    simp only [hasT, Try.underlying2] at h
    obtain ⟨m, rfl, hw⟩ := h
    exact ⟨m, rfl, in64_wf hw⟩
theorem cells_range {n : Nat} {row : List C} (h : hasT Try.prog n 35 row) : ∃ r : Rg, row = encR r ∧ In6 r := by
  cases n with
  | zero => exact h.elim
  | succ n =>
    simp only [hasT, Try.underlying35] at h
    obtain ⟨parts, rfl, hl, hf⟩ := h
    match parts, hl, hf with
    | [p, q], _, hf =>
      obtain ⟨a, rfl, ha⟩ := cells_int (hf 0 _ p rfl rfl)
      obtain ⟨b, rfl, hb⟩ := cells_int (hf 1 _ q rfl rfl)
      exact ⟨⟨a, b⟩, rfl, ha, hb⟩
theorem rows_ranges {n : Nat} : ∀ {rows : List (List C)}, (∀ x ∈ rows, hasT Try.prog n 35 x) → ∃ l : List Rg, rows = l.map encR ∧ ∀ r ∈ l, In6 r
  | [], _ => ⟨[], rfl, by simp⟩
  | x :: rows, h => by
    obtain ⟨r, rfl, hr⟩ := cells_range (h x (by simp))
    obtain ⟨l, rfl, hl⟩ := rows_ranges (fun y hy => h y (List.mem_cons_of_mem _ hy))
    refine ⟨r :: l, rfl, fun y hy => ?_⟩
    rcases List.mem_cons.1 hy with rfl | hy
    · exact hr
    · exact hl y hy
theorem arg_ranges {n : Nat} {row : List C} (h : hasT Try.prog n 22 row) : ∃ l : List Rg, argT Try.prog 22 row = Sl l ∧ ∀ r ∈ l, In6 r := by
  cases n with
  | zero => exact h.elim
  | succ n =>
    simp only [hasT, Try.underlying22] at h
    obtain ⟨rows, rfl, _, hr⟩ := h
    obtain ⟨l, rfl, hl⟩ := rows_ranges hr
    exact ⟨l, by simp only [argT, ag22]; rfl, hl⟩
theorem walk_rn {F : FuncId} (h : ∀ (l : List Rg) (n : Int), (∀ r ∈ l, In6 r) → PC Try.prog F [Sl l, I .i64 n] (Bo true)) : ∀ us, argsOk Try.prog [22, 2] us → PC Try.prog F us (Bo true) := by
  rintro us ⟨n1, r1, u1, rfl, h1, n2, r2, u2, rfl, h2, rfl⟩
  obtain ⟨l, e1, hl⟩ := arg_ranges h1
  obtain ⟨m, e2, hm⟩ := arg_int h2
  rw [e1, e2]; exact h l m hl
theorem walk_rr {F : FuncId} (h : ∀ (a b : List Rg), (∀ r ∈ a, In6 r) → (∀ r ∈ b, In6 r) → PC Try.prog F [Sl a, Sl b] (Bo true)) : ∀ us, argsOk Try.prog [22, 22] us → PC Try.prog F us (Bo true) := by
  rintro us ⟨n1, r1, u1, rfl, h1, n2, r2, u2, rfl, h2, rfl⟩
  obtain ⟨a, e1, ha⟩ := arg_ranges h1
  obtain ⟨b, e2, hb⟩ := arg_ranges h2
  rw [e1, e2]; exact h a b ha hb
theorem walk_rrn {F : FuncId} (h : ∀ (a b : List Rg) (n : Int), (∀ r ∈ a, In6 r) → (∀ r ∈ b, In6 r) → (-9223372036854775808 ≤ n ∧ n ≤ 9223372036854775807) → PC Try.prog F [Sl a, Sl b, I .i64 n] (Bo true)) : ∀ us, argsOk Try.prog [22, 22, 2] us → PC Try.prog F us (Bo true) := by
  rintro us ⟨n1, r1, u1, rfl, h1, n2, r2, u2, rfl, h2, n3, r3, u3, rfl, h3, rfl⟩
  obtain ⟨a, e1, ha⟩ := arg_ranges h1
  obtain ⟨b, e2, hb⟩ := arg_ranges h2
  obtain ⟨m, e3, hm⟩ := arg_int h3
  rw [e1, e2, e3]; exact h a b m ha hb hm
end Go.Proofs.Ytjpkddhpkohiaaa
