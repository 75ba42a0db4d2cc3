/- A part of the proof: lemmas about the walk of the program and about plain integers and lists. No conditions beyond those that each lemma states. -/
import Derived.Test.YtmpfdejckbceiaaBk5
import Derived.Test.YtmpfdejckbceiaaBk4
set_option linter.unusedSimpArgs false
set_option linter.unusedVariables false
set_option maxRecDepth 20000
set_option maxHeartbeats 4000000
namespace Go.Proofs.Ytmpfdejckbceiaa
open Go Go.Sx
open Nat renaming reduceBEq → zA, reduceBNe → zB, reduceAdd → zC, reduceSub → zD, reduceMul → zE, reduceLeDiff → zF, reduceLT → zG, reduceEqDiff → zH
open Int renaming reduceToNat → zI, reduceLE → zJ, reduceLT → zK, reduceEq → zL
/-- the document's order of values is the same -/
theorem bytesLess_cmp : ∀ a b : List UInt8, Op.bytesLess a b = decide (Lib.compareBytes a b = -1)
  | [], [] => by simp [Op.bytesLess, Lib.compareBytes]
  | [], _ :: _ => by simp [Op.bytesLess, Lib.compareBytes]
  | _ :: _, [] => by simp [Op.bytesLess, Lib.compareBytes]
  | x :: a, y :: b => by
    have ih := bytesLess_cmp a b
    simp only [Op.bytesLess, Lib.compareBytes]
    by_cases h1 : x < y
    · simp [h1]
    · by_cases h2 : y < x
      · have hne : ¬ x = y := by intro e; subst e; exact h1 h2
        simp [h1, h2, hne]
      · have hxy : x = y := UInt8.le_antisymm (UInt8.not_lt.1 h2) (UInt8.not_lt.1 h1)
        simp [h1, h2, hxy, ih]
theorem cmpB_range : ∀ a b : List UInt8, Lib.compareBytes a b = -1 ∨ Lib.compareBytes a b = 0 ∨ Lib.compareBytes a b = 1
  | [], [] => by simp [Lib.compareBytes]
  | [], _ :: _ => by simp [Lib.compareBytes]
  | _ :: _, [] => by simp [Lib.compareBytes]
  | x :: a, y :: b => by
    have ih := cmpB_range a b
    simp only [Lib.compareBytes]
    split
    · simp
    · split
      · simp
      · exact ih
theorem textCmp_eq (a b : List UInt8) : textCmp a b = Lib.compareBytes a b := by
  unfold textCmp
  rw [bytesLess_cmp]
  have hz := @cmpB_zero a b
  rcases cmpB_range a b with h | h | h
  · simp [h]
  · have := hz.1 h
    simp [h, this]
    have h2 := (@cmpB_zero b b).2 rfl
    simp [h2]
  · have : ¬ a = b := fun e => by have := hz.2 e; omega
    simp [h, this]
theorem keyCmp_eq (a b : KeyD) : keyCmp a b = keyC a b := by
  unfold keyCmp keyC chainC
  rw [textCmp_eq]
  have : decide (cmpI a.kind b.kind = 0) = decide (a.kind = b.kind) := by
    rw [← Bool.coe_iff_coe]; simp [cmpI_zero]
  rw [this]
  cases decide (a.kind = b.kind) <;> rfl
theorem refText_c (a b : List UInt8) : PC Try.prog 79 [S a, S b] (I .i64 (Lib.compareBytes a b)) := by
  rw [← textCmp_eq]; exact text_c a b
theorem refOrder_c (a b : Int) : PC Try.prog 78 [I .i64 a, I .i64 b] (I .i64 (cmpI a b)) := order_c a b
theorem refKeys_c (a b : KeyD) : PC Try.prog 61 [.st (encKey a), .st (encKey b)] (I .i64 (keyC a b)) := by
  rw [← keyCmp_eq]; exact compareKeys_c a b
theorem count_c (a b : Int) : PC Try.prog 77 [I .i64 a, I .i64 b] (I .i64 (cmpI a b)) := by
  refine PCB.of_body Try.func77 rfl (by decide) Try.ntmps77 Try.results77 rfl rfl rfl ?_ rfl rfl
  repeat' (first
    | (simp only [go_sem, zA, zB, zC, zD, zE, zF, zG, reduceCtorEq, zH, zI, zJ, zK, zL]; all_goals fail_if_success guard_target =ₛ False)
    | (with_reducible first
      | refine seqVC_stepN rfl fun K hK => ?_
      | refine seqVC_nil ?_
      | (refine hK _ _ _ ?_; clear hK K)
      | (refine hK _ _ ?_; clear hK K)
      | (refine hK _ ?_; clear hK K)
      | refine AWP.seq fun K hK => ?_
      | refine AWP.seqR (by kernel_rfl) fun K hK => ?_
      | (refine AWP.cond (by with_unfolding_all rfl) (fun h => ?_) (fun h => ?_); all_goals (try simp only [Bool.not_eq_true', Bool.not_eq_false'] at h); (all_goals try first | (exact absurd h Bool.false_ne_true) | (exact absurd h.symm Bool.false_ne_true) | (exact absurd h (by decide))))
      | refine AWP.skip ?_
      | refine AWP.ret ?_
      | refine AWP.block ?_
      | refine AWP.exit ?_
      | refine ⟨_, refOrder_c _ _, ?_⟩
      | refine Or.inl ?_)
    | (clear hK K))
  all_goals (first | exact fun _ h => (by cases h) | refine fin0 ?_)
  all_goals rfl
theorem firstC_step {α : Type} {f : α → α → Int} {a b : List α} {k : Nat} {x y : α} (hx : a[k]? = some x) (hy : b[k]? = some y) :
    firstC f (a.drop k) (b.drop k) = bif decide (f x y = 0) then firstC f (a.drop (k + 1)) (b.drop (k + 1)) else f x y := by
  have h1 := (List.getElem?_eq_some_iff.1 hx)
  have h2 := (List.getElem?_eq_some_iff.1 hy)
  obtain ⟨h1, e1⟩ := h1
  obtain ⟨h2, e2⟩ := h2
  rw [List.drop_eq_getElem_cons h1, List.drop_eq_getElem_cons h2, e1, e2]
  rfl
theorem firstC_end {α : Type} {f : α → α → Int} {a b : List α} : firstC f (a.drop a.length) (b.drop a.length) = 0 := by
  rw [List.drop_length]; exact firstC_nil f _
theorem len_dec {a b : Nat} : decide (cmpI (a : Int) (b : Int) = 0) = decide ((a : Int) = (b : Int)) := by
  rw [← Bool.coe_iff_coe]; simp [cmpI_zero]
theorem refValues_c (a b : List Val) (hh : ∀ x ∈ a, ∀ y, PC Try.prog 46 [.st (encVal x), .st (encVal y)] (I .i64 (valC x y))) :
    PC Try.prog 80 [.one (.dat (.sl 7 (a.map encVal))), .one (.dat (.sl 7 (b.map encVal)))] (I .i64 (listCmp valC a b)) := by
  unfold listCmp
  rw [len_dec]
  refine PCB.of_body Try.func80 rfl (by decide) Try.ntmps80 Try.results80 rfl rfl rfl ?_ rfl rfl
  cases hl : decide ((a.length : Int) = (b.length : Int)) with
  | false =>
    repeat' (first
      | (simp only [go_sem, zA, zB, zC, zD, zE, zF, zG, reduceCtorEq, zH, zI, zJ, zK, zL, List.length_map, hl]; all_goals fail_if_success guard_target =ₛ False)
      | (with_reducible first
        | refine seqVC_stepN rfl fun K hK => ?_
        | refine seqVC_nil ?_
        | (refine hK _ _ _ ?_; clear hK K)
        | (refine hK _ _ ?_; clear hK K)
        | (refine hK _ ?_; clear hK K)
        | refine AWP.seq fun K hK => ?_
        | refine AWP.seqR (by kernel_rfl) fun K hK => ?_
        | refine parVC_stepN rfl fun K hK => ?_
        | refine parEVC_stepN rfl fun K hK => ?_
        | refine genVC_stepN rfl fun K hK => ?_
        | refine parVC_nil ?_
        | refine parEVC_nil ?_
        | refine genVC_nil ?_
        | (refine AWP.cond (by with_unfolding_all rfl) (fun h => ?_) (fun h => ?_); all_goals (try simp only [Bool.not_eq_true', Bool.not_eq_false'] at h); (all_goals try first | (exact absurd h Bool.false_ne_true) | (exact absurd h.symm Bool.false_ne_true) | (exact absurd h (by decide))))
        | refine AWP.skip ?_
        | refine AWP.ret ?_
        | refine AWP.block ?_
        | refine AWP.exit ?_
        | refine ⟨_, count_c _ _, ?_⟩
        | refine AWP.parR mixed (by kernel_rfl) fun K hK => ?_
        | refine ⟨(by kernel_rfl : depB _ _ _ = true), ?_⟩
        | refine Or.inl ?_)
      | (clear hK K))
    all_goals (first | exact fun _ h => (by cases h) | refine fin0 ?_)
    all_goals rfl
  | true =>
    have hlab : a.length = b.length := by have := of_decide_eq_true hl; omega
    repeat' (first
      | (simp only [go_sem, zA, zB, zC, zD, zE, zF, zG, reduceCtorEq, zH, zI, zJ, zK, zL, List.length_map, hl]; all_goals fail_if_success guard_target =ₛ False)
      | (with_reducible first
        | refine seqVC_stepN rfl fun K hK => ?_
        | refine seqVC_nil ?_
        | (refine hK _ _ _ ?_; clear hK K)
        | (refine hK _ _ ?_; clear hK K)
        | (refine hK _ ?_; clear hK K)
        | refine AWP.seq fun K hK => ?_
        | refine AWP.seqR (by kernel_rfl) fun K hK => ?_
        | refine parVC_stepN rfl fun K hK => ?_
        | refine parEVC_stepN rfl fun K hK => ?_
        | refine genVC_stepN rfl fun K hK => ?_
        | refine parVC_nil ?_
        | refine parEVC_nil ?_
        | refine genVC_nil ?_
        | (refine AWP.cond (by with_unfolding_all rfl) (fun h => ?_) (fun h => ?_); all_goals (try simp only [Bool.not_eq_true', Bool.not_eq_false'] at h); (all_goals try first | (exact absurd h Bool.false_ne_true) | (exact absurd h.symm Bool.false_ne_true) | (exact absurd h (by decide))))
        | refine AWP.skip ?_
        | refine AWP.ret ?_
        | refine AWP.block ?_
        | refine AWP.exit ?_
        | refine ⟨_, count_c _ _, ?_⟩
        | refine AWP.parR mixed (by kernel_rfl) fun K hK => ?_
        | refine ⟨(by kernel_rfl : depB _ _ _ = true), ?_⟩
        | refine Or.inl ?_)
      | (clear hK K))
    refine AWP.len 0 rfl fun hlen0 => ?_
    (try rw [List.length_map] at hlen0)
    refine AWP.range (S := Unit) (a) encVal (fun k s => (5, I .i64 (k : Nat)) :: []) (fun k s => []) [0, 1] [] (fun k s => firstC valC a b = firstC valC (a.drop k) (b.drop k)) (()) (by simp only [go_sem, zA, zB, zC, zD, zE, zF, zG, reduceCtorEq, zH, zI, zJ, zK, zL]; exact Gh.to [] (by repeat (first | exact trivial | refine ⟨rfl, ?_⟩ | refine ⟨by (simp only [go_sem, zA, zB, zC, zD, zE, zF, zG, reduceCtorEq, zH, zI, zJ, zK, zL, List.length_append, List.length_map, List.length_cons, List.length_nil, Nat.zero_add]) <;> rfl, ?_⟩)) (by repeat (first | exact trivial | refine ⟨rfl, ?_⟩ | refine ⟨by (simp only [go_sem, zA, zB, zC, zD, zE, zF, zG, reduceCtorEq, zH, zI, zJ, zK, zL, List.length_append, List.length_map, List.length_cons, List.length_nil, Nat.zero_add]) <;> rfl, ?_⟩)) rfl rfl rfl) ?_ ?_ ?_
    · rfl
    · intro k s x hlt hx hx' hb hok
      simp only [go_sem, zA, zB, zC, zD, zE, zF, zG, reduceCtorEq, zH, zI, zJ, zK, zL]
      obtain ⟨y, hy, hy', _, _⟩ := at_lt (enc := encVal) (show k < b.length by omega)
      rw [firstC_step hx hy] at hok
      cases hz : decide (valC x y = 0) <;> simp only [hz, cond_true, cond_false] at hok
      ·
        repeat' (first
          | (simp only [go_sem, zA, zB, zC, zD, zE, zF, zG, reduceCtorEq, zH, zI, zJ, zK, zL, List.length_map, hb, hz]; all_goals fail_if_success guard_target =ₛ False)
          | (with_reducible first
            | refine seqVC_stepN rfl fun K hK => ?_
            | refine seqVC_nil ?_
            | (refine hK _ _ _ ?_; clear hK K)
            | (refine hK _ _ ?_; clear hK K)
            | (refine hK _ ?_; clear hK K)
            | refine AWP.seq fun K hK => ?_
            | refine AWP.seqR (by kernel_rfl) fun K hK => ?_
            | refine parVC_stepN rfl fun K hK => ?_
            | refine parEVC_stepN rfl fun K hK => ?_
            | refine genVC_stepN rfl fun K hK => ?_
            | refine parVC_nil ?_
            | refine parEVC_nil ?_
            | refine genVC_nil ?_
            | (refine AWP.cond (by with_unfolding_all rfl) (fun h => ?_) (fun h => ?_); all_goals (try simp only [Bool.not_eq_true', Bool.not_eq_false'] at h); (all_goals try first | (exact absurd h Bool.false_ne_true) | (exact absurd h.symm Bool.false_ne_true) | (exact absurd h (by decide))))
            | refine AWP.skip ?_
            | refine AWP.ret ?_
            | refine AWP.block ?_
            | refine AWP.exit ?_
            | refine ⟨_, hh x (List.mem_of_getElem? hx) y, ?_⟩
            | refine ⟨by omega, encVal x, hx', ?_⟩
            | refine ⟨by omega, encVal y, hy', ?_⟩
            | refine AWP.parR mixed (by kernel_rfl) fun K hK => ?_
            | refine ⟨(by kernel_rfl : depB _ _ _ = true), ?_⟩
            | refine Or.inl ?_)
          | (clear hK K))
        all_goals (refine fin0 ?_; rw [hok])
      ·
        repeat' (first
          | (simp only [go_sem, zA, zB, zC, zD, zE, zF, zG, reduceCtorEq, zH, zI, zJ, zK, zL, List.length_map, hb, hz]; all_goals fail_if_success guard_target =ₛ False)
          | (with_reducible first
            | refine seqVC_stepN rfl fun K hK => ?_
            | refine seqVC_nil ?_
            | (refine hK _ _ _ ?_; clear hK K)
            | (refine hK _ _ ?_; clear hK K)
            | (refine hK _ ?_; clear hK K)
            | refine AWP.seq fun K hK => ?_
            | refine AWP.seqR (by kernel_rfl) fun K hK => ?_
            | refine parVC_stepN rfl fun K hK => ?_
            | refine parEVC_stepN rfl fun K hK => ?_
            | refine genVC_stepN rfl fun K hK => ?_
            | refine parVC_nil ?_
            | refine parEVC_nil ?_
            | refine genVC_nil ?_
            | (refine AWP.cond (by with_unfolding_all rfl) (fun h => ?_) (fun h => ?_); all_goals (try simp only [Bool.not_eq_true', Bool.not_eq_false'] at h); (all_goals try first | (exact absurd h Bool.false_ne_true) | (exact absurd h.symm Bool.false_ne_true) | (exact absurd h (by decide))))
            | refine AWP.skip ?_
            | refine AWP.ret ?_
            | refine AWP.block ?_
            | refine AWP.exit ?_
            | refine ⟨_, hh x (List.mem_of_getElem? hx) y, ?_⟩
            | refine ⟨by omega, encVal x, hx', ?_⟩
            | refine ⟨by omega, encVal y, hy', ?_⟩
            | refine AWP.parR mixed (by kernel_rfl) fun K hK => ?_
            | refine ⟨(by kernel_rfl : depB _ _ _ = true), ?_⟩
            | refine Or.inl ?_)
          | (clear hK K))
        all_goals (rw [wrap_succ hlt hlen0])
        all_goals (refine ⟨(), ?_, Gh.to [] (by repeat (first | exact trivial | refine ⟨rfl, ?_⟩ | refine ⟨by (simp only [go_sem, zA, zB, zC, zD, zE, zF, zG, reduceCtorEq, zH, zI, zJ, zK, zL, List.length_append, List.length_map, List.length_cons, List.length_nil, Nat.zero_add]) <;> rfl, ?_⟩)) (by repeat (first | exact trivial | refine ⟨rfl, ?_⟩ | refine ⟨by (simp only [go_sem, zA, zB, zC, zD, zE, zF, zG, reduceCtorEq, zH, zI, zJ, zK, zL, List.length_append, List.length_map, List.length_cons, List.length_nil, Nat.zero_add]) <;> rfl, ?_⟩)) rfl rfl rfl⟩)
        all_goals exact hok
    · intro s hb hok
      simp only [go_sem, zA, zB, zC, zD, zE, zF, zG, reduceCtorEq, zH, zI, zJ, zK, zL]
      rw [firstC_end] at hok
      repeat' (first
        | (simp only [go_sem, zA, zB, zC, zD, zE, zF, zG, reduceCtorEq, zH, zI, zJ, zK, zL, List.length_map, hb]; all_goals fail_if_success guard_target =ₛ False)
        | (with_reducible first
          | refine seqVC_stepN rfl fun K hK => ?_
          | refine seqVC_nil ?_
          | (refine hK _ _ _ ?_; clear hK K)
          | (refine hK _ _ ?_; clear hK K)
          | (refine hK _ ?_; clear hK K)
          | refine AWP.seq fun K hK => ?_
          | refine AWP.seqR (by kernel_rfl) fun K hK => ?_
          | refine parVC_stepN rfl fun K hK => ?_
          | refine parEVC_stepN rfl fun K hK => ?_
          | refine genVC_stepN rfl fun K hK => ?_
          | refine parVC_nil ?_
          | refine parEVC_nil ?_
          | refine genVC_nil ?_
          | (refine AWP.cond (by with_unfolding_all rfl) (fun h => ?_) (fun h => ?_); all_goals (try simp only [Bool.not_eq_true', Bool.not_eq_false'] at h); (all_goals try first | (exact absurd h Bool.false_ne_true) | (exact absurd h.symm Bool.false_ne_true) | (exact absurd h (by decide))))
          | refine AWP.skip ?_
          | refine AWP.ret ?_
          | refine AWP.block ?_
          | refine AWP.exit ?_
          | refine AWP.parR mixed (by kernel_rfl) fun K hK => ?_
          | refine ⟨(by kernel_rfl : depB _ _ _ = true), ?_⟩
          | refine Or.inl ?_)
        | (clear hK K))
      all_goals (refine fin0 ?_; rw [hok])

theorem refEntries_c (a b : List Val × Bool × Val) (hh : ∀ x ∈ a.1, ∀ y, PC Try.prog 46 [.st (encVal x), .st (encVal y)] (I .i64 (valC x y))) (h2 : ∀ y, PC Try.prog 46 [.st (encVal a.2.2), .st (encVal y)] (I .i64 (valC a.2.2 y))) :
    PC Try.prog 81 [.st (encEnt a), .st (encEnt b)] (I .i64 (entC a b)) := by
  have h3 := h2 b.2.2
  rw [encVal_eq, encVal_eq] at h3
  refine PCB.of_body Try.func81 rfl (by decide) Try.ntmps81 Try.results81 rfl rfl rfl ?_ rfl rfl
  cases h0 : decide (listCmp valC a.1 b.1 = 0)
  ·
    repeat' (first
      | (simp only [go_sem, zA, zB, zC, zD, zE, zF, zG, reduceCtorEq, zH, zI, zJ, zK, zL, encEnt_eq, h0]; all_goals fail_if_success guard_target =ₛ False)
      | (with_reducible first
        | refine seqVC_stepN rfl fun K hK => ?_
        | refine seqVC_nil ?_
        | (refine hK _ _ _ ?_; clear hK K)
        | (refine hK _ _ ?_; clear hK K)
        | (refine hK _ ?_; clear hK K)
        | refine AWP.seq fun K hK => ?_
        | refine AWP.seqR (by kernel_rfl) fun K hK => ?_
        | (refine AWP.cond (by with_unfolding_all rfl) (fun h => ?_) (fun h => ?_); all_goals (try simp only [Bool.not_eq_true', Bool.not_eq_false'] at h); (all_goals try first | (exact absurd h Bool.false_ne_true) | (exact absurd h.symm Bool.false_ne_true) | (exact absurd h (by decide))))
        | refine AWP.skip ?_
        | refine AWP.ret ?_
        | refine AWP.block ?_
        | refine AWP.exit ?_
        | refine ⟨_, refValues_c a.1 b.1 hh, ?_⟩
        | refine Or.inl ?_)
      | (clear hK K))
    all_goals (refine fin0 ?_; simp only [entC_eq, chainC, h0, cond_true, cond_false])
  cases hd : (a.2.1 == b.2.1)
  · cases hf : a.2.1
    ·
      rw [hf] at hd
      repeat' (first
        | (simp only [go_sem, zA, zB, zC, zD, zE, zF, zG, reduceCtorEq, zH, zI, zJ, zK, zL, encEnt_eq, h0, hd, hf]; all_goals fail_if_success guard_target =ₛ False)
        | (with_reducible first
          | refine seqVC_stepN rfl fun K hK => ?_
          | refine seqVC_nil ?_
          | (refine hK _ _ _ ?_; clear hK K)
          | (refine hK _ _ ?_; clear hK K)
          | (refine hK _ ?_; clear hK K)
          | refine AWP.seq fun K hK => ?_
          | refine AWP.seqR (by kernel_rfl) fun K hK => ?_
          | (refine AWP.cond (by with_unfolding_all rfl) (fun h => ?_) (fun h => ?_); all_goals (try simp only [Bool.not_eq_true', Bool.not_eq_false'] at h); (all_goals try first | (exact absurd h Bool.false_ne_true) | (exact absurd h.symm Bool.false_ne_true) | (exact absurd h (by decide))))
          | refine AWP.skip ?_
          | refine AWP.ret ?_
          | refine AWP.block ?_
          | refine AWP.exit ?_
          | refine ⟨_, refValues_c a.1 b.1 hh, ?_⟩
          | refine ⟨_, h3, ?_⟩
          | refine Or.inl ?_)
        | (clear hK K))
      all_goals (refine fin0 ?_; simp only [entC_eq, chainC, h0, hd, hf, cond_true, cond_false, Bool.not_true, Bool.not_false])
    ·
      rw [hf] at hd
      repeat' (first
        | (simp only [go_sem, zA, zB, zC, zD, zE, zF, zG, reduceCtorEq, zH, zI, zJ, zK, zL, encEnt_eq, h0, hd, hf]; all_goals fail_if_success guard_target =ₛ False)
        | (with_reducible first
          | refine seqVC_stepN rfl fun K hK => ?_
          | refine seqVC_nil ?_
          | (refine hK _ _ _ ?_; clear hK K)
          | (refine hK _ _ ?_; clear hK K)
          | (refine hK _ ?_; clear hK K)
          | refine AWP.seq fun K hK => ?_
          | refine AWP.seqR (by kernel_rfl) fun K hK => ?_
          | (refine AWP.cond (by with_unfolding_all rfl) (fun h => ?_) (fun h => ?_); all_goals (try simp only [Bool.not_eq_true', Bool.not_eq_false'] at h); (all_goals try first | (exact absurd h Bool.false_ne_true) | (exact absurd h.symm Bool.false_ne_true) | (exact absurd h (by decide))))
          | refine AWP.skip ?_
          | refine AWP.ret ?_
          | refine AWP.block ?_
          | refine AWP.exit ?_
          | refine ⟨_, refValues_c a.1 b.1 hh, ?_⟩
          | refine ⟨_, h3, ?_⟩
          | refine Or.inl ?_)
        | (clear hK K))
      all_goals (refine fin0 ?_; simp only [entC_eq, chainC, h0, hd, hf, cond_true, cond_false, Bool.not_true, Bool.not_false])
  ·
    repeat' (first
      | (simp only [go_sem, zA, zB, zC, zD, zE, zF, zG, reduceCtorEq, zH, zI, zJ, zK, zL, encEnt_eq, h0, hd]; all_goals fail_if_success guard_target =ₛ False)
      | (with_reducible first
        | refine seqVC_stepN rfl fun K hK => ?_
        | refine seqVC_nil ?_
        | (refine hK _ _ _ ?_; clear hK K)
        | (refine hK _ _ ?_; clear hK K)
        | (refine hK _ ?_; clear hK K)
        | refine AWP.seq fun K hK => ?_
        | refine AWP.seqR (by kernel_rfl) fun K hK => ?_
        | (refine AWP.cond (by with_unfolding_all rfl) (fun h => ?_) (fun h => ?_); all_goals (try simp only [Bool.not_eq_true', Bool.not_eq_false'] at h); (all_goals try first | (exact absurd h Bool.false_ne_true) | (exact absurd h.symm Bool.false_ne_true) | (exact absurd h (by decide))))
        | refine AWP.skip ?_
        | refine AWP.ret ?_
        | refine AWP.block ?_
        | refine AWP.exit ?_
        | refine ⟨_, refValues_c a.1 b.1 hh, ?_⟩
        | refine ⟨_, h3, ?_⟩
        | refine Or.inl ?_)
      | (clear hK K))
    all_goals (refine fin0 ?_; simp only [entC_eq, chainC, h0, hd, cond_true, cond_false, Bool.not_true, Bool.not_false])
theorem dec_cmpI {a b : Int} : decide (cmpI a b = 0) = decide (a = b) := by
  rw [← Bool.coe_iff_coe]; simp [cmpI_zero]
theorem dec_cmpB {a b : List UInt8} : decide (Lib.compareBytes a b = 0) = decide (a = b) := by
  rw [← Bool.coe_iff_coe]; simp [cmpB_zero]
theorem refCompare_c (a b : Val) : PC Try.prog 46 [.st (encVal a), .st (encVal b)] (I .i64 (valC a b)) := by
  have hk : ∀ x ∈ a.kids, ∀ y, PC Try.prog 46 [.st (encVal x), .st (encVal y)] (I .i64 (valC x y)) := fun x hx y => refCompare_c x y
  have he : ∀ e ∈ a.ents, ∀ y, PC Try.prog 81 [.st (encEnt e), .st (encEnt y)] (I .i64 (entC e y)) := fun e he y => refEntries_c e y (fun x hx y => refCompare_c x y) (fun y => refCompare_c e.2.2 y)
  have hm := valC_eq a b
  simp only [chainC, listCmp, dec_cmpI, dec_cmpB] at hm
  refine PCB.of_body Try.func46 rfl (by decide) Try.ntmps46 Try.results46 rfl rfl rfl ?_ rfl rfl
  cases z1 : decide (a.kind = b.kind)
  ·
    repeat' (first
      | (simp only [go_sem, zA, zB, zC, zD, zE, zF, zG, reduceCtorEq, zH, zI, zJ, zK, zL, encVal_eq, z1]; all_goals fail_if_success guard_target =ₛ False)
      | (with_reducible first
        | refine seqVC_stepN rfl fun K hK => ?_
        | refine seqVC_nil ?_
        | (refine hK _ _ _ ?_; clear hK K)
        | (refine hK _ _ ?_; clear hK K)
        | (refine hK _ ?_; clear hK K)
        | refine AWP.seq fun K hK => ?_
        | refine AWP.seqR (by kernel_rfl) fun K hK => ?_
        | refine parVC_stepN rfl fun K hK => ?_
        | refine parEVC_stepN rfl fun K hK => ?_
        | refine genVC_stepN rfl fun K hK => ?_
        | refine parVC_nil ?_
        | refine parEVC_nil ?_
        | refine genVC_nil ?_
        | (refine AWP.cond (by with_unfolding_all rfl) (fun h => ?_) (fun h => ?_); all_goals (try simp only [Bool.not_eq_true', Bool.not_eq_false'] at h); (all_goals try first | (exact absurd h Bool.false_ne_true) | (exact absurd h.symm Bool.false_ne_true) | (exact absurd h (by decide))))
        | refine AWP.skip ?_
        | refine AWP.ret ?_
        | refine AWP.block ?_
        | refine AWP.exit ?_
        | refine ⟨_, count_c _ _, ?_⟩
        | refine AWP.parR mixed (by kernel_rfl) fun K hK => ?_
        | refine ⟨(by kernel_rfl : depB _ _ _ = true), ?_⟩
        | refine Or.inl ?_)
      | (clear hK K))
    all_goals (refine fin0 ?_; simp only [hm, z1, cond_true, cond_false])
  cases z2 : decide (a.num = b.num)
  ·
    repeat' (first
      | (simp only [go_sem, zA, zB, zC, zD, zE, zF, zG, reduceCtorEq, zH, zI, zJ, zK, zL, encVal_eq, z1, z2]; all_goals fail_if_success guard_target =ₛ False)
      | (with_reducible first
        | refine seqVC_stepN rfl fun K hK => ?_
        | refine seqVC_nil ?_
        | (refine hK _ _ _ ?_; clear hK K)
        | (refine hK _ _ ?_; clear hK K)
        | (refine hK _ ?_; clear hK K)
        | refine AWP.seq fun K hK => ?_
        | refine AWP.seqR (by kernel_rfl) fun K hK => ?_
        | refine parVC_stepN rfl fun K hK => ?_
        | refine parEVC_stepN rfl fun K hK => ?_
        | refine genVC_stepN rfl fun K hK => ?_
        | refine parVC_nil ?_
        | refine parEVC_nil ?_
        | refine genVC_nil ?_
        | (refine AWP.cond (by with_unfolding_all rfl) (fun h => ?_) (fun h => ?_); all_goals (try simp only [Bool.not_eq_true', Bool.not_eq_false'] at h); (all_goals try first | (exact absurd h Bool.false_ne_true) | (exact absurd h.symm Bool.false_ne_true) | (exact absurd h (by decide))))
        | refine AWP.skip ?_
        | refine AWP.ret ?_
        | refine AWP.block ?_
        | refine AWP.exit ?_
        | refine ⟨_, refOrder_c _ _, ?_⟩
        | refine AWP.parR mixed (by kernel_rfl) fun K hK => ?_
        | refine ⟨(by kernel_rfl : depB _ _ _ = true), ?_⟩
        | refine Or.inl ?_)
      | (clear hK K))
    all_goals (refine fin0 ?_; simp only [hm, z1, z2, cond_true, cond_false])
  cases z3 : decide (a.text = b.text)
  ·
    repeat' (first
      | (simp only [go_sem, zA, zB, zC, zD, zE, zF, zG, reduceCtorEq, zH, zI, zJ, zK, zL, encVal_eq, z1, z2, z3]; all_goals fail_if_success guard_target =ₛ False)
      | (with_reducible first
        | refine seqVC_stepN rfl fun K hK => ?_
        | refine seqVC_nil ?_
        | (refine hK _ _ _ ?_; clear hK K)
        | (refine hK _ _ ?_; clear hK K)
        | (refine hK _ ?_; clear hK K)
        | refine AWP.seq fun K hK => ?_
        | refine AWP.seqR (by kernel_rfl) fun K hK => ?_
        | refine parVC_stepN rfl fun K hK => ?_
        | refine parEVC_stepN rfl fun K hK => ?_
        | refine genVC_stepN rfl fun K hK => ?_
        | refine parVC_nil ?_
        | refine parEVC_nil ?_
        | refine genVC_nil ?_
        | (refine AWP.cond (by with_unfolding_all rfl) (fun h => ?_) (fun h => ?_); all_goals (try simp only [Bool.not_eq_true', Bool.not_eq_false'] at h); (all_goals try first | (exact absurd h Bool.false_ne_true) | (exact absurd h.symm Bool.false_ne_true) | (exact absurd h (by decide))))
        | refine AWP.skip ?_
        | refine AWP.ret ?_
        | refine AWP.block ?_
        | refine AWP.exit ?_
        | refine ⟨_, refText_c _ _, ?_⟩
        | refine AWP.parR mixed (by kernel_rfl) fun K hK => ?_
        | refine ⟨(by kernel_rfl : depB _ _ _ = true), ?_⟩
        | refine Or.inl ?_)
      | (clear hK K))
    all_goals (refine fin0 ?_; simp only [hm, z1, z2, z3, cond_true, cond_false])
  cases z4 : decide ((a.keys.length : Int) = (b.keys.length : Int))
  ·
    repeat' (first
      | (simp only [go_sem, zA, zB, zC, zD, zE, zF, zG, reduceCtorEq, zH, zI, zJ, zK, zL, encVal_eq, z1, z2, z3, z4, List.length_map]; all_goals fail_if_success guard_target =ₛ False)
      | (with_reducible first
        | refine seqVC_stepN rfl fun K hK => ?_
        | refine seqVC_nil ?_
        | (refine hK _ _ _ ?_; clear hK K)
        | (refine hK _ _ ?_; clear hK K)
        | (refine hK _ ?_; clear hK K)
        | refine AWP.seq fun K hK => ?_
        | refine AWP.seqR (by kernel_rfl) fun K hK => ?_
        | refine parVC_stepN rfl fun K hK => ?_
        | refine parEVC_stepN rfl fun K hK => ?_
        | refine genVC_stepN rfl fun K hK => ?_
        | refine parVC_nil ?_
        | refine parEVC_nil ?_
        | refine genVC_nil ?_
        | (refine AWP.cond (by with_unfolding_all rfl) (fun h => ?_) (fun h => ?_); all_goals (try simp only [Bool.not_eq_true', Bool.not_eq_false'] at h); (all_goals try first | (exact absurd h Bool.false_ne_true) | (exact absurd h.symm Bool.false_ne_true) | (exact absurd h (by decide))))
        | refine AWP.skip ?_
        | refine AWP.ret ?_
        | refine AWP.block ?_
        | refine AWP.exit ?_
        | refine ⟨_, count_c _ _, ?_⟩
        | refine AWP.parR mixed (by kernel_rfl) fun K hK => ?_
        | refine ⟨(by kernel_rfl : depB _ _ _ = true), ?_⟩
        | refine Or.inl ?_)
      | (clear hK K))
    all_goals (refine fin0 ?_; simp only [hm, z1, z2, z3, z4, cond_true, cond_false])
    all_goals (simp only [dec_cmpI, z4, cond_false])
  have l4 : a.keys.length = b.keys.length := by have := of_decide_eq_true z4; omega
  repeat' (first
    | (simp only [go_sem, zA, zB, zC, zD, zE, zF, zG, reduceCtorEq, zH, zI, zJ, zK, zL, encVal_eq, z1, z2, z3, z4, List.length_map]; all_goals fail_if_success guard_target =ₛ False)
    | (with_reducible first
      | refine seqVC_stepN rfl fun K hK => ?_
      | refine seqVC_nil ?_
      | (refine hK _ _ _ ?_; clear hK K)
      | (refine hK _ _ ?_; clear hK K)
      | (refine hK _ ?_; clear hK K)
      | refine AWP.seq fun K hK => ?_
      | refine AWP.seqR (by kernel_rfl) fun K hK => ?_
      | refine parVC_stepN rfl fun K hK => ?_
      | refine parEVC_stepN rfl fun K hK => ?_
      | refine genVC_stepN rfl fun K hK => ?_
      | refine parVC_nil ?_
      | refine parEVC_nil ?_
      | refine genVC_nil ?_
      | (refine AWP.cond (by with_unfolding_all rfl) (fun h => ?_) (fun h => ?_); all_goals (try simp only [Bool.not_eq_true', Bool.not_eq_false'] at h); (all_goals try first | (exact absurd h Bool.false_ne_true) | (exact absurd h.symm Bool.false_ne_true) | (exact absurd h (by decide))))
      | refine AWP.skip ?_
      | refine AWP.ret ?_
      | refine AWP.block ?_
      | refine AWP.exit ?_
      | refine AWP.parR mixed (by kernel_rfl) fun K hK => ?_
      | refine ⟨(by kernel_rfl : depB _ _ _ = true), ?_⟩
      | refine Or.inl ?_)
    | (clear hK K))
  refine AWP.lenB 2 4 rfl rfl fun hlen0 => ?_
  (try rw [List.length_map] at hlen0)
  refine AWP.range (S := Unit) (a.keys) encKey (fun k s => (5, I .i64 (k : Nat)) :: []) (fun k s => []) [2, 3] [2, 3] (fun k s => firstC keyC a.keys b.keys = firstC keyC (a.keys.drop k) (b.keys.drop k)) (()) (by simp only [go_sem, zA, zB, zC, zD, zE, zF, zG, reduceCtorEq, zH, zI, zJ, zK, zL]; exact Gh.to [] (by repeat (first | exact trivial | refine ⟨rfl, ?_⟩ | refine ⟨by (simp only [go_sem, zA, zB, zC, zD, zE, zF, zG, reduceCtorEq, zH, zI, zJ, zK, zL, List.length_append, List.length_map, List.length_cons, List.length_nil, Nat.zero_add]) <;> rfl, ?_⟩)) (by repeat (first | exact trivial | refine ⟨rfl, ?_⟩ | refine ⟨by (simp only [go_sem, zA, zB, zC, zD, zE, zF, zG, reduceCtorEq, zH, zI, zJ, zK, zL, List.length_append, List.length_map, List.length_cons, List.length_nil, Nat.zero_add]) <;> rfl, ?_⟩)) rfl rfl rfl) ?_ ?_ ?_
  · rfl
  · intro k s x hlt hx hx' hb hok
    simp only [go_sem, zA, zB, zC, zD, zE, zF, zG, reduceCtorEq, zH, zI, zJ, zK, zL]
    obtain ⟨y, hy, hy', _, _⟩ := at_lt (enc := encKey) (show k < b.keys.length by omega)
    rw [firstC_step hx hy] at hok
    cases hz : decide (keyC x y = 0) <;> simp only [hz, cond_true, cond_false] at hok
    ·
      repeat' (first
        | (simp only [go_sem, zA, zB, zC, zD, zE, zF, zG, reduceCtorEq, zH, zI, zJ, zK, zL, encVal_eq, List.length_map, hb, hz]; all_goals fail_if_success guard_target =ₛ False)
        | (with_reducible first
          | refine seqVC_stepN rfl fun K hK => ?_
          | refine seqVC_nil ?_
          | (refine hK _ _ _ ?_; clear hK K)
          | (refine hK _ _ ?_; clear hK K)
          | (refine hK _ ?_; clear hK K)
          | refine AWP.seq fun K hK => ?_
          | refine AWP.seqR (by kernel_rfl) fun K hK => ?_
          | refine parVC_stepN rfl fun K hK => ?_
          | refine parEVC_stepN rfl fun K hK => ?_
          | refine genVC_stepN rfl fun K hK => ?_
          | refine parVC_nil ?_
          | refine parEVC_nil ?_
          | refine genVC_nil ?_
          | (refine AWP.cond (by with_unfolding_all rfl) (fun h => ?_) (fun h => ?_); all_goals (try simp only [Bool.not_eq_true', Bool.not_eq_false'] at h); (all_goals try first | (exact absurd h Bool.false_ne_true) | (exact absurd h.symm Bool.false_ne_true) | (exact absurd h (by decide))))
          | refine AWP.skip ?_
          | refine AWP.ret ?_
          | refine AWP.block ?_
          | refine AWP.exit ?_
          | refine ⟨_, refKeys_c x y, ?_⟩
          | refine ⟨by omega, encKey x, hx', ?_⟩
          | refine ⟨by omega, encKey y, hy', ?_⟩
          | refine AWP.parR mixed (by kernel_rfl) fun K hK => ?_
          | refine ⟨(by kernel_rfl : depB _ _ _ = true), ?_⟩
          | refine Or.inl ?_)
        | (clear hK K))
      all_goals (refine fin0 ?_; simp only [hm, hok, hz, z1, z2, z3, z4, cond_true, cond_false])
    ·
      repeat' (first
        | (simp only [go_sem, zA, zB, zC, zD, zE, zF, zG, reduceCtorEq, zH, zI, zJ, zK, zL, encVal_eq, List.length_map, hb, hz]; all_goals fail_if_success guard_target =ₛ False)
        | (with_reducible first
          | refine seqVC_stepN rfl fun K hK => ?_
          | refine seqVC_nil ?_
          | (refine hK _ _ _ ?_; clear hK K)
          | (refine hK _ _ ?_; clear hK K)
          | (refine hK _ ?_; clear hK K)
          | refine AWP.seq fun K hK => ?_
          | refine AWP.seqR (by kernel_rfl) fun K hK => ?_
          | refine parVC_stepN rfl fun K hK => ?_
          | refine parEVC_stepN rfl fun K hK => ?_
          | refine genVC_stepN rfl fun K hK => ?_
          | refine parVC_nil ?_
          | refine parEVC_nil ?_
          | refine genVC_nil ?_
          | (refine AWP.cond (by with_unfolding_all rfl) (fun h => ?_) (fun h => ?_); all_goals (try simp only [Bool.not_eq_true', Bool.not_eq_false'] at h); (all_goals try first | (exact absurd h Bool.false_ne_true) | (exact absurd h.symm Bool.false_ne_true) | (exact absurd h (by decide))))
          | refine AWP.skip ?_
          | refine AWP.ret ?_
          | refine AWP.block ?_
          | refine AWP.exit ?_
          | refine ⟨_, refKeys_c x y, ?_⟩
          | refine ⟨by omega, encKey x, hx', ?_⟩
          | refine ⟨by omega, encKey y, hy', ?_⟩
          | refine AWP.parR mixed (by kernel_rfl) fun K hK => ?_
          | refine ⟨(by kernel_rfl : depB _ _ _ = true), ?_⟩
          | refine Or.inl ?_)
        | (clear hK K))
      all_goals (rw [wrap_succ hlt hlen0])
      all_goals (refine ⟨(), ?_, Gh.to [] (by repeat (first | exact trivial | refine ⟨rfl, ?_⟩ | refine ⟨by (simp only [go_sem, zA, zB, zC, zD, zE, zF, zG, reduceCtorEq, zH, zI, zJ, zK, zL, List.length_append, List.length_map, List.length_cons, List.length_nil, Nat.zero_add]) <;> rfl, ?_⟩)) (by repeat (first | exact trivial | refine ⟨rfl, ?_⟩ | refine ⟨by (simp only [go_sem, zA, zB, zC, zD, zE, zF, zG, reduceCtorEq, zH, zI, zJ, zK, zL, List.length_append, List.length_map, List.length_cons, List.length_nil, Nat.zero_add]) <;> rfl, ?_⟩)) rfl rfl rfl⟩)
      all_goals exact hok
  intro s0 hb0 hok0
  simp only [go_sem, zA, zB, zC, zD, zE, zF, zG, reduceCtorEq, zH, zI, zJ, zK, zL]
  rw [firstC_end] at hok0
  cases z5 : decide (listCmp valC a.kids b.kids = 0)
  ·
    have z5' := z5
    unfold listCmp at z5'
    rw [len_dec] at z5'
    repeat' (first
      | (simp only [go_sem, zA, zB, zC, zD, zE, zF, zG, reduceCtorEq, zH, zI, zJ, zK, zL, encVal_eq, z5, hb0, List.length_map]; all_goals fail_if_success guard_target =ₛ False)
      | (with_reducible first
        | refine seqVC_stepN rfl fun K hK => ?_
        | refine seqVC_nil ?_
        | (refine hK _ _ _ ?_; clear hK K)
        | (refine hK _ _ ?_; clear hK K)
        | (refine hK _ ?_; clear hK K)
        | refine AWP.seq fun K hK => ?_
        | refine AWP.seqR (by kernel_rfl) fun K hK => ?_
        | refine parVC_stepN rfl fun K hK => ?_
        | refine parEVC_stepN rfl fun K hK => ?_
        | refine genVC_stepN rfl fun K hK => ?_
        | refine parVC_nil ?_
        | refine parEVC_nil ?_
        | refine genVC_nil ?_
        | (refine AWP.cond (by with_unfolding_all rfl) (fun h => ?_) (fun h => ?_); all_goals (try simp only [Bool.not_eq_true', Bool.not_eq_false'] at h); (all_goals try first | (exact absurd h Bool.false_ne_true) | (exact absurd h.symm Bool.false_ne_true) | (exact absurd h (by decide))))
        | refine AWP.skip ?_
        | refine AWP.ret ?_
        | refine AWP.block ?_
        | refine AWP.exit ?_
        | refine ⟨_, refValues_c a.kids b.kids hk, ?_⟩
        | refine AWP.parR mixed (by kernel_rfl) fun K hK => ?_
        | refine ⟨(by kernel_rfl : depB _ _ _ = true), ?_⟩
        | refine Or.inl ?_)
      | (clear hK K))
    all_goals (refine fin0 ?_; simp only [hm, z1, z2, z3, z4, hok0, z5', decide_true, cond_true, cond_false, listCmp, len_dec])
  have z5' := z5
  unfold listCmp at z5'
  rw [len_dec] at z5'
  cases z6 : decide ((a.ents.length : Int) = (b.ents.length : Int))
  ·
    repeat' (first
      | (simp only [go_sem, zA, zB, zC, zD, zE, zF, zG, reduceCtorEq, zH, zI, zJ, zK, zL, encVal_eq, z5, z6, hb0, List.length_map]; all_goals fail_if_success guard_target =ₛ False)
      | (with_reducible first
        | refine seqVC_stepN rfl fun K hK => ?_
        | refine seqVC_nil ?_
        | (refine hK _ _ _ ?_; clear hK K)
        | (refine hK _ _ ?_; clear hK K)
        | (refine hK _ ?_; clear hK K)
        | refine AWP.seq fun K hK => ?_
        | refine AWP.seqR (by kernel_rfl) fun K hK => ?_
        | refine parVC_stepN rfl fun K hK => ?_
        | refine parEVC_stepN rfl fun K hK => ?_
        | refine genVC_stepN rfl fun K hK => ?_
        | refine parVC_nil ?_
        | refine parEVC_nil ?_
        | refine genVC_nil ?_
        | (refine AWP.cond (by with_unfolding_all rfl) (fun h => ?_) (fun h => ?_); all_goals (try simp only [Bool.not_eq_true', Bool.not_eq_false'] at h); (all_goals try first | (exact absurd h Bool.false_ne_true) | (exact absurd h.symm Bool.false_ne_true) | (exact absurd h (by decide))))
        | refine AWP.skip ?_
        | refine AWP.ret ?_
        | refine AWP.block ?_
        | refine AWP.exit ?_
        | refine ⟨_, refValues_c a.kids b.kids hk, ?_⟩
        | refine ⟨_, count_c _ _, ?_⟩
        | refine AWP.parR mixed (by kernel_rfl) fun K hK => ?_
        | refine ⟨(by kernel_rfl : depB _ _ _ = true), ?_⟩
        | refine Or.inl ?_)
      | (clear hK K))
    all_goals (refine fin0 ?_; simp only [hm, z1, z2, z3, z4, hok0, z5', z6, decide_true, cond_true, cond_false, dec_cmpI])
  have l6 : a.ents.length = b.ents.length := by have := of_decide_eq_true z6; omega
  repeat' (first
    | (simp only [go_sem, zA, zB, zC, zD, zE, zF, zG, reduceCtorEq, zH, zI, zJ, zK, zL, encVal_eq, z5, z6, hb0, List.length_map]; all_goals fail_if_success guard_target =ₛ False)
    | (with_reducible first
      | refine seqVC_stepN rfl fun K hK => ?_
      | refine seqVC_nil ?_
      | (refine hK _ _ _ ?_; clear hK K)
      | (refine hK _ _ ?_; clear hK K)
      | (refine hK _ ?_; clear hK K)
      | refine AWP.seq fun K hK => ?_
      | refine AWP.seqR (by kernel_rfl) fun K hK => ?_
      | refine parVC_stepN rfl fun K hK => ?_
      | refine parEVC_stepN rfl fun K hK => ?_
      | refine genVC_stepN rfl fun K hK => ?_
      | refine parVC_nil ?_
      | refine parEVC_nil ?_
      | refine genVC_nil ?_
      | (refine AWP.cond (by with_unfolding_all rfl) (fun h => ?_) (fun h => ?_); all_goals (try simp only [Bool.not_eq_true', Bool.not_eq_false'] at h); (all_goals try first | (exact absurd h Bool.false_ne_true) | (exact absurd h.symm Bool.false_ne_true) | (exact absurd h (by decide))))
      | refine AWP.skip ?_
      | refine AWP.ret ?_
      | refine AWP.block ?_
      | refine AWP.exit ?_
      | refine ⟨_, refValues_c a.kids b.kids hk, ?_⟩
      | refine AWP.parR mixed (by kernel_rfl) fun K hK => ?_
      | refine ⟨(by kernel_rfl : depB _ _ _ = true), ?_⟩
      | refine Or.inl ?_)
    | (clear hK K))
  refine AWP.lenB 2 5 rfl rfl fun hlen1 => ?_
  (try rw [List.length_map] at hlen1)
  refine AWP.range (S := Unit) (a.ents) encEnt (fun k s => (8, I .i64 (k : Nat)) :: []) (fun k s => []) [2, 3] [2, 3] (fun k s => firstC entC a.ents b.ents = firstC entC (a.ents.drop k) (b.ents.drop k)) (()) (by simp only [go_sem, zA, zB, zC, zD, zE, zF, zG, reduceCtorEq, zH, zI, zJ, zK, zL]; exact Gh.to [] (by repeat (first | exact trivial | refine ⟨rfl, ?_⟩ | refine ⟨by (simp only [go_sem, zA, zB, zC, zD, zE, zF, zG, reduceCtorEq, zH, zI, zJ, zK, zL, List.length_append, List.length_map, List.length_cons, List.length_nil, Nat.zero_add]) <;> rfl, ?_⟩)) (by repeat (first | exact trivial | refine ⟨rfl, ?_⟩ | refine ⟨by (simp only [go_sem, zA, zB, zC, zD, zE, zF, zG, reduceCtorEq, zH, zI, zJ, zK, zL, List.length_append, List.length_map, List.length_cons, List.length_nil, Nat.zero_add]) <;> rfl, ?_⟩)) rfl rfl rfl) ?_ ?_ ?_
  · rfl
  · intro k s x hlt hx hx' hb hok
    simp only [go_sem, zA, zB, zC, zD, zE, zF, zG, reduceCtorEq, zH, zI, zJ, zK, zL]
    obtain ⟨y, hy, hy', _, _⟩ := at_lt (enc := encEnt) (show k < b.ents.length by omega)
    rw [firstC_step hx hy] at hok
    cases hz : decide (entC x y = 0) <;> simp only [hz, cond_true, cond_false] at hok
    ·
      repeat' (first
        | (simp only [go_sem, zA, zB, zC, zD, zE, zF, zG, reduceCtorEq, zH, zI, zJ, zK, zL, encVal_eq, List.length_map, hb, hz]; all_goals fail_if_success guard_target =ₛ False)
        | (with_reducible first
          | refine seqVC_stepN rfl fun K hK => ?_
          | refine seqVC_nil ?_
          | (refine hK _ _ _ ?_; clear hK K)
          | (refine hK _ _ ?_; clear hK K)
          | (refine hK _ ?_; clear hK K)
          | refine AWP.seq fun K hK => ?_
          | refine AWP.seqR (by kernel_rfl) fun K hK => ?_
          | refine parVC_stepN rfl fun K hK => ?_
          | refine parEVC_stepN rfl fun K hK => ?_
          | refine genVC_stepN rfl fun K hK => ?_
          | refine parVC_nil ?_
          | refine parEVC_nil ?_
          | refine genVC_nil ?_
          | (refine AWP.cond (by with_unfolding_all rfl) (fun h => ?_) (fun h => ?_); all_goals (try simp only [Bool.not_eq_true', Bool.not_eq_false'] at h); (all_goals try first | (exact absurd h Bool.false_ne_true) | (exact absurd h.symm Bool.false_ne_true) | (exact absurd h (by decide))))
          | refine AWP.skip ?_
          | refine AWP.ret ?_
          | refine AWP.block ?_
          | refine AWP.exit ?_
          | refine ⟨_, he x (List.mem_of_getElem? hx) y, ?_⟩
          | refine ⟨by omega, encEnt x, hx', ?_⟩
          | refine ⟨by omega, encEnt y, hy', ?_⟩
          | refine AWP.parR mixed (by kernel_rfl) fun K hK => ?_
          | refine ⟨(by kernel_rfl : depB _ _ _ = true), ?_⟩
          | refine Or.inl ?_)
        | (clear hK K))
      all_goals (refine fin0 ?_; simp only [hm, hok, hz, z1, z2, z3, z4, hok0, z5', z6, decide_true, cond_true, cond_false])
    ·
      repeat' (first
        | (simp only [go_sem, zA, zB, zC, zD, zE, zF, zG, reduceCtorEq, zH, zI, zJ, zK, zL, encVal_eq, List.length_map, hb, hz]; all_goals fail_if_success guard_target =ₛ False)
        | (with_reducible first
          | refine seqVC_stepN rfl fun K hK => ?_
          | refine seqVC_nil ?_
          | (refine hK _ _ _ ?_; clear hK K)
          | (refine hK _ _ ?_; clear hK K)
          | (refine hK _ ?_; clear hK K)
          | refine AWP.seq fun K hK => ?_
          | refine AWP.seqR (by kernel_rfl) fun K hK => ?_
          | refine parVC_stepN rfl fun K hK => ?_
          | refine parEVC_stepN rfl fun K hK => ?_
          | refine genVC_stepN rfl fun K hK => ?_
          | refine parVC_nil ?_
          | refine parEVC_nil ?_
          | refine genVC_nil ?_
          | (refine AWP.cond (by with_unfolding_all rfl) (fun h => ?_) (fun h => ?_); all_goals (try simp only [Bool.not_eq_true', Bool.not_eq_false'] at h); (all_goals try first | (exact absurd h Bool.false_ne_true) | (exact absurd h.symm Bool.false_ne_true) | (exact absurd h (by decide))))
          | refine AWP.skip ?_
          | refine AWP.ret ?_
          | refine AWP.block ?_
          | refine AWP.exit ?_
          | refine ⟨_, he x (List.mem_of_getElem? hx) y, ?_⟩
          | refine ⟨by omega, encEnt x, hx', ?_⟩
          | refine ⟨by omega, encEnt y, hy', ?_⟩
          | refine AWP.parR mixed (by kernel_rfl) fun K hK => ?_
          | refine ⟨(by kernel_rfl : depB _ _ _ = true), ?_⟩
          | refine Or.inl ?_)
        | (clear hK K))
      all_goals (rw [wrap_succ hlt hlen1])
      all_goals (refine ⟨(), ?_, Gh.to [] (by repeat (first | exact trivial | refine ⟨rfl, ?_⟩ | refine ⟨by (simp only [go_sem, zA, zB, zC, zD, zE, zF, zG, reduceCtorEq, zH, zI, zJ, zK, zL, List.length_append, List.length_map, List.length_cons, List.length_nil, Nat.zero_add]) <;> rfl, ?_⟩)) (by repeat (first | exact trivial | refine ⟨rfl, ?_⟩ | refine ⟨by (simp only [go_sem, zA, zB, zC, zD, zE, zF, zG, reduceCtorEq, zH, zI, zJ, zK, zL, List.length_append, List.length_map, List.length_cons, List.length_nil, Nat.zero_add]) <;> rfl, ?_⟩)) rfl rfl rfl⟩)
      all_goals exact hok
  intro s1 hb1 hok1
  simp only [go_sem, zA, zB, zC, zD, zE, zF, zG, reduceCtorEq, zH, zI, zJ, zK, zL]
  rw [firstC_end] at hok1
  cases z7 : decide ((a.labels.length : Int) = (b.labels.length : Int))
  ·
    repeat' (first
      | (simp only [go_sem, zA, zB, zC, zD, zE, zF, zG, reduceCtorEq, zH, zI, zJ, zK, zL, encVal_eq, z7, hb1, List.length_map]; all_goals fail_if_success guard_target =ₛ False)
      | (with_reducible first
        | refine seqVC_stepN rfl fun K hK => ?_
        | refine seqVC_nil ?_
        | (refine hK _ _ _ ?_; clear hK K)
        | (refine hK _ _ ?_; clear hK K)
        | (refine hK _ ?_; clear hK K)
        | refine AWP.seq fun K hK => ?_
        | refine AWP.seqR (by kernel_rfl) fun K hK => ?_
        | refine parVC_stepN rfl fun K hK => ?_
        | refine parEVC_stepN rfl fun K hK => ?_
        | refine genVC_stepN rfl fun K hK => ?_
        | refine parVC_nil ?_
        | refine parEVC_nil ?_
        | refine genVC_nil ?_
        | (refine AWP.cond (by with_unfolding_all rfl) (fun h => ?_) (fun h => ?_); all_goals (try simp only [Bool.not_eq_true', Bool.not_eq_false'] at h); (all_goals try first | (exact absurd h Bool.false_ne_true) | (exact absurd h.symm Bool.false_ne_true) | (exact absurd h (by decide))))
        | refine AWP.skip ?_
        | refine AWP.ret ?_
        | refine AWP.block ?_
        | refine AWP.exit ?_
        | refine ⟨_, count_c _ _, ?_⟩
        | refine AWP.parR mixed (by kernel_rfl) fun K hK => ?_
        | refine ⟨(by kernel_rfl : depB _ _ _ = true), ?_⟩
        | refine Or.inl ?_)
      | (clear hK K))
    all_goals (refine fin0 ?_; simp only [hm, z1, z2, z3, z4, hok0, z5', z6, hok1, z7, decide_true, cond_true, cond_false])
  have l7 : a.labels.length = b.labels.length := by have := of_decide_eq_true z7; omega
  repeat' (first
    | (simp only [go_sem, zA, zB, zC, zD, zE, zF, zG, reduceCtorEq, zH, zI, zJ, zK, zL, encVal_eq, z7, hb1, List.length_map]; all_goals fail_if_success guard_target =ₛ False)
    | (with_reducible first
      | refine seqVC_stepN rfl fun K hK => ?_
      | refine seqVC_nil ?_
      | (refine hK _ _ _ ?_; clear hK K)
      | (refine hK _ _ ?_; clear hK K)
      | (refine hK _ ?_; clear hK K)
      | refine AWP.seq fun K hK => ?_
      | refine AWP.seqR (by kernel_rfl) fun K hK => ?_
      | refine parVC_stepN rfl fun K hK => ?_
      | refine parEVC_stepN rfl fun K hK => ?_
      | refine genVC_stepN rfl fun K hK => ?_
      | refine parVC_nil ?_
      | refine parEVC_nil ?_
      | refine genVC_nil ?_
      | (refine AWP.cond (by with_unfolding_all rfl) (fun h => ?_) (fun h => ?_); all_goals (try simp only [Bool.not_eq_true', Bool.not_eq_false'] at h); (all_goals try first | (exact absurd h Bool.false_ne_true) | (exact absurd h.symm Bool.false_ne_true) | (exact absurd h (by decide))))
      | refine AWP.skip ?_
      | refine AWP.ret ?_
      | refine AWP.block ?_
      | refine AWP.exit ?_
      | refine AWP.parR mixed (by kernel_rfl) fun K hK => ?_
      | refine ⟨(by kernel_rfl : depB _ _ _ = true), ?_⟩
      | refine Or.inl ?_)
    | (clear hK K))
  refine AWP.lenB 2 6 rfl rfl fun hlen2 => ?_
  (try rw [List.length_map] at hlen2)
  refine AWP.range (S := Unit) (a.labels) encStr (fun k s => (10, I .i64 (k : Nat)) :: []) (fun k s => []) [2, 3] [2, 3] (fun k s => firstC Lib.compareBytes a.labels b.labels = firstC Lib.compareBytes (a.labels.drop k) (b.labels.drop k)) (()) (by simp only [go_sem, zA, zB, zC, zD, zE, zF, zG, reduceCtorEq, zH, zI, zJ, zK, zL]; exact Gh.to [] (by repeat (first | exact trivial | refine ⟨rfl, ?_⟩ | refine ⟨by (simp only [go_sem, zA, zB, zC, zD, zE, zF, zG, reduceCtorEq, zH, zI, zJ, zK, zL, List.length_append, List.length_map, List.length_cons, List.length_nil, Nat.zero_add]) <;> rfl, ?_⟩)) (by repeat (first | exact trivial | refine ⟨rfl, ?_⟩ | refine ⟨by (simp only [go_sem, zA, zB, zC, zD, zE, zF, zG, reduceCtorEq, zH, zI, zJ, zK, zL, List.length_append, List.length_map, List.length_cons, List.length_nil, Nat.zero_add]) <;> rfl, ?_⟩)) rfl rfl rfl) ?_ ?_ ?_
  · rfl
  · intro k s x hlt hx hx' hb hok
    simp only [go_sem, zA, zB, zC, zD, zE, zF, zG, reduceCtorEq, zH, zI, zJ, zK, zL]
    obtain ⟨y, hy, hy', _, _⟩ := at_lt (enc := encStr) (show k < b.labels.length by omega)
    rw [firstC_step hx hy] at hok
    cases hz : decide (Lib.compareBytes x y = 0) <;> simp only [hz, cond_true, cond_false] at hok
    ·
      repeat' (first
        | (simp only [go_sem, zA, zB, zC, zD, zE, zF, zG, reduceCtorEq, zH, zI, zJ, zK, zL, encStr, encVal_eq, List.length_map, hb, hz]; all_goals fail_if_success guard_target =ₛ False)
        | (with_reducible first
          | refine seqVC_stepN rfl fun K hK => ?_
          | refine seqVC_nil ?_
          | (refine hK _ _ _ ?_; clear hK K)
          | (refine hK _ _ ?_; clear hK K)
          | (refine hK _ ?_; clear hK K)
          | refine AWP.seq fun K hK => ?_
          | refine AWP.seqR (by kernel_rfl) fun K hK => ?_
          | refine parVC_stepN rfl fun K hK => ?_
          | refine parEVC_stepN rfl fun K hK => ?_
          | refine genVC_stepN rfl fun K hK => ?_
          | refine parVC_nil ?_
          | refine parEVC_nil ?_
          | refine genVC_nil ?_
          | (refine AWP.cond (by with_unfolding_all rfl) (fun h => ?_) (fun h => ?_); all_goals (try simp only [Bool.not_eq_true', Bool.not_eq_false'] at h); (all_goals try first | (exact absurd h Bool.false_ne_true) | (exact absurd h.symm Bool.false_ne_true) | (exact absurd h (by decide))))
          | refine AWP.skip ?_
          | refine AWP.ret ?_
          | refine AWP.block ?_
          | refine AWP.exit ?_
          | refine ⟨_, refText_c x y, ?_⟩
          | refine ⟨by omega, encStr x, hx', ?_⟩
          | refine ⟨by omega, encStr y, hy', ?_⟩
          | refine AWP.parR mixed (by kernel_rfl) fun K hK => ?_
          | refine ⟨(by kernel_rfl : depB _ _ _ = true), ?_⟩
          | refine Or.inl ?_)
        | (clear hK K))
      all_goals (refine fin0 ?_; simp only [hm, hok, hz, z1, z2, z3, z4, hok0, z5', z6, hok1, z7, decide_true, cond_true, cond_false])
    ·
      repeat' (first
        | (simp only [go_sem, zA, zB, zC, zD, zE, zF, zG, reduceCtorEq, zH, zI, zJ, zK, zL, encStr, encVal_eq, List.length_map, hb, hz]; all_goals fail_if_success guard_target =ₛ False)
        | (with_reducible first
          | refine seqVC_stepN rfl fun K hK => ?_
          | refine seqVC_nil ?_
          | (refine hK _ _ _ ?_; clear hK K)
          | (refine hK _ _ ?_; clear hK K)
          | (refine hK _ ?_; clear hK K)
          | refine AWP.seq fun K hK => ?_
          | refine AWP.seqR (by kernel_rfl) fun K hK => ?_
          | refine parVC_stepN rfl fun K hK => ?_
          | refine parEVC_stepN rfl fun K hK => ?_
          | refine genVC_stepN rfl fun K hK => ?_
          | refine parVC_nil ?_
          | refine parEVC_nil ?_
          | refine genVC_nil ?_
          | (refine AWP.cond (by with_unfolding_all rfl) (fun h => ?_) (fun h => ?_); all_goals (try simp only [Bool.not_eq_true', Bool.not_eq_false'] at h); (all_goals try first | (exact absurd h Bool.false_ne_true) | (exact absurd h.symm Bool.false_ne_true) | (exact absurd h (by decide))))
          | refine AWP.skip ?_
          | refine AWP.ret ?_
          | refine AWP.block ?_
          | refine AWP.exit ?_
          | refine ⟨_, refText_c x y, ?_⟩
          | refine ⟨by omega, encStr x, hx', ?_⟩
          | refine ⟨by omega, encStr y, hy', ?_⟩
          | refine AWP.parR mixed (by kernel_rfl) fun K hK => ?_
          | refine ⟨(by kernel_rfl : depB _ _ _ = true), ?_⟩
          | refine Or.inl ?_)
        | (clear hK K))
      all_goals (rw [wrap_succ hlt hlen2])
      all_goals (refine ⟨(), ?_, Gh.to [] (by repeat (first | exact trivial | refine ⟨rfl, ?_⟩ | refine ⟨by (simp only [go_sem, zA, zB, zC, zD, zE, zF, zG, reduceCtorEq, zH, zI, zJ, zK, zL, List.length_append, List.length_map, List.length_cons, List.length_nil, Nat.zero_add]) <;> rfl, ?_⟩)) (by repeat (first | exact trivial | refine ⟨rfl, ?_⟩ | refine ⟨by (simp only [go_sem, zA, zB, zC, zD, zE, zF, zG, reduceCtorEq, zH, zI, zJ, zK, zL, List.length_append, List.length_map, List.length_cons, List.length_nil, Nat.zero_add]) <;> rfl, ?_⟩)) rfl rfl rfl⟩)
      all_goals exact hok
  intro s2 hb2 hok2
  simp only [go_sem, zA, zB, zC, zD, zE, zF, zG, reduceCtorEq, zH, zI, zJ, zK, zL]
  rw [firstC_end] at hok2
  repeat' (first
    | (simp only [go_sem, zA, zB, zC, zD, zE, zF, zG, reduceCtorEq, zH, zI, zJ, zK, zL, encVal_eq, hb2, List.length_map]; all_goals fail_if_success guard_target =ₛ False)
    | (with_reducible first
      | refine seqVC_stepN rfl fun K hK => ?_
      | refine seqVC_nil ?_
      | (refine hK _ _ _ ?_; clear hK K)
      | (refine hK _ _ ?_; clear hK K)
      | (refine hK _ ?_; clear hK K)
      | refine AWP.seq fun K hK => ?_
      | refine AWP.seqR (by kernel_rfl) fun K hK => ?_
      | refine parVC_stepN rfl fun K hK => ?_
      | refine parEVC_stepN rfl fun K hK => ?_
      | refine genVC_stepN rfl fun K hK => ?_
      | refine parVC_nil ?_
      | refine parEVC_nil ?_
      | refine genVC_nil ?_
      | (refine AWP.cond (by with_unfolding_all rfl) (fun h => ?_) (fun h => ?_); all_goals (try simp only [Bool.not_eq_true', Bool.not_eq_false'] at h); (all_goals try first | (exact absurd h Bool.false_ne_true) | (exact absurd h.symm Bool.false_ne_true) | (exact absurd h (by decide))))
      | refine AWP.skip ?_
      | refine AWP.ret ?_
      | refine AWP.block ?_
      | refine AWP.exit ?_
      | refine AWP.parR mixed (by kernel_rfl) fun K hK => ?_
      | refine ⟨(by kernel_rfl : depB _ _ _ = true), ?_⟩
      | refine Or.inl ?_)
    | (clear hK K))
  all_goals (refine fin0 ?_; simp only [hm, z1, z2, z3, z4, hok0, z5', z6, hok1, z7, hok2, decide_true, cond_true, cond_false])
termination_by SizeOf.sizeOf a
decreasing_by
  · cases a; simp only at hx; have := List.sizeOf_lt_of_mem hx; simp; omega
  · cases a; simp only at he; have h1 := List.sizeOf_lt_of_mem he; have h2 := List.sizeOf_lt_of_mem hx; obtain ⟨e1, e2, e3⟩ := e; simp at h1 h2 ⊢; omega
  · cases a; simp only at he; have h1 := List.sizeOf_lt_of_mem he; obtain ⟨e1, e2, e3⟩ := e; simp at h1 ⊢; omega
end Go.Proofs.Ytmpfdejckbceiaa
set_option linter.unusedSimpArgs false
set_option linter.unusedVariables false
set_option maxRecDepth 20000
set_option maxHeartbeats 1000000
namespace Go.Proofs.Ytmpfdejckbceiaa
open Go Go.Sx
open Nat renaming reduceBEq → zA, reduceBNe → zB, reduceAdd → zC, reduceSub → zD, reduceMul → zE, reduceLeDiff → zF, reduceLT → zG, reduceEqDiff → zH
open Int renaming reduceToNat → zI, reduceLE → zJ, reduceLT → zK, reduceEq → zL
def atoms4 : List (List UInt8) := [[116, 114, 117, 101], [102, 97, 108, 115, 101], [97], [111, 107]]
def mods2 : List (List UInt8) := [[109], [110]]
def funDat (s : Src) : Dat := { zeroDat with kind := 9, num := nextV s 3, mod := mods2.getD (nextV (nextS s 3) 2).toNat [], version := 1 + nextV (nextS (nextS s 3) 2) 2, routine := nextV (nextS (nextS (nextS s 3) 2) 2) 2 }
def madeBase (k : Int) (s : Src) : Dat × Src :=
  bif decide (k = 1) then (atomDat (atoms4.getD (nextV s 4).toNat []), nextS s 4) else
  bif decide (k = 2) then ({ zeroDat with kind := 2, text := wordV s }, nextS s 4) else
  bif decide (k = 3) then ({ zeroDat with kind := 4, num := nextV s 4 }, nextS s 4) else
  bif decide (k = 4) then ({ zeroDat with kind := 5 }, s) else
  bif decide (k = 5) then (funDat s, nextS (nextS (nextS (nextS s 3) 2) 2) 2) else
  bif decide (k = 6) then (intDat (numV s), nextS s 10) else
  (intDat (nextV s 5 - 1), nextS s 5)

def made0 (s : Src) : Dat × Src := madeBase (bif decide (6 < nextV s 12) then 0 else nextV s 12) (nextS s 12)
def node14 (n : Nat) : NodeD := ⟨14, 0, 0, [], List.replicate n 1, [], 0, 0⟩
def node2 : NodeD := ⟨2, 0, 0, [], [], [], 0, 0⟩
def wrapD (f : Dat) : Dat := { zeroDat with kind := 9, num := f.num, kids := [f], wrapped := true, nodes := [node14 (f.num + 1).toNat, node2], inner := [109], outer := [110] }
def consDat (a b : Dat) : Dat := { zeroDat with kind := 7, kids := [a, b] }
def madeN (f : Src → Dat × Src) : Nat → Src → List Dat → List Dat × Src
  | 0, s, acc => (acc, s)
  | n + 1, s, acc => madeN f n (f s).2 (acc ++ [(f s).1])
def listN (f : Src → Dat × Src) : Nat → Src → Dat → Dat × Src
  | 0, s, t => (t, s)
  | n + 1, s, t => listN f n (f s).2 (consDat (f s).1 t)
def mapN (f : Src → Dat × Src) : Nat → Src → Dat → Dat × Src
  | 0, s, m => (m, s)
  | n + 1, s, m => mapN f n (f (keyV s).2).2 (putR m (keyV s).1 (f (keyV s).2).1).1
def made : Nat → Src → Dat × Src
  | 0, s => made0 s
  | d + 1, s =>
    bif decide (nextV s 12 ≤ 6) then madeBase (nextV s 12) (nextS s 12) else
    bif decide (nextV s 12 = 7) then (bif decide ((made0 (nextS s 12)).1.kind = 9) then (wrapD (made0 (nextS s 12)).1, (made0 (nextS s 12)).2) else made0 (nextS s 12)) else
    bif decide (nextV s 12 ≤ 9) then
      ({ zeroDat with kind := 6, kids := (madeN (made d) (nextV (nextS s 12) 4).toNat (nextS (nextS s 12) 4) []).1 }, (madeN (made d) (nextV (nextS s 12) 4).toNat (nextS (nextS s 12) 4) []).2) else
    bif decide (nextV s 12 = 10) then listN (made d) (1 + nextV (nextS s 12) 2).toNat (nextS (nextS s 12) 2) { zeroDat with kind := 5 } else
    mapN (made d) (nextV (nextS s 12) 3).toNat (nextS (nextS s 12) 3) { zeroDat with kind := 8 }

end Go.Proofs.Ytmpfdejckbceiaa
set_option linter.unusedSimpArgs false
set_option linter.unusedVariables false
set_option maxRecDepth 20000
set_option maxHeartbeats 4000000
namespace Go.Proofs.Ytmpfdejckbceiaa
open Go Go.Sx
open Nat renaming reduceBEq → zA, reduceBNe → zB, reduceAdd → zC, reduceSub → zD, reduceMul → zE, reduceLeDiff → zF, reduceLT → zG, reduceEqDiff → zH
open Int renaming reduceToNat → zI, reduceLE → zJ, reduceLT → zK, reduceEq → zL
/-- the contract of Made at a depth -/
def MadeC (d : Nat) : Prop := ∀ s : Src, s.ok → PCB Try.prog 7 [Sp pin, I .i64 d] [(pin, srcB s)] (Dt (made d s).1) [(pin, srcB (made d s).2)]
theorem MadeC.k {d : Nat} (h : MadeC d) (k : Nat) (s : Src) (hs : s.ok) : PCBk Try.prog 7 [Sp k, I .i64 d] k (srcB s) (Dt (made d s).1) (srcB (made d s).2) := PCBk.mk k (h s hs)
theorem dec_pos {n : Nat} : decide ((0 : Int) < ((n + 1 : Nat) : Int)) = true := by simp
theorem wrap_pred_nat {n : Nat} (hm : n ≤ 1000000) : IntKind.i64.wrap (((n + 1 : Nat) : Int) - 1) = (n : Int) := by rw [w64 (by omega)]; omega
end Go.Proofs.Ytmpfdejckbceiaa




set_option linter.unusedSimpArgs false
set_option linter.unusedVariables false
set_option maxRecDepth 20000
set_option maxHeartbeats 1000000
namespace Go.Proofs.Ytmpfdejckbceiaa
open Go Go.Sx
open Nat renaming reduceBEq → zA, reduceBNe → zB, reduceAdd → zC, reduceSub → zD, reduceMul → zE, reduceLeDiff → zF, reduceLT → zG, reduceEqDiff → zH
open Int renaming reduceToNat → zI, reduceLE → zJ, reduceLT → zK, reduceEq → zL
/-- the functions of the document's answer -/
theorem refHasFunction_c (d : Dat) : PC Try.prog 21 [.st (encDat d)] (Bo (hasFun d)) := by
  have ih : ∀ k ∈ d.kids, PC Try.prog 21 [.st (encDat k)] (Bo (hasFun k)) := fun k hk => refHasFunction_c k
  refine PCB.of_body Try.func21 rfl (by decide) Try.ntmps21 Try.results21 rfl rfl rfl ?_ rfl rfl
  cases h9 : decide (d.kind = 9) with
  | true =>
    repeat' (first
      | (simp only [go_sem, zA, zB, zC, zD, zE, zF, zG, reduceCtorEq, zH, zI, zJ, zK, zL, encDat_eq, h9]; all_goals fail_if_success guard_target =ₛ False)
      | (with_reducible first
        | refine seqVC_stepN rfl fun K hK => ?_
        | refine seqVC_nil ?_
        | (refine hK _ _ _ ?_; clear hK K)
        | (refine hK _ _ ?_; clear hK K)
        | (refine hK _ ?_; clear hK K)
        | refine AWP.seq fun K hK => ?_
        | refine AWP.seqR (by kernel_rfl) fun K hK => ?_
        | (refine AWP.cond (by with_unfolding_all rfl) (fun h => ?_) (fun h => ?_); all_goals (try simp only [Bool.not_eq_true', Bool.not_eq_false'] at h); (all_goals try first | (exact absurd h Bool.false_ne_true) | (exact absurd h.symm Bool.false_ne_true) | (exact absurd h (by decide))))
        | refine AWP.skip ?_
        | refine AWP.ret ?_
        | refine AWP.block ?_
        | refine AWP.exit ?_
        | refine Or.inl ?_)
      | (clear hK K))
    all_goals (refine fin0 ?_; simp only [hasFun_eq, h9, Bool.true_or])
  | false =>
    repeat' (first
      | (simp only [go_sem, zA, zB, zC, zD, zE, zF, zG, reduceCtorEq, zH, zI, zJ, zK, zL, encDat_eq, h9, List.length_map]; all_goals fail_if_success guard_target =ₛ False)
      | (with_reducible first
        | refine seqVC_stepN rfl fun K hK => ?_
        | refine seqVC_nil ?_
        | (refine hK _ _ _ ?_; clear hK K)
        | (refine hK _ _ ?_; clear hK K)
        | (refine hK _ ?_; clear hK K)
        | refine AWP.seq fun K hK => ?_
        | refine AWP.seqR (by kernel_rfl) fun K hK => ?_
        | (refine AWP.cond (by with_unfolding_all rfl) (fun h => ?_) (fun h => ?_); all_goals (try simp only [Bool.not_eq_true', Bool.not_eq_false'] at h); (all_goals try first | (exact absurd h Bool.false_ne_true) | (exact absurd h.symm Bool.false_ne_true) | (exact absurd h (by decide))))
        | refine AWP.skip ?_
        | refine AWP.ret ?_
        | refine AWP.block ?_
        | refine AWP.exit ?_
        | refine Or.inl ?_)
      | (clear hK K))
    refine AWP.len 9 rfl fun hlen => ?_
    rw [List.length_map] at hlen
    refine AWP.loopS (X := Nat × Unit) (fun x => [(11, I .i64 x.1), (10, I .i64 d.kids.length), (9, .one (.dat (.sl 13 (d.kids.map encDat))))]) (fun _ => [])
      (fun x => x.1 ≤ d.kids.length ∧ d.kids.any hasFun = (d.kids.drop x.1).any hasFun) (fun x => d.kids.length - x.1) (0, ()) (Gh.to [] (by repeat (first | exact trivial | refine ⟨rfl, ?_⟩ | refine ⟨by (simp only [go_sem, zA, zB, zC, zD, zE, zF, zG, reduceCtorEq, zH, zI, zJ, zK, zL, List.length_append, List.length_map, List.length_cons, List.length_nil, Nat.zero_add]) <;> rfl, ?_⟩)) (by repeat (first | exact trivial | refine ⟨rfl, ?_⟩ | refine ⟨by (simp only [go_sem, zA, zB, zC, zD, zE, zF, zG, reduceCtorEq, zH, zI, zJ, zK, zL, List.length_append, List.length_map, List.length_cons, List.length_nil, Nat.zero_add]) <;> rfl, ?_⟩)) rfl rfl rfl) ⟨Nat.zero_le _, rfl⟩ ?_
    rintro ⟨k, u⟩ ⟨hk, hp⟩
    simp only at hk hp
    by_cases hlt : k < d.kids.length
    · obtain ⟨x, hx, hx', hb, hdx⟩ := at_lt (enc := encDat) hlt
      rw [hdx, List.any_cons] at hp
      have hgx := ih x (List.mem_of_getElem? hx)
      cases hz : hasFun x
      ·
        repeat' (first
          | (simp only [go_sem, zA, zB, zC, zD, zE, zF, zG, reduceCtorEq, zH, zI, zJ, zK, zL, List.length_map, hb, hz]; all_goals fail_if_success guard_target =ₛ False)
          | (with_reducible first
            | refine seqVC_stepN rfl fun K hK => ?_
            | refine seqVC_nil ?_
            | (refine hK _ _ _ ?_; clear hK K)
            | (refine hK _ _ ?_; clear hK K)
            | (refine hK _ ?_; clear hK K)
            | refine AWP.seq fun K hK => ?_
            | refine AWP.seqR (by kernel_rfl) fun K hK => ?_
            | (refine AWP.cond (by with_unfolding_all rfl) (fun h => ?_) (fun h => ?_); all_goals (try simp only [Bool.not_eq_true', Bool.not_eq_false'] at h); (all_goals try first | (exact absurd h Bool.false_ne_true) | (exact absurd h.symm Bool.false_ne_true) | (exact absurd h (by decide))))
            | refine AWP.skip ?_
            | refine AWP.ret ?_
            | refine AWP.block ?_
            | refine AWP.exit ?_
            | refine ⟨_, hgx, ?_⟩
            | refine ⟨by omega, encDat x, hx', ?_⟩
            | refine Or.inl ?_)
          | (clear hK K))
        all_goals (rw [hz, Bool.false_or] at hp)
        all_goals (rw [wrap_succ hlt hlen])
        all_goals (refine ⟨(k + 1, ()), by simp only; omega, ⟨by simp only; omega, hp⟩, Gh.to [] (by repeat (first | exact trivial | refine ⟨rfl, ?_⟩ | refine ⟨by (simp only [go_sem, zA, zB, zC, zD, zE, zF, zG, reduceCtorEq, zH, zI, zJ, zK, zL, List.length_append, List.length_map, List.length_cons, List.length_nil, Nat.zero_add]) <;> rfl, ?_⟩)) (by repeat (first | exact trivial | refine ⟨rfl, ?_⟩ | refine ⟨by (simp only [go_sem, zA, zB, zC, zD, zE, zF, zG, reduceCtorEq, zH, zI, zJ, zK, zL, List.length_append, List.length_map, List.length_cons, List.length_nil, Nat.zero_add]) <;> rfl, ?_⟩)) rfl rfl rfl⟩)
      ·
        repeat' (first
          | (simp only [go_sem, zA, zB, zC, zD, zE, zF, zG, reduceCtorEq, zH, zI, zJ, zK, zL, List.length_map, hb, hz]; all_goals fail_if_success guard_target =ₛ False)
          | (with_reducible first
            | refine seqVC_stepN rfl fun K hK => ?_
            | refine seqVC_nil ?_
            | (refine hK _ _ _ ?_; clear hK K)
            | (refine hK _ _ ?_; clear hK K)
            | (refine hK _ ?_; clear hK K)
            | refine AWP.seq fun K hK => ?_
            | refine AWP.seqR (by kernel_rfl) fun K hK => ?_
            | (refine AWP.cond (by with_unfolding_all rfl) (fun h => ?_) (fun h => ?_); all_goals (try simp only [Bool.not_eq_true', Bool.not_eq_false'] at h); (all_goals try first | (exact absurd h Bool.false_ne_true) | (exact absurd h.symm Bool.false_ne_true) | (exact absurd h (by decide))))
            | refine AWP.skip ?_
            | refine AWP.ret ?_
            | refine AWP.block ?_
            | refine AWP.exit ?_
            | refine ⟨_, hgx, ?_⟩
            | refine ⟨by omega, encDat x, hx', ?_⟩
            | refine Or.inl ?_)
          | (clear hK K))
        all_goals (refine fin0 ?_; rw [hasFun_eq d, h9, hp, hz]; rfl)
    · obtain ⟨hb, hdx⟩ := at_ge hlt
      rw [hdx, List.any_nil] at hp
      repeat' (first
        | (simp only [go_sem, zA, zB, zC, zD, zE, zF, zG, reduceCtorEq, zH, zI, zJ, zK, zL, List.length_map, hb]; all_goals fail_if_success guard_target =ₛ False)
        | (with_reducible first
          | refine seqVC_stepN rfl fun K hK => ?_
          | refine seqVC_nil ?_
          | (refine hK _ _ _ ?_; clear hK K)
          | (refine hK _ _ ?_; clear hK K)
          | (refine hK _ ?_; clear hK K)
          | refine AWP.seq fun K hK => ?_
          | refine AWP.seqR (by kernel_rfl) fun K hK => ?_
          | (refine AWP.cond (by with_unfolding_all rfl) (fun h => ?_) (fun h => ?_); all_goals (try simp only [Bool.not_eq_true', Bool.not_eq_false'] at h); (all_goals try first | (exact absurd h Bool.false_ne_true) | (exact absurd h.symm Bool.false_ne_true) | (exact absurd h (by decide))))
          | refine AWP.skip ?_
          | refine AWP.ret ?_
          | refine AWP.block ?_
          | refine AWP.exit ?_
          | refine Or.inl ?_)
        | (clear hK K))
      all_goals (refine fin0 ?_; simp only [hasFun_eq, h9, hp, Bool.false_or])
termination_by SizeOf.sizeOf d
decreasing_by
  cases d; simp only at hk; have := List.sizeOf_lt_of_mem hk; simp; omega

end Go.Proofs.Ytmpfdejckbceiaa
set_option linter.unusedSimpArgs false
set_option linter.unusedVariables false
set_option maxRecDepth 20000
set_option maxHeartbeats 1000000
namespace Go.Proofs.Ytmpfdejckbceiaa
open Go Go.Sx
open Nat renaming reduceBEq → zA, reduceBNe → zB, reduceAdd → zC, reduceSub → zD, reduceMul → zE, reduceLeDiff → zF, reduceLT → zG, reduceEqDiff → zH
open Int renaming reduceToNat → zI, reduceLE → zJ, reduceLT → zK, reduceEq → zL
theorem cloneKeys_c (l : List KeyD) (hl : l.length ≤ 1000000) : PC Try.prog 47 [.one (.dat (.sl 2 (l.map encKey)))] (.one (.dat (.sl 2 (l.map encKey)))) := by
  refine PCB.of_body Try.func47 rfl (by decide) Try.ntmps47 Try.results47 rfl rfl rfl ?_ rfl rfl
  refine AWP.ghQ ?_
  repeat' (first
    | ( refine AWP.nilR (e := 59) rfl (by decide) (by decide) rfl (fun hnil => ?_) ?_)
    | (simp only [go_sem, zA, zB, zC, zD, zE, zF, zG, reduceCtorEq, zH, zI, zJ, zK, zL, List.length_map]; all_goals fail_if_success guard_target =ₛ False)
    | (with_reducible first
      | refine seqVC_stepN rfl fun K hK => ?_
      | refine seqVC_nil ?_
      | (refine hK _ _ _ ?_; clear hK K)
      | (refine hK _ _ ?_; clear hK K)
      | (refine hK _ ?_; clear hK K)
      | refine AWP.seq fun K hK => ?_
      | refine AWP.seqR (by kernel_rfl) fun K hK => ?_
      | (refine AWP.cond (by with_unfolding_all rfl) (fun h => ?_) (fun h => ?_); all_goals (try simp only [Bool.not_eq_true', Bool.not_eq_false'] at h); (all_goals try first | (exact absurd h Bool.false_ne_true) | (exact absurd h.symm Bool.false_ne_true) | (exact absurd h (by decide))))
      | refine AWP.skip ?_
      | refine AWP.ret ?_
      | refine AWP.block ?_
      | refine AWP.exit ?_
      | (refine Or.inr (show vBuildOwn _ 5 _ _ _ _ _ _ from ?_); unfold vBuildOwn; with_reducible refine Or.inr ?_; simp only [vBuildRow, go_sem, zA, zB, zC, zD, zE, zF, zG, reduceCtorEq, zH, zI, zJ, zK, zL, List.length_map])
      | refine ⟨by omega, ?_⟩
      | refine Or.inl ?_)
    | (clear hK K))
  · refine ⟨_, Gh.refl _, ?_⟩
    simp only [go_sem, zA, zB, zC, zD, zE, zF, zG, reduceCtorEq, zH, zI, zJ, zK, zL]
    refine fin0 ?_
    rw [hnil]
  ·
    refine ⟨_, Gh.freeze 7 rfl rfl (by simp only [go_sem, zA, zB, zC, zD, zE, zF, zG, reduceCtorEq, zH, zI, zJ, zK, zL, List.length_map]) (by simp only [go_sem, zA, zB, zC, zD, zE, zF, zG, reduceCtorEq, zH, zI, zJ, zK, zL, List.length_map]), ?_⟩
    simp only [go_sem, zA, zB, zC, zD, zE, zF, zG, reduceCtorEq, zH, zI, zJ, zK, zL, List.length_map]
    all_goals (first | exact fun _ h => (by cases h) | refine fin0 ?_)
    all_goals rfl

mutual
def eraseV : Dat → Val
  | ⟨kind, num, text, kids, keys, _, _, _, _, _, _, _, _⟩ => bif decide (kind = 9) then ⟨9, num, [], [], [], [], []⟩ else ⟨kind, num, text, eraseVs kids, keys, [], []⟩
def eraseVs : List Dat → List Val
  | [] => []
  | d :: l => eraseV d :: eraseVs l
end
theorem eraseVs_map : ∀ l : List Dat, eraseVs l = l.map eraseV
  | [] => by simp only [eraseVs, List.map_nil]
  | d :: l => by simp only [eraseVs, List.map_cons, eraseVs_map l]
theorem eraseV_eq (d : Dat) : eraseV d = bif decide (d.kind = 9) then ⟨9, d.num, [], [], [], [], []⟩ else ⟨d.kind, d.num, d.text, d.kids.map eraseV, d.keys, [], []⟩ := by cases d; simp only [eraseV, eraseVs_map]
/-- no row too long for an append -/
inductive Small : Dat → Prop
  | mk (d : Dat) (h1 : d.kids.length ≤ 1000000) (h2 : d.keys.length ≤ 1000000) (h : ∀ k ∈ d.kids, Small k) : Small d
theorem Small.kids {d : Dat} (h : Small d) : d.kids.length ≤ 1000000 := by cases h; assumption
theorem Small.keys {d : Dat} (h : Small d) : d.keys.length ≤ 1000000 := by cases h; assumption
theorem Small.kid {d : Dat} (h : Small d) : ∀ k ∈ d.kids, Small k := by cases h; assumption
abbrev Vr (n : Nat) (l : List Val) : Nat × Res := (n, .row 7 (l.map encVal))
theorem val_snoc (l : List Val) (x : Val) : l.map encVal ++ [encVal x] = (l ++ [x]).map encVal := by simp
theorem erase_c (d : Dat) (hd : Small d) : PC Try.prog 18 [.st (encDat d)] (.st (encVal (eraseV d))) := by
  have ih : ∀ k ∈ d.kids, PC Try.prog 18 [.st (encDat k)] (.st (encVal (eraseV k))) := fun k hk => erase_c k (hd.kid k hk)
  have hkk := hd.kids
  refine PCB.of_body Try.func18 rfl (by decide) Try.ntmps18 Try.results18 rfl rfl rfl ?_ rfl rfl
  refine AWP.ghQ ?_
  cases h9 : decide (d.kind = 9) with
  | true =>
    repeat' (first
      | (simp only [go_sem, zA, zB, zC, zD, zE, zF, zG, reduceCtorEq, zH, zI, zJ, zK, zL, encDat_eq, h9]; all_goals fail_if_success guard_target =ₛ False)
      | (with_reducible first
        | refine seqVC_stepN rfl fun K hK => ?_
        | refine seqVC_nil ?_
        | (refine hK _ _ _ ?_; clear hK K)
        | (refine hK _ _ ?_; clear hK K)
        | (refine hK _ ?_; clear hK K)
        | refine AWP.seq fun K hK => ?_
        | refine AWP.seqR (by kernel_rfl) fun K hK => ?_
        | refine parVC_stepN rfl fun K hK => ?_
        | refine parEVC_stepN rfl fun K hK => ?_
        | refine genVC_stepN rfl fun K hK => ?_
        | refine parVC_nil ?_
        | refine parEVC_nil ?_
        | refine genVC_nil ?_
        | (refine AWP.cond (by with_unfolding_all rfl) (fun h => ?_) (fun h => ?_); all_goals (try simp only [Bool.not_eq_true', Bool.not_eq_false'] at h); (all_goals try first | (exact absurd h Bool.false_ne_true) | (exact absurd h.symm Bool.false_ne_true) | (exact absurd h (by decide))))
        | refine AWP.skip ?_
        | refine AWP.ret ?_
        | refine AWP.block ?_
        | refine AWP.exit ?_
        | (refine AWP.segP (id := 3) 10 mixed (by kernel_rfl) fun K hK => ?_; simp only [List.take_succ_cons, List.take_zero, List.drop_succ_cons, List.drop_zero])
        | (refine AWP.segP (id := 7) 5 mixed (by kernel_rfl) fun K hK => ?_; simp only [List.take_succ_cons, List.take_zero, List.drop_succ_cons, List.drop_zero])
        | refine AWP.parR mixed (by kernel_rfl) fun K hK => ?_
        | refine ⟨(by kernel_rfl : depB _ _ _ = true), ?_⟩
        | refine Or.inl ?_)
      | (clear hK K))
    all_goals (refine ⟨_, Gh.refl _, ?_⟩)
    all_goals simp only [go_sem, zA, zB, zC, zD, zE, zF, zG, reduceCtorEq, zH, zI, zJ, zK, zL]
    all_goals (refine fin0 ?_; rw [eraseV_eq, h9, encVal_eq]; rfl)
  | false =>
    repeat' (first
      | (simp only [go_sem, zA, zB, zC, zD, zE, zF, zG, reduceCtorEq, zH, zI, zJ, zK, zL, encDat_eq, h9, List.length_map]; all_goals fail_if_success guard_target =ₛ False)
      | (with_reducible first
        | refine seqVC_stepN rfl fun K hK => ?_
        | refine seqVC_nil ?_
        | (refine hK _ _ _ ?_; clear hK K)
        | (refine hK _ _ ?_; clear hK K)
        | (refine hK _ ?_; clear hK K)
        | refine AWP.seq fun K hK => ?_
        | refine AWP.seqR (by kernel_rfl) fun K hK => ?_
        | refine parVC_stepN rfl fun K hK => ?_
        | refine parEVC_stepN rfl fun K hK => ?_
        | refine genVC_stepN rfl fun K hK => ?_
        | refine parVC_nil ?_
        | refine parEVC_nil ?_
        | refine genVC_nil ?_
        | (refine AWP.cond (by with_unfolding_all rfl) (fun h => ?_) (fun h => ?_); all_goals (try simp only [Bool.not_eq_true', Bool.not_eq_false'] at h); (all_goals try first | (exact absurd h Bool.false_ne_true) | (exact absurd h.symm Bool.false_ne_true) | (exact absurd h (by decide))))
        | refine AWP.skip ?_
        | refine AWP.ret ?_
        | refine AWP.block ?_
        | refine AWP.exit ?_
        | refine ⟨_, cloneKeys_c d.keys hd.keys, ?_⟩
        | (refine AWP.genR (id := 3) [10,11] [] mixed (by kernel_rfl) fun K hK => ?_; simp only [Bx.outs, Bx.drop, cond_true, cond_false, Nat.reduceBEq, go_sem])
        | (refine AWP.segP (id := 7) 5 mixed (by kernel_rfl) fun K hK => ?_; simp only [List.take_succ_cons, List.take_zero, List.drop_succ_cons, List.drop_zero])
        | refine AWP.parR mixed (by kernel_rfl) fun K hK => ?_
        | refine ⟨(by kernel_rfl : depB _ _ _ = true), ?_⟩
        | refine Or.inl ?_)
      | (clear hK K))
    refine AWP.gh (Gh.nilcell 3 3 900 rfl rfl rfl (by simp only [go_sem, zA, zB, zC, zD, zE, zF, zG, reduceCtorEq, zH, zI, zJ, zK, zL]) (by simp only [go_sem, zA, zB, zC, zD, zE, zF, zG, reduceCtorEq, zH, zI, zJ, zK, zL])) ?_
    refine AWP.loopS (X := Nat × List Val) (fun x => [(25, I .i64 x.1), (24, I .i64 d.kids.length), (23, .one (.dat (.sl 13 (d.kids.map encDat)))), (2, Sp 2), (3, Sp 3)])
      (fun x => [(2, .cells [.dat (.int .i64 0), .dat (.int .i64 0), .dat (.str []), .dat (.nil 7), .dat (.nil 2), .dat (.nil 9), .dat (.nil 1)]),
        (3, .cells [.dat (.int .i64 d.kind), .dat (.int .i64 d.num), .dat (.str d.text), .own 900 x.2.length, .dat (.sl 2 (d.keys.map encKey)), .dat (.nil 9), .dat (.nil 1)]), Vr 900 x.2])
      (fun x => x.1 ≤ d.kids.length ∧ x.2 = (d.kids.take x.1).map eraseV) (fun x => d.kids.length - x.1) (0, []) ?_ ⟨Nat.zero_le _, rfl⟩ ?_
    · exact Gh.to [] (by repeat (first | exact trivial | refine ⟨rfl, ?_⟩ | refine ⟨by (simp only [go_sem, zA, zB, zC, zD, zE, zF, zG, reduceCtorEq, zH, zI, zJ, zK, zL, List.length_append, List.length_map, List.length_cons, List.length_nil, Nat.zero_add]) <;> rfl, ?_⟩)) (by repeat (first | exact trivial | refine ⟨rfl, ?_⟩ | refine ⟨by (simp only [go_sem, zA, zB, zC, zD, zE, zF, zG, reduceCtorEq, zH, zI, zJ, zK, zL, List.length_append, List.length_map, List.length_cons, List.length_nil, Nat.zero_add]) <;> rfl, ?_⟩)) rfl rfl rfl
    rintro ⟨k, acc⟩ ⟨hk, hp⟩
    simp only at hk hp
    have hal : acc.length = k := by rw [hp]; simp; omega
    by_cases hlt : k < d.kids.length
    · obtain ⟨x, hx, hx', hb, hdx⟩ := at_lt (enc := encDat) hlt
      have hgx := ih x (List.mem_of_getElem? hx)
      repeat' (first
        | (simp only [go_sem, zA, zB, zC, zD, zE, zF, zG, reduceCtorEq, zH, zI, zJ, zK, zL, List.length_map, hb, val_snoc]; all_goals fail_if_success guard_target =ₛ False)
        | (with_reducible first
          | refine seqVC_stepN rfl fun K hK => ?_
          | refine seqVC_nil ?_
          | (refine hK _ _ _ ?_; clear hK K)
          | (refine hK _ _ ?_; clear hK K)
          | (refine hK _ ?_; clear hK K)
          | refine AWP.seq fun K hK => ?_
          | refine AWP.seqR (by kernel_rfl) fun K hK => ?_
          | refine parVC_stepN rfl fun K hK => ?_
          | refine parEVC_stepN rfl fun K hK => ?_
          | refine genVC_stepN rfl fun K hK => ?_
          | refine parVC_nil ?_
          | refine parEVC_nil ?_
          | refine genVC_nil ?_
          | (refine AWP.cond (by with_unfolding_all rfl) (fun h => ?_) (fun h => ?_); all_goals (try simp only [Bool.not_eq_true', Bool.not_eq_false'] at h); (all_goals try first | (exact absurd h Bool.false_ne_true) | (exact absurd h.symm Bool.false_ne_true) | (exact absurd h (by decide))))
          | refine AWP.skip ?_
          | refine AWP.ret ?_
          | refine AWP.block ?_
          | refine AWP.exit ?_
          | refine ⟨_, hgx, ?_⟩
          | refine ⟨by omega, encDat x, hx', ?_⟩
          | refine ⟨by omega, ?_⟩
          | (refine AWP.genR (id := 7) [1,5,7] [3,900] mixed (by kernel_rfl) fun K hK => ?_; simp only [Bx.outs, Bx.drop, cond_true, cond_false, Nat.reduceBEq, go_sem])
          | (refine AWP.segP (id := 3) 10 mixed (by kernel_rfl) fun K hK => ?_; simp only [List.take_succ_cons, List.take_zero, List.drop_succ_cons, List.drop_zero])
          | refine AWP.parR mixed (by kernel_rfl) fun K hK => ?_
          | refine ⟨(by kernel_rfl : depB _ _ _ = true), ?_⟩
          | refine Or.inl ?_)
        | (clear hK K))
      all_goals (rw [wrap_succ hlt (by omega)])
      all_goals (refine ⟨(k + 1, acc ++ [eraseV x]), by simp only; omega, ⟨by simp only; omega, ?_⟩, Gh.to [(900, 34)] (by repeat (first | exact trivial | refine ⟨rfl, ?_⟩ | refine ⟨by (simp only [go_sem, zA, zB, zC, zD, zE, zF, zG, reduceCtorEq, zH, zI, zJ, zK, zL, List.length_append, List.length_map, List.length_cons, List.length_nil, Nat.zero_add]) <;> rfl, ?_⟩)) (by repeat (first | exact trivial | refine ⟨rfl, ?_⟩ | refine ⟨by (simp only [go_sem, zA, zB, zC, zD, zE, zF, zG, reduceCtorEq, zH, zI, zJ, zK, zL, List.length_append, List.length_map, List.length_cons, List.length_nil, Nat.zero_add]) <;> rfl, ?_⟩)) rfl rfl rfl⟩)
      all_goals (simp only [hp]; rw [List.take_add_one, List.map_append, hx]; rfl)
    · have hb : decide ((k : Int) < (d.kids.length : Int)) = false := by simpa using hlt
      rw [List.take_of_length_le (by omega)] at hp
      repeat' (first
        | (simp only [go_sem, zA, zB, zC, zD, zE, zF, zG, reduceCtorEq, zH, zI, zJ, zK, zL, List.length_map, hb]; all_goals fail_if_success guard_target =ₛ False)
        | (with_reducible first
          | refine seqVC_stepN rfl fun K hK => ?_
          | refine seqVC_nil ?_
          | (refine hK _ _ _ ?_; clear hK K)
          | (refine hK _ _ ?_; clear hK K)
          | (refine hK _ ?_; clear hK K)
          | refine AWP.seq fun K hK => ?_
          | refine AWP.seqR (by kernel_rfl) fun K hK => ?_
          | refine parVC_stepN rfl fun K hK => ?_
          | refine parEVC_stepN rfl fun K hK => ?_
          | refine genVC_stepN rfl fun K hK => ?_
          | refine parVC_nil ?_
          | refine parEVC_nil ?_
          | refine genVC_nil ?_
          | (refine AWP.cond (by with_unfolding_all rfl) (fun h => ?_) (fun h => ?_); all_goals (try simp only [Bool.not_eq_true', Bool.not_eq_false'] at h); (all_goals try first | (exact absurd h Bool.false_ne_true) | (exact absurd h.symm Bool.false_ne_true) | (exact absurd h (by decide))))
          | refine AWP.skip ?_
          | refine AWP.ret ?_
          | refine AWP.block ?_
          | refine AWP.exit ?_
          | (refine AWP.segP (id := 3) 10 mixed (by kernel_rfl) fun K hK => ?_; simp only [List.take_succ_cons, List.take_zero, List.drop_succ_cons, List.drop_zero])
          | (refine AWP.segP (id := 7) 5 mixed (by kernel_rfl) fun K hK => ?_; simp only [List.take_succ_cons, List.take_zero, List.drop_succ_cons, List.drop_zero])
          | refine AWP.parR mixed (by kernel_rfl) fun K hK => ?_
          | refine ⟨(by kernel_rfl : depB _ _ _ = true), ?_⟩
          | refine Or.inl ?_)
        | (clear hK K))
      refine ⟨_, Gh.freeze 900 rfl rfl (by simp only [go_sem, zA, zB, zC, zD, zE, zF, zG, reduceCtorEq, zH, zI, zJ, zK, zL, List.length_map]) (by simp only [go_sem, zA, zB, zC, zD, zE, zF, zG, reduceCtorEq, zH, zI, zJ, zK, zL, List.length_map]), ?_⟩
      simp only [go_sem, zA, zB, zC, zD, zE, zF, zG, reduceCtorEq, zH, zI, zJ, zK, zL, List.length_map]
      all_goals (refine fin0 ?_; rw [eraseV_eq, h9, encVal_eq, hp]; rfl)
termination_by SizeOf.sizeOf d
decreasing_by
  cases d; simp only at hk; have := List.sizeOf_lt_of_mem hk; simp; omega
end Go.Proofs.Ytmpfdejckbceiaa
