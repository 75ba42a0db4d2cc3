/- A part of the proof: lemmas about the walk of the program and about plain integers and lists. No conditions beyond those that each lemma states. -/
import Derived.Test.YtmpfdejckbceiaaBk7
import Derived.Test.YtmpfdejckbceiaaBk4
import Derived.Test.YtmpfdejckbceiaaBk6
import Derived.Test.YtmpfdejckbceiaaBk5
import Derived.Test.YtmpfdejckbceiaaBk3
set_option linter.unusedSimpArgs false
set_option linter.unusedVariables false
set_option maxRecDepth 20000
set_option maxHeartbeats 4000000
namespace Go.Proofs.Ytmpfdejckbceiaa
open Go Go.Sx
open Nat renaming reduceBEq → zA, reduceBNe → zB, reduceAdd → zC, reduceSub → zD, reduceMul → zE, reduceLeDiff → zF, reduceLT → zG, reduceEqDiff → zH
open Int renaming reduceToNat → zI, reduceLE → zJ, reduceLT → zK, reduceEq → zL
/-- the document's values -/
def intVal (n : Int) : Val := ⟨1, n, [], [], [], [], []⟩
def strVal (s : List UInt8) : Val := ⟨2, 0, s, [], [], [], []⟩
def atomVal (s : List UInt8) : Val := ⟨3, 0, s, [], [], [], []⟩
def pidVal (n : Int) : Val := ⟨4, n, [], [], [], [], []⟩
def nilVal : Val := ⟨5, 0, [], [], [], [], []⟩
def tupVal (l : List Val) : Val := ⟨6, 0, [], l, [], [], []⟩
def consVal (a b : Val) : Val := ⟨7, 0, [], [a, b], [], [], []⟩
abbrev Vt (v : Val) : T := .st (encVal v)
theorem refInt_c (n : Int) : PC Try.prog 102 [I .i64 n] (Vt (intVal n)) := by
  refine PCB.of_body Try.func102 rfl (by decide) Try.ntmps102 Try.results102 rfl rfl rfl ?_ rfl rfl
  repeat' (first
    | (simp only [go_sem, zA, zB, zC, zD, zE, zF, zG, reduceCtorEq, zH, zI, zJ, zK, zL]; all_goals fail_if_success guard_target =ₛ False)
    | (with_reducible first
      | refine seqVC_stepN rfl fun K hK => ?_
      | refine seqVC_nil ?_
      | (refine hK _ _ _ ?_; clear hK K)
      | (refine hK _ _ ?_; clear hK K)
      | (refine hK _ ?_; clear hK K)
      | refine AWP.seq fun K hK => ?_
      | refine AWP.seqR (by kernel_rfl) fun K hK => ?_
      | (refine AWP.cond (by with_unfolding_all rfl) (fun h => ?_) (fun h => ?_); all_goals (try simp only [Bool.not_eq_true', Bool.not_eq_false'] at h); (all_goals try first | (exact absurd h Bool.false_ne_true) | (exact absurd h.symm Bool.false_ne_true) | (exact absurd h (by decide))))
      | refine AWP.skip ?_
      | refine AWP.ret ?_
      | refine AWP.block ?_
      | refine AWP.exit ?_
      | refine Or.inl ?_)
    | (clear hK K))
  all_goals (first | exact fun _ h => (by cases h) | refine fin0 ?_)
  all_goals (rw [Vt, encVal_eq]; rfl)
theorem refString_c (s : List UInt8) : PC Try.prog 104 [S s] (Vt (strVal s)) := by
  refine PCB.of_body Try.func104 rfl (by decide) Try.ntmps104 Try.results104 rfl rfl rfl ?_ rfl rfl
  repeat' (first
    | (simp only [go_sem, zA, zB, zC, zD, zE, zF, zG, reduceCtorEq, zH, zI, zJ, zK, zL]; all_goals fail_if_success guard_target =ₛ False)
    | (with_reducible first
      | refine seqVC_stepN rfl fun K hK => ?_
      | refine seqVC_nil ?_
      | (refine hK _ _ _ ?_; clear hK K)
      | (refine hK _ _ ?_; clear hK K)
      | (refine hK _ ?_; clear hK K)
      | refine AWP.seq fun K hK => ?_
      | refine AWP.seqR (by kernel_rfl) fun K hK => ?_
      | (refine AWP.cond (by with_unfolding_all rfl) (fun h => ?_) (fun h => ?_); all_goals (try simp only [Bool.not_eq_true', Bool.not_eq_false'] at h); (all_goals try first | (exact absurd h Bool.false_ne_true) | (exact absurd h.symm Bool.false_ne_true) | (exact absurd h (by decide))))
      | refine AWP.skip ?_
      | refine AWP.ret ?_
      | refine AWP.block ?_
      | refine AWP.exit ?_
      | refine Or.inl ?_)
    | (clear hK K))
  all_goals (first | exact fun _ h => (by cases h) | refine fin0 ?_)
  all_goals (rw [Vt, encVal_eq]; rfl)
theorem refAtomV_c (s : List UInt8) : PC Try.prog 103 [S s] (Vt (atomVal s)) := by
  refine PCB.of_body Try.func103 rfl (by decide) Try.ntmps103 Try.results103 rfl rfl rfl ?_ rfl rfl
  repeat' (first
    | (simp only [go_sem, zA, zB, zC, zD, zE, zF, zG, reduceCtorEq, zH, zI, zJ, zK, zL]; all_goals fail_if_success guard_target =ₛ False)
    | (with_reducible first
      | refine seqVC_stepN rfl fun K hK => ?_
      | refine seqVC_nil ?_
      | (refine hK _ _ _ ?_; clear hK K)
      | (refine hK _ _ ?_; clear hK K)
      | (refine hK _ ?_; clear hK K)
      | refine AWP.seq fun K hK => ?_
      | refine AWP.seqR (by kernel_rfl) fun K hK => ?_
      | (refine AWP.cond (by with_unfolding_all rfl) (fun h => ?_) (fun h => ?_); all_goals (try simp only [Bool.not_eq_true', Bool.not_eq_false'] at h); (all_goals try first | (exact absurd h Bool.false_ne_true) | (exact absurd h.symm Bool.false_ne_true) | (exact absurd h (by decide))))
      | refine AWP.skip ?_
      | refine AWP.ret ?_
      | refine AWP.block ?_
      | refine AWP.exit ?_
      | refine Or.inl ?_)
    | (clear hK K))
  all_goals (first | exact fun _ h => (by cases h) | refine fin0 ?_)
  all_goals (rw [Vt, encVal_eq]; rfl)
theorem refPid_c (n : Int) : PC Try.prog 105 [I .i64 n] (Vt (pidVal n)) := by
  refine PCB.of_body Try.func105 rfl (by decide) Try.ntmps105 Try.results105 rfl rfl rfl ?_ rfl rfl
  repeat' (first
    | (simp only [go_sem, zA, zB, zC, zD, zE, zF, zG, reduceCtorEq, zH, zI, zJ, zK, zL]; all_goals fail_if_success guard_target =ₛ False)
    | (with_reducible first
      | refine seqVC_stepN rfl fun K hK => ?_
      | refine seqVC_nil ?_
      | (refine hK _ _ _ ?_; clear hK K)
      | (refine hK _ _ ?_; clear hK K)
      | (refine hK _ ?_; clear hK K)
      | refine AWP.seq fun K hK => ?_
      | refine AWP.seqR (by kernel_rfl) fun K hK => ?_
      | (refine AWP.cond (by with_unfolding_all rfl) (fun h => ?_) (fun h => ?_); all_goals (try simp only [Bool.not_eq_true', Bool.not_eq_false'] at h); (all_goals try first | (exact absurd h Bool.false_ne_true) | (exact absurd h.symm Bool.false_ne_true) | (exact absurd h (by decide))))
      | refine AWP.skip ?_
      | refine AWP.ret ?_
      | refine AWP.block ?_
      | refine AWP.exit ?_
      | refine Or.inl ?_)
    | (clear hK K))
  all_goals (first | exact fun _ h => (by cases h) | refine fin0 ?_)
  all_goals (rw [Vt, encVal_eq]; rfl)
theorem refNil_c : PC Try.prog 70 [] (Vt nilVal) := by
  refine PCB.of_body Try.func70 rfl (by decide) Try.ntmps70 Try.results70 rfl rfl rfl ?_ rfl rfl
  repeat' (first
    | (simp only [go_sem, zA, zB, zC, zD, zE, zF, zG, reduceCtorEq, zH, zI, zJ, zK, zL]; all_goals fail_if_success guard_target =ₛ False)
    | (with_reducible first
      | refine seqVC_stepN rfl fun K hK => ?_
      | refine seqVC_nil ?_
      | (refine hK _ _ _ ?_; clear hK K)
      | (refine hK _ _ ?_; clear hK K)
      | (refine hK _ ?_; clear hK K)
      | refine AWP.seq fun K hK => ?_
      | refine AWP.seqR (by kernel_rfl) fun K hK => ?_
      | (refine AWP.cond (by with_unfolding_all rfl) (fun h => ?_) (fun h => ?_); all_goals (try simp only [Bool.not_eq_true', Bool.not_eq_false'] at h); (all_goals try first | (exact absurd h Bool.false_ne_true) | (exact absurd h.symm Bool.false_ne_true) | (exact absurd h (by decide))))
      | refine AWP.skip ?_
      | refine AWP.ret ?_
      | refine AWP.block ?_
      | refine AWP.exit ?_
      | refine Or.inl ?_)
    | (clear hK K))
  all_goals (first | exact fun _ h => (by cases h) | refine fin0 ?_)
  all_goals (rw [Vt, encVal_eq]; rfl)
theorem copies_n (l : List Val) (hl : l.length ≤ 100000000) : PCN Try.prog 106 [.one (.dat (.sl 7 (l.map encVal)))] (.one (.own 0 l.length)) (.row 7 (l.map encVal)) := by
  refine PCN.of_body 4 Try.func106 rfl (by decide) Try.ntmps106 Try.results106 rfl rfl ?_
  refine AWP.ghQ ?_
  repeat' (first
    | (simp only [go_sem, zA, zB, zC, zD, zE, zF, zG, reduceCtorEq, zH, zI, zJ, zK, zL, List.length_map]; all_goals fail_if_success guard_target =ₛ False)
    | (with_reducible first
      | refine seqVC_stepN rfl fun K hK => ?_
      | refine seqVC_nil ?_
      | (refine hK _ _ _ ?_; clear hK K)
      | (refine hK _ _ ?_; clear hK K)
      | (refine hK _ ?_; clear hK K)
      | refine AWP.seq fun K hK => ?_
      | refine AWP.seqR (by kernel_rfl) fun K hK => ?_
      | (refine AWP.cond (by with_unfolding_all rfl) (fun h => ?_) (fun h => ?_); all_goals (try simp only [Bool.not_eq_true', Bool.not_eq_false'] at h); (all_goals try first | (exact absurd h Bool.false_ne_true) | (exact absurd h.symm Bool.false_ne_true) | (exact absurd h (by decide))))
      | refine AWP.skip ?_
      | refine AWP.ret ?_
      | refine AWP.block ?_
      | refine AWP.exit ?_
      | refine ⟨(by omega : _ ≤ _), ?_⟩
      | refine Or.inl ?_)
    | (clear hK K))
  refine ⟨_, Gh.refl _, ?_⟩
  simp only [go_sem, zA, zB, zC, zD, zE, zF, zG, reduceCtorEq, zH, zI, zJ, zK, zL, List.length_map]
  first | exact ⟨rfl, fun x hx => hx⟩ | exact fun x hx => hx
theorem copies_c (l : List Val) (hl : l.length ≤ 100000000) : PC Try.prog 106 [.one (.dat (.sl 7 (l.map encVal)))] (.one (.dat (.sl 7 (l.map encVal)))) := by
  refine PCB.of_body Try.func106 rfl (by decide) Try.ntmps106 Try.results106 rfl rfl rfl ?_ rfl rfl
  refine AWP.ghQ ?_
  repeat' (first
    | (simp only [go_sem, zA, zB, zC, zD, zE, zF, zG, reduceCtorEq, zH, zI, zJ, zK, zL, List.length_map]; all_goals fail_if_success guard_target =ₛ False)
    | (with_reducible first
      | refine seqVC_stepN rfl fun K hK => ?_
      | refine seqVC_nil ?_
      | (refine hK _ _ _ ?_; clear hK K)
      | (refine hK _ _ ?_; clear hK K)
      | (refine hK _ ?_; clear hK K)
      | refine AWP.seq fun K hK => ?_
      | refine AWP.seqR (by kernel_rfl) fun K hK => ?_
      | (refine AWP.cond (by with_unfolding_all rfl) (fun h => ?_) (fun h => ?_); all_goals (try simp only [Bool.not_eq_true', Bool.not_eq_false'] at h); (all_goals try first | (exact absurd h Bool.false_ne_true) | (exact absurd h.symm Bool.false_ne_true) | (exact absurd h (by decide))))
      | refine AWP.skip ?_
      | refine AWP.ret ?_
      | refine AWP.block ?_
      | refine AWP.exit ?_
      | refine ⟨(by omega : _ ≤ _), ?_⟩
      | refine Or.inl ?_)
    | (clear hK K))
  refine ⟨_, Gh.freeze 4 rfl rfl (by simp only [go_sem, zA, zB, zC, zD, zE, zF, zG, reduceCtorEq, zH, zI, zJ, zK, zL, List.length_map]) (by simp only [go_sem, zA, zB, zC, zD, zE, zF, zG, reduceCtorEq, zH, zI, zJ, zK, zL, List.length_map]), ?_⟩
  simp only [go_sem, zA, zB, zC, zD, zE, zF, zG, reduceCtorEq, zH, zI, zJ, zK, zL, List.length_map]
  all_goals (first | exact fun _ h => (by cases h) | refine fin0 ?_)
  all_goals rfl
theorem refTuple_c (l : List Val) (hl : l.length ≤ 100000000) : PC Try.prog 69 [.one (.dat (.sl 7 (l.map encVal)))] (Vt (tupVal l)) := by
  have h := copies_c l hl
  refine PCB.of_body Try.func69 rfl (by decide) Try.ntmps69 Try.results69 rfl rfl rfl ?_ rfl rfl
  repeat' (first
    | (simp only [go_sem, zA, zB, zC, zD, zE, zF, zG, reduceCtorEq, zH, zI, zJ, zK, zL]; all_goals fail_if_success guard_target =ₛ False)
    | (with_reducible first
      | refine seqVC_stepN rfl fun K hK => ?_
      | refine seqVC_nil ?_
      | (refine hK _ _ _ ?_; clear hK K)
      | (refine hK _ _ ?_; clear hK K)
      | (refine hK _ ?_; clear hK K)
      | refine AWP.seq fun K hK => ?_
      | refine AWP.seqR (by kernel_rfl) fun K hK => ?_
      | (refine AWP.cond (by with_unfolding_all rfl) (fun h => ?_) (fun h => ?_); all_goals (try simp only [Bool.not_eq_true', Bool.not_eq_false'] at h); (all_goals try first | (exact absurd h Bool.false_ne_true) | (exact absurd h.symm Bool.false_ne_true) | (exact absurd h (by decide))))
      | refine AWP.skip ?_
      | refine AWP.ret ?_
      | refine AWP.block ?_
      | refine AWP.exit ?_
      | refine ⟨_, h, ?_⟩
      | refine Or.inl ?_)
    | (clear hK K))
  all_goals (first | exact fun _ h => (by cases h) | refine fin0 ?_)
  all_goals (rw [Vt, encVal_eq]; rfl)
theorem refCons_c (a b : Val) : PC Try.prog 71 [Vt a, Vt b] (Vt (consVal a b)) := by
  refine PCB.of_body Try.func71 rfl (by decide) Try.ntmps71 Try.results71 rfl rfl rfl ?_ rfl rfl
  repeat' (first
    | (simp only [go_sem, zA, zB, zC, zD, zE, zF, zG, reduceCtorEq, zH, zI, zJ, zK, zL]; all_goals fail_if_success guard_target =ₛ False)
    | (with_reducible first
      | refine seqVC_stepN rfl fun K hK => ?_
      | refine seqVC_nil ?_
      | (refine hK _ _ _ ?_; clear hK K)
      | (refine hK _ _ ?_; clear hK K)
      | (refine hK _ ?_; clear hK K)
      | refine AWP.seq fun K hK => ?_
      | refine AWP.seqR (by kernel_rfl) fun K hK => ?_
      | (refine AWP.cond (by with_unfolding_all rfl) (fun h => ?_) (fun h => ?_); all_goals (try simp only [Bool.not_eq_true', Bool.not_eq_false'] at h); (all_goals try first | (exact absurd h Bool.false_ne_true) | (exact absurd h.symm Bool.false_ne_true) | (exact absurd h (by decide))))
      | refine AWP.skip ?_
      | refine AWP.ret ?_
      | refine AWP.block ?_
      | refine AWP.exit ?_
      | refine Or.inl ?_)
    | (clear hK K))
  all_goals (first | exact fun _ h => (by cases h) | refine fin0 ?_)
  all_goals (rw [Vt, encVal_eq (consVal a b)]; rfl)
/-- a leaf -/
def leafK (k : Int) (s : Src) : Val × Src :=
  bif decide (k = 0) then (intVal (numV s), nextS s 10) else
  bif decide (k = 1) then (atomVal (atomV s), nextS s 4) else
  bif decide (k = 2) then (strVal (wordV s), nextS s 4) else
  bif decide (k = 3) then (pidVal (nextV s 3), nextS s 3) else
  bif decide (k = 4) then (nilVal, s) else (tupVal [], s)
def leafV (s : Src) : Val × Src := leafK (nextV s 6) (nextS s 6)
theorem tup_nil : PC Try.prog 69 [.one (.dat (.sl 7 []))] (Vt (tupVal [])) := by
  have h := refTuple_c [] (by simp)
  rw [List.map_nil] at h
  exact h
theorem leaf_c (s : Src) (hs : s.ok) : PCB Try.prog 68 [Sp pin] [(pin, srcB s)] (Vt (leafV s).1) [(pin, srcB (leafV s).2)] := by
  have hv := nextV_in s (n := 6) (by omega)
  have hk : nextV s 6 = 0 ∨ nextV s 6 = 1 ∨ nextV s 6 = 2 ∨ nextV s 6 = 3 ∨ nextV s 6 = 4 ∨ nextV s 6 = 5 := by omega
  have hs1 := ok_next hs 6
  rcases hk with hk | hk | hk | hk | hk | hk
  all_goals (rw [leafV, hk])
  all_goals
    refine PCB.of_body Try.func68 rfl (by decide) Try.ntmps68 Try.results68 rfl rfl rfl ?_ rfl rfl
    repeat' (first
      | (simp only [go_sem, zA, zB, zC, zD, zE, zF, zG, reduceCtorEq, zH, zI, zJ, zK, zL, pin, hk]; all_goals fail_if_success guard_target =ₛ False)
      | (with_reducible first
        | refine seqVC_stepN rfl fun K hK => ?_
        | refine seqVC_nil ?_
        | (refine hK _ _ _ ?_; clear hK K)
        | (refine hK _ _ ?_; clear hK K)
        | (refine hK _ ?_; clear hK K)
        | refine AWP.seq fun K hK => ?_
        | refine AWP.seqR (by kernel_rfl) fun K hK => ?_
        | (refine AWP.cond (by with_unfolding_all rfl) (fun h => ?_) (fun h => ?_); all_goals (try simp only [Bool.not_eq_true', Bool.not_eq_false'] at h); (all_goals try first | (exact absurd h Bool.false_ne_true) | (exact absurd h.symm Bool.false_ne_true) | (exact absurd h (by decide))))
        | refine AWP.skip ?_
        | refine AWP.ret ?_
        | refine AWP.block ?_
        | refine AWP.exit ?_
        | refine ⟨_, refInt_c _, ?_⟩
        | refine ⟨_, refAtomV_c _, ?_⟩
        | refine ⟨_, refString_c _, ?_⟩
        | refine ⟨_, refPid_c _, ?_⟩
        | refine ⟨_, refNil_c, ?_⟩
        | refine ⟨_, tup_nil, ?_⟩)
      | (refine ⟨1000000, _, _, _, next_k 1000000 _ (by repeat (first | with_reducible exact hs | with_reducible refine ok_next ?_ _)) _ (by omega), rfl, ?_⟩)
      | (refine ⟨1000000, _, _, _, number_k 1000000 _ hs1, rfl, ?_⟩)
      | (refine ⟨1000000, _, _, _, atomName_k 1000000 _ hs1, rfl, ?_⟩)
      | (refine ⟨1000000, _, _, _, word_k 1000000 _ hs1, rfl, ?_⟩)
      | (with_reducible first
        | refine Or.inl ?_)
      | (clear hK K))
  all_goals (first | refine ⟨rfl, fun x hx => ?_⟩ | refine fun x hx => ?_)
  all_goals (simp only [List.mem_singleton] at hx; subst hx; simp [leafK, pin])
theorem leaf_k (k : Nat) (s : Src) (hs : s.ok) : PCBk Try.prog 68 [Sp k] k (srcB s) (Vt (leafV s).1) (srcB (leafV s).2) := PCBk.mk k (leaf_c s hs)
theorem ok_leafK (k : Int) {s : Src} (h : s.ok) : (leafK k s).2.ok := by
  unfold leafK
  cases decide (k = 0) <;> cases decide (k = 1) <;> cases decide (k = 2) <;> cases decide (k = 3) <;> cases decide (k = 4) <;> first | exact h | exact ok_next h _
theorem ok_leaf {s : Src} (h : s.ok) : (leafV s).2.ok := ok_leafK _ (ok_next h 6)
/-- labels -/
def labL : List (List UInt8) := [[65], [66], [67]]
def labelV (s : Src) : List UInt8 := labL.getD (nextV s 3).toNat []
theorem label_c (s : Src) (hs : s.ok) : PCB Try.prog 75 [Sp pin] [(pin, srcB s)] (S (labelV s)) [(pin, srcB (nextS s 3))] := by
  refine PCB.of_body Try.func75 rfl (by decide) Try.ntmps75 Try.results75 rfl rfl rfl ?_ rfl rfl
  have hv := nextV_in s (n := 3) (by omega)
  repeat' (first
    | (simp only [go_sem, zA, zB, zC, zD, zE, zF, zG, reduceCtorEq, zH, zI, zJ, zK, zL, pin]; all_goals fail_if_success guard_target =ₛ False)
    | (with_reducible first
      | refine seqVC_stepN rfl fun K hK => ?_
      | refine seqVC_nil ?_
      | (refine hK _ _ _ ?_; clear hK K)
      | (refine hK _ _ ?_; clear hK K)
      | (refine hK _ ?_; clear hK K)
      | refine AWP.seq fun K hK => ?_
      | refine AWP.seqR (by kernel_rfl) fun K hK => ?_
      | (refine AWP.cond (by with_unfolding_all rfl) (fun h => ?_) (fun h => ?_); all_goals (try simp only [Bool.not_eq_true', Bool.not_eq_false'] at h); (all_goals try first | (exact absurd h Bool.false_ne_true) | (exact absurd h.symm Bool.false_ne_true) | (exact absurd h (by decide))))
      | refine AWP.skip ?_
      | refine AWP.ret ?_
      | refine AWP.block ?_
      | refine AWP.exit ?_)
    | (refine ⟨1000000, _, _, _, next_k 1000000 s hs 3 (by omega), rfl, ?_⟩)
    | ( refine ⟨hv.1, [.str (labelV s)], lit_get (fun x => [C.str x]) labL [] hv, ?_⟩)
    | (with_reducible first
      | refine Or.inl ?_)
    | (clear hK K))
  all_goals exact fun x hx => hx
theorem label_k (k : Nat) (s : Src) (hs : s.ok) : PCBk Try.prog 75 [Sp k] k (srcB s) (S (labelV s)) (srcB (nextS s 3)) := PCBk.mk k (label_c s hs)
/-- the first place at which p does not hold -/
def tw {α : Type} (p : α → Bool) : List α → Nat
  | [] => 0
  | x :: l => bif p x then 1 + tw p l else 0
theorem tw_step {α : Type} {p : α → Bool} {l : List α} {k : Nat} {x : α} (hx : l[k]? = some x) : tw p (l.drop k) = bif p x then 1 + tw p (l.drop (k + 1)) else 0 := by
  obtain ⟨h1, e1⟩ := List.getElem?_eq_some_iff.1 hx
  rw [List.drop_eq_getElem_cons h1, e1]; rfl
theorem tw_end {α : Type} {p : α → Bool} {l : List α} : tw p (l.drop l.length) = 0 := by rw [List.drop_length]; rfl
def putAt {α : Type} (k : Nat) (x : α) (l : List α) : List α := l.take k ++ [x] ++ l.drop k
theorem putAt_len {α : Type} (k : Nat) (x : α) (l : List α) : (putAt k x l).length = l.length + 1 := by
  unfold putAt; simp; omega
def insS (s : List (List UInt8)) (x : List UInt8) : List (List UInt8) :=
  bif decide (s[tw (fun y => Op.bytesLess y x) s]? = some x) then s else putAt (tw (fun y => Op.bytesLess y x) s) x s
def sortedV (l : List (List UInt8)) : List (List UInt8) := l.foldl insS []
theorem foldl_take {α β : Type} {f : β → α → β} {b : β} {l : List α} {k : Nat} {x : α} (hx : l[k]? = some x) : (l.take (k + 1)).foldl f b = f ((l.take k).foldl f b) x := by
  rw [List.take_add_one, hx]; simp
theorem insS_len (s : List (List UInt8)) (x : List UInt8) : (insS s x).length ≤ s.length + 1 := by
  unfold insS; cases decide (s[tw (fun y => Op.bytesLess y x) s]? = some x) <;> simp [putAt_len]
theorem take_map' {α : Type} (f : α → List C) (l : List α) (k : Nat) : List.take k (l.map f) = (l.take k).map f := by rw [List.map_take]
theorem drop_map' {α : Type} (f : α → List C) (l : List α) (k : Nat) : List.drop k (l.map f) = (l.drop k).map f := by rw [List.map_drop]
theorem str_put (s : List (List UInt8)) (k : Nat) (x : List UInt8) : (List.map encStr (s.take k) ++ [[C.str x]]) ++ List.map encStr (s.drop k) = (putAt k x s).map encStr := by
  unfold putAt; simp [encStr]
theorem str_end (s : List (List UInt8)) (x : List UInt8) : (List.map encStr s ++ [[C.str x]]) ++ List.map encStr (s.drop s.length) = (putAt s.length x s).map encStr := by
  unfold putAt; simp [encStr]
theorem sorted_c (l : List (List UInt8)) (hl : l.length ≤ 1000000) : PC Try.prog 76 [.one (.dat (.sl 1 (l.map encStr)))] (.one (.dat (.sl 1 ((sortedV l).map encStr)))) := by
  refine PCB.of_body Try.func76 rfl (by decide) Try.ntmps76 Try.results76 rfl rfl rfl ?_ rfl rfl
  repeat' (first
    | (simp only [go_sem, zA, zB, zC, zD, zE, zF, zG, reduceCtorEq, zH, zI, zJ, zK, zL, List.length_map]; all_goals fail_if_success guard_target =ₛ False)
    | (with_reducible first
      | refine seqVC_stepN rfl fun K hK => ?_
      | refine seqVC_stepG rfl (by with_unfolding_all rfl) fun K hK => ?_
      | refine seqVC_nil ?_
      | (refine hK _ _ _ ?_; clear hK K)
      | (refine hK _ _ ?_; clear hK K)
      | (refine hK _ ?_; clear hK K)
      | refine AWP.seq fun K hK => ?_
      | refine AWP.seqR (by kernel_rfl) fun K hK => ?_
      | refine parVC_stepN rfl fun K hK => ?_
      | refine parVC_stepG rfl (by with_unfolding_all rfl) fun K hK => ?_
      | refine parEVC_stepN rfl fun K hK => ?_
      | refine parEVC_stepG rfl (by with_unfolding_all rfl) fun K hK => ?_
      | refine genVC_stepN rfl fun K hK => ?_
      | refine genVC_stepG rfl (by with_unfolding_all rfl) fun K hK => ?_
      | refine parVC_nil ?_
      | refine parEVC_nil ?_
      | refine genVC_nil ?_
      | (refine AWP.cond (by with_unfolding_all rfl) (fun h => ?_) (fun h => ?_); all_goals (try simp only [Bool.not_eq_true', Bool.not_eq_false'] at h); (all_goals try first | (exact absurd h Bool.false_ne_true) | (exact absurd h.symm Bool.false_ne_true) | (exact absurd h (by decide))))
      | refine AWP.skip ?_
      | refine AWP.ret ?_
      | refine AWP.block ?_
      | refine AWP.exit ?_
      | (refine ⟨fun h => ?_, fun h => ?_⟩ <;> (try simp only [Bool.not_eq_true', Bool.not_eq_false'] at h) <;> try simp only [h])
      | (refine AWP.segP (id := 10) 6 mixed (by kernel_rfl) fun K hK => ?_; simp only [List.take_succ_cons, List.take_zero, List.drop_succ_cons, List.drop_zero])
      | refine AWP.parR mixed (by kernel_rfl) fun K hK => ?_
      | refine ⟨(by kernel_rfl : depB _ _ _ = true), ?_⟩
      | refine Or.inl ?_)
    | (clear hK K))
  refine AWP.gh (Gh.nilrow 3 900 rfl rfl rfl rfl) ?_
  refine AWP.gh (Gh.freeze 900 rfl rfl (by simp only [go_sem, zA, zB, zC, zD, zE, zF, zG, reduceCtorEq, zH, zI, zJ, zK, zL]) (by simp only [go_sem, zA, zB, zC, zD, zE, zF, zG, reduceCtorEq, zH, zI, zJ, zK, zL])) ?_
  simp only [go_sem, zA, zB, zC, zD, zE, zF, zG, reduceCtorEq, zH, zI, zJ, zK, zL]
  refine AWP.len 0 rfl fun hlen0 => ?_
  (try rw [List.length_map] at hlen0)
  refine AWP.range (S := List (List UInt8)) (l) encStr (fun k s => (4, I .i64 (k : Nat)) :: [(3, .one (.dat (.sl 1 (s.map encStr))))]) (fun k s => []) [0] [] (fun k s => Is s ((l.take k).foldl insS []) ∧ s.length ≤ k) ([]) (by simp only [go_sem, zA, zB, zC, zD, zE, zF, zG, reduceCtorEq, zH, zI, zJ, zK, zL]; exact Gh.to [] (by repeat (first | exact trivial | refine ⟨rfl, ?_⟩ | refine ⟨by (simp only [go_sem, zA, zB, zC, zD, zE, zF, zG, reduceCtorEq, zH, zI, zJ, zK, zL, List.length_append, List.length_map, List.length_cons, List.length_nil, Nat.zero_add]) <;> rfl, ?_⟩)) (by repeat (first | exact trivial | refine ⟨rfl, ?_⟩ | refine ⟨by (simp only [go_sem, zA, zB, zC, zD, zE, zF, zG, reduceCtorEq, zH, zI, zJ, zK, zL, List.length_append, List.length_map, List.length_cons, List.length_nil, Nat.zero_add]) <;> rfl, ?_⟩)) rfl rfl rfl) ?_ ?_ ?_
  · exact ⟨rfl, Nat.le_refl _⟩
  · intro k s x hlt hx hx' hb hok
    obtain ⟨hok, hsl⟩ := hok
    simp only [go_sem, zA, zB, zC, zD, zE, zF, zG, reduceCtorEq, zH, zI, zJ, zK, zL]
    repeat' (first
      | (simp only [go_sem, zA, zB, zC, zD, zE, zF, zG, reduceCtorEq, zH, zI, zJ, zK, zL, List.length_map, hb]; all_goals fail_if_success guard_target =ₛ False)
      | (with_reducible first
        | refine seqVC_stepN rfl fun K hK => ?_
        | refine seqVC_stepG rfl (by with_unfolding_all rfl) fun K hK => ?_
        | refine seqVC_nil ?_
        | (refine hK _ _ _ ?_; clear hK K)
        | (refine hK _ _ ?_; clear hK K)
        | (refine hK _ ?_; clear hK K)
        | refine AWP.seq fun K hK => ?_
        | refine AWP.seqR (by kernel_rfl) fun K hK => ?_
        | refine parVC_stepN rfl fun K hK => ?_
        | refine parVC_stepG rfl (by with_unfolding_all rfl) fun K hK => ?_
        | refine parEVC_stepN rfl fun K hK => ?_
        | refine parEVC_stepG rfl (by with_unfolding_all rfl) fun K hK => ?_
        | refine genVC_stepN rfl fun K hK => ?_
        | refine genVC_stepG rfl (by with_unfolding_all rfl) fun K hK => ?_
        | refine parVC_nil ?_
        | refine parEVC_nil ?_
        | refine genVC_nil ?_
        | (refine AWP.cond (by with_unfolding_all rfl) (fun h => ?_) (fun h => ?_); all_goals (try simp only [Bool.not_eq_true', Bool.not_eq_false'] at h); (all_goals try first | (exact absurd h Bool.false_ne_true) | (exact absurd h.symm Bool.false_ne_true) | (exact absurd h (by decide))))
        | refine AWP.skip ?_
        | refine AWP.ret ?_
        | refine AWP.block ?_
        | refine AWP.exit ?_
        | (refine ⟨fun h => ?_, fun h => ?_⟩ <;> (try simp only [Bool.not_eq_true', Bool.not_eq_false'] at h) <;> try simp only [h])
        | (refine AWP.segP (id := 10) 6 mixed (by kernel_rfl) fun K hK => ?_; simp only [List.take_succ_cons, List.take_zero, List.drop_succ_cons, List.drop_zero])
        | refine AWP.parR mixed (by kernel_rfl) fun K hK => ?_
        | refine ⟨(by kernel_rfl : depB _ _ _ = true), ?_⟩
        | refine Or.inl ?_)
      | (clear hK K))
    refine AWP.loopF (X := Nat) (fun j => [(5, I .i64 j)]) (fun j => []) [0, 3, 4] [] (fun j => j ≤ s.length ∧ tw (fun y => Op.bytesLess y x) s = j + tw (fun y => Op.bytesLess y x) (s.drop j)) (fun j => s.length - j) (0) (by simp only [go_sem, zA, zB, zC, zD, zE, zF, zG, reduceCtorEq, zH, zI, zJ, zK, zL]; exact Gh.to [] (by repeat (first | exact trivial | refine ⟨rfl, ?_⟩ | refine ⟨by (simp only [go_sem, zA, zB, zC, zD, zE, zF, zG, reduceCtorEq, zH, zI, zJ, zK, zL, List.length_append, List.length_map, List.length_cons, List.length_nil, Nat.zero_add]) <;> rfl, ?_⟩)) (by repeat (first | exact trivial | refine ⟨rfl, ?_⟩ | refine ⟨by (simp only [go_sem, zA, zB, zC, zD, zE, zF, zG, reduceCtorEq, zH, zI, zJ, zK, zL, List.length_append, List.length_map, List.length_cons, List.length_nil, Nat.zero_add]) <;> rfl, ?_⟩)) rfl rfl rfl) ?_ ?_
    · exact ⟨Nat.zero_le _, by simp⟩
    rintro j ⟨hj, hp⟩
    simp only [go_sem, zA, zB, zC, zD, zE, zF, zG, reduceCtorEq, zH, zI, zJ, zK, zL]
    by_cases hjl : j < s.length
    · obtain ⟨y, hy, hy', hbj, _⟩ := at_lt (enc := encStr) hjl
      rw [tw_step hy] at hp
      cases hz : Op.bytesLess y x <;> simp only [hz, cond_true, cond_false, Nat.add_zero] at hp
      · cases hyx : decide (y = x)
        ·
          repeat' (first
            | (simp only [go_sem, zA, zB, zC, zD, zE, zF, zG, reduceCtorEq, zH, zI, zJ, zK, zL, List.length_map, hbj, hb, hz, hyx, encStr, Int.toNat_natCast, List.drop_zero, List.take_length, take_map', drop_map', str_put, str_end]; all_goals fail_if_success guard_target =ₛ False)
            | (with_reducible first
              | refine seqVC_stepN rfl fun K hK => ?_
              | refine seqVC_stepG rfl (by with_unfolding_all rfl) fun K hK => ?_
              | refine seqVC_nil ?_
              | (refine hK _ _ _ ?_; clear hK K)
              | (refine hK _ _ ?_; clear hK K)
              | (refine hK _ ?_; clear hK K)
              | refine AWP.seq fun K hK => ?_
              | refine AWP.seqR (by kernel_rfl) fun K hK => ?_
              | refine parVC_stepN rfl fun K hK => ?_
              | refine parVC_stepG rfl (by with_unfolding_all rfl) fun K hK => ?_
              | refine parEVC_stepN rfl fun K hK => ?_
              | refine parEVC_stepG rfl (by with_unfolding_all rfl) fun K hK => ?_
              | refine genVC_stepN rfl fun K hK => ?_
              | refine genVC_stepG rfl (by with_unfolding_all rfl) fun K hK => ?_
              | refine parVC_nil ?_
              | refine parEVC_nil ?_
              | refine genVC_nil ?_
              | (refine AWP.cond (by with_unfolding_all rfl) (fun h => ?_) (fun h => ?_); all_goals (try simp only [Bool.not_eq_true', Bool.not_eq_false'] at h); (all_goals try first | (exact absurd h Bool.false_ne_true) | (exact absurd h.symm Bool.false_ne_true) | (exact absurd h (by decide))))
              | refine AWP.skip ?_
              | refine AWP.ret ?_
              | refine AWP.block ?_
              | refine AWP.exit ?_
              | (refine ⟨fun h => ?_, fun h => ?_⟩ <;> (try simp only [Bool.not_eq_true', Bool.not_eq_false'] at h) <;> try simp only [h])
              | refine ⟨by omega, encStr x, hx', ?_⟩
              | refine ⟨by omega, encStr y, hy', ?_⟩
              | (refine ⟨(by first | omega | (simp only [List.length_append, List.length_map, List.length_take, List.length_drop, List.length_cons, List.length_nil, List.length_replicate]; omega) : _ ≤ _), ?_⟩)
              | refine ⟨by omega, by omega, ?_⟩
              | (refine AWP.genR (id := 10) [6, 10] [48] mixed (by kernel_rfl) fun K hK => ?_; simp only [Bx.outs, Bx.drop, cond_true, cond_false, Nat.reduceBEq, go_sem])
              | refine AWP.parR mixed (by kernel_rfl) fun K hK => ?_
              | refine ⟨(by kernel_rfl : depB _ _ _ = true), ?_⟩
              | refine Or.inl ?_)
            | (clear hK K))
          all_goals (rw [wrap_succ hlt hlen0])
          all_goals (refine ⟨putAt j x s, ?_, ?_⟩)
          all_goals (try first
            | (refine Gh.trans (Gh.freeze 59 rfl rfl (by simp only [go_sem, zA, zB, zC, zD, zE, zF, zG, reduceCtorEq, zH, zI, zJ, zK, zL, List.length_map, List.length_append]) (by simp only [go_sem, zA, zB, zC, zD, zE, zF, zG, reduceCtorEq, zH, zI, zJ, zK, zL, List.length_map, List.length_append])) ?_; simp only [go_sem, zA, zB, zC, zD, zE, zF, zG, reduceCtorEq, zH, zI, zJ, zK, zL, List.length_map, List.length_append]; exact Gh.to [] (by repeat (first | exact trivial | refine ⟨rfl, ?_⟩ | refine ⟨by (simp only [go_sem, zA, zB, zC, zD, zE, zF, zG, reduceCtorEq, zH, zI, zJ, zK, zL, List.length_append, List.length_map, List.length_cons, List.length_nil, Nat.zero_add]) <;> rfl, ?_⟩)) (by repeat (first | exact trivial | refine ⟨rfl, ?_⟩ | refine ⟨by (simp only [go_sem, zA, zB, zC, zD, zE, zF, zG, reduceCtorEq, zH, zI, zJ, zK, zL, List.length_append, List.length_map, List.length_cons, List.length_nil, Nat.zero_add]) <;> rfl, ?_⟩)) rfl rfl rfl)
            | (exact Gh.to [] (by repeat (first | exact trivial | refine ⟨rfl, ?_⟩ | refine ⟨by (simp only [go_sem, zA, zB, zC, zD, zE, zF, zG, reduceCtorEq, zH, zI, zJ, zK, zL, List.length_append, List.length_map, List.length_cons, List.length_nil, Nat.zero_add]) <;> rfl, ?_⟩)) (by repeat (first | exact trivial | refine ⟨rfl, ?_⟩ | refine ⟨by (simp only [go_sem, zA, zB, zC, zD, zE, zF, zG, reduceCtorEq, zH, zI, zJ, zK, zL, List.length_append, List.length_map, List.length_cons, List.length_nil, Nat.zero_add]) <;> rfl, ?_⟩)) rfl rfl rfl))
          all_goals (refine ⟨?_, by rw [putAt_len]; omega⟩; rw [Is, foldl_take hx, ← hok, insS, hp, hy]; rw [show decide (some y = some x) = decide (y = x) from by simp, hyx]; try rfl)
        ·
          repeat' (first
            | (simp only [go_sem, zA, zB, zC, zD, zE, zF, zG, reduceCtorEq, zH, zI, zJ, zK, zL, List.length_map, hbj, hb, hz, hyx, encStr]; all_goals fail_if_success guard_target =ₛ False)
            | (with_reducible first
              | refine seqVC_stepN rfl fun K hK => ?_
              | refine seqVC_stepG rfl (by with_unfolding_all rfl) fun K hK => ?_
              | refine seqVC_nil ?_
              | (refine hK _ _ _ ?_; clear hK K)
              | (refine hK _ _ ?_; clear hK K)
              | (refine hK _ ?_; clear hK K)
              | refine AWP.seq fun K hK => ?_
              | refine AWP.seqR (by kernel_rfl) fun K hK => ?_
              | refine parVC_stepN rfl fun K hK => ?_
              | refine parVC_stepG rfl (by with_unfolding_all rfl) fun K hK => ?_
              | refine parEVC_stepN rfl fun K hK => ?_
              | refine parEVC_stepG rfl (by with_unfolding_all rfl) fun K hK => ?_
              | refine genVC_stepN rfl fun K hK => ?_
              | refine genVC_stepG rfl (by with_unfolding_all rfl) fun K hK => ?_
              | refine parVC_nil ?_
              | refine parEVC_nil ?_
              | refine genVC_nil ?_
              | (refine AWP.cond (by with_unfolding_all rfl) (fun h => ?_) (fun h => ?_); all_goals (try simp only [Bool.not_eq_true', Bool.not_eq_false'] at h); (all_goals try first | (exact absurd h Bool.false_ne_true) | (exact absurd h.symm Bool.false_ne_true) | (exact absurd h (by decide))))
              | refine AWP.skip ?_
              | refine AWP.ret ?_
              | refine AWP.block ?_
              | refine AWP.exit ?_
              | (refine ⟨fun h => ?_, fun h => ?_⟩ <;> (try simp only [Bool.not_eq_true', Bool.not_eq_false'] at h) <;> try simp only [h])
              | refine ⟨by omega, encStr x, hx', ?_⟩
              | refine ⟨by omega, encStr y, hy', ?_⟩
              | (refine AWP.segP (id := 10) 6 mixed (by kernel_rfl) fun K hK => ?_; simp only [List.take_succ_cons, List.take_zero, List.drop_succ_cons, List.drop_zero])
              | refine AWP.parR mixed (by kernel_rfl) fun K hK => ?_
              | refine ⟨(by kernel_rfl : depB _ _ _ = true), ?_⟩
              | refine Or.inl ?_)
            | (clear hK K))
          all_goals (rw [wrap_succ hlt hlen0])
          all_goals (refine ⟨s, ?_, Gh.to [] (by repeat (first | exact trivial | refine ⟨rfl, ?_⟩ | refine ⟨by (simp only [go_sem, zA, zB, zC, zD, zE, zF, zG, reduceCtorEq, zH, zI, zJ, zK, zL, List.length_append, List.length_map, List.length_cons, List.length_nil, Nat.zero_add]) <;> rfl, ?_⟩)) (by repeat (first | exact trivial | refine ⟨rfl, ?_⟩ | refine ⟨by (simp only [go_sem, zA, zB, zC, zD, zE, zF, zG, reduceCtorEq, zH, zI, zJ, zK, zL, List.length_append, List.length_map, List.length_cons, List.length_nil, Nat.zero_add]) <;> rfl, ?_⟩)) rfl rfl rfl⟩)
          all_goals (refine ⟨?_, by omega⟩; rw [Is, foldl_take hx, ← hok, insS, hp, hy]; rw [show decide (some y = some x) = decide (y = x) from by simp, hyx]; try rfl)
      ·
        repeat' (first
          | (simp only [go_sem, zA, zB, zC, zD, zE, zF, zG, reduceCtorEq, zH, zI, zJ, zK, zL, List.length_map, hbj, hz, encStr]; all_goals fail_if_success guard_target =ₛ False)
          | (with_reducible first
            | refine seqVC_stepN rfl fun K hK => ?_
            | refine seqVC_stepG rfl (by with_unfolding_all rfl) fun K hK => ?_
            | refine seqVC_nil ?_
            | (refine hK _ _ _ ?_; clear hK K)
            | (refine hK _ _ ?_; clear hK K)
            | (refine hK _ ?_; clear hK K)
            | refine AWP.seq fun K hK => ?_
            | refine AWP.seqR (by kernel_rfl) fun K hK => ?_
            | refine parVC_stepN rfl fun K hK => ?_
            | refine parVC_stepG rfl (by with_unfolding_all rfl) fun K hK => ?_
            | refine parEVC_stepN rfl fun K hK => ?_
            | refine parEVC_stepG rfl (by with_unfolding_all rfl) fun K hK => ?_
            | refine genVC_stepN rfl fun K hK => ?_
            | refine genVC_stepG rfl (by with_unfolding_all rfl) fun K hK => ?_
            | refine parVC_nil ?_
            | refine parEVC_nil ?_
            | refine genVC_nil ?_
            | (refine AWP.cond (by with_unfolding_all rfl) (fun h => ?_) (fun h => ?_); all_goals (try simp only [Bool.not_eq_true', Bool.not_eq_false'] at h); (all_goals try first | (exact absurd h Bool.false_ne_true) | (exact absurd h.symm Bool.false_ne_true) | (exact absurd h (by decide))))
            | refine AWP.skip ?_
            | refine AWP.ret ?_
            | refine AWP.block ?_
            | refine AWP.exit ?_
            | (refine ⟨fun h => ?_, fun h => ?_⟩ <;> (try simp only [Bool.not_eq_true', Bool.not_eq_false'] at h) <;> try simp only [h])
            | refine ⟨by omega, encStr x, hx', ?_⟩
            | refine ⟨by omega, encStr y, hy', ?_⟩
            | (refine AWP.segP (id := 10) 6 mixed (by kernel_rfl) fun K hK => ?_; simp only [List.take_succ_cons, List.take_zero, List.drop_succ_cons, List.drop_zero])
            | refine AWP.parR mixed (by kernel_rfl) fun K hK => ?_
            | refine ⟨(by kernel_rfl : depB _ _ _ = true), ?_⟩
            | refine Or.inl ?_)
          | (clear hK K))
        all_goals (rw [wrap_succ hjl (by omega)])
        all_goals (refine ⟨j + 1, by omega, ⟨by omega, by omega⟩, Gh.to [] (by repeat (first | exact trivial | refine ⟨rfl, ?_⟩ | refine ⟨by (simp only [go_sem, zA, zB, zC, zD, zE, zF, zG, reduceCtorEq, zH, zI, zJ, zK, zL, List.length_append, List.length_map, List.length_cons, List.length_nil, Nat.zero_add]) <;> rfl, ?_⟩)) (by repeat (first | exact trivial | refine ⟨rfl, ?_⟩ | refine ⟨by (simp only [go_sem, zA, zB, zC, zD, zE, zF, zG, reduceCtorEq, zH, zI, zJ, zK, zL, List.length_append, List.length_map, List.length_cons, List.length_nil, Nat.zero_add]) <;> rfl, ?_⟩)) rfl rfl rfl⟩)
    · have hjs : j = s.length := by omega
      subst hjs
      have hbj : decide ((s.length : Int) < (s.length : Int)) = false := by simp
      rw [tw_end, Nat.add_zero] at hp
      have hnone : s[s.length]? = none := by simp
      repeat' (first
        | (simp only [go_sem, zA, zB, zC, zD, zE, zF, zG, reduceCtorEq, zH, zI, zJ, zK, zL, List.length_map, hbj, hb, encStr, Int.toNat_natCast, List.drop_zero, List.take_length, take_map', drop_map', str_put, str_end]; all_goals fail_if_success guard_target =ₛ False)
        | (with_reducible first
          | refine seqVC_stepN rfl fun K hK => ?_
          | refine seqVC_stepG rfl (by with_unfolding_all rfl) fun K hK => ?_
          | refine seqVC_nil ?_
          | (refine hK _ _ _ ?_; clear hK K)
          | (refine hK _ _ ?_; clear hK K)
          | (refine hK _ ?_; clear hK K)
          | refine AWP.seq fun K hK => ?_
          | refine AWP.seqR (by kernel_rfl) fun K hK => ?_
          | refine parVC_stepN rfl fun K hK => ?_
          | refine parVC_stepG rfl (by with_unfolding_all rfl) fun K hK => ?_
          | refine parEVC_stepN rfl fun K hK => ?_
          | refine parEVC_stepG rfl (by with_unfolding_all rfl) fun K hK => ?_
          | refine genVC_stepN rfl fun K hK => ?_
          | refine genVC_stepG rfl (by with_unfolding_all rfl) fun K hK => ?_
          | refine parVC_nil ?_
          | refine parEVC_nil ?_
          | refine genVC_nil ?_
          | (refine AWP.cond (by with_unfolding_all rfl) (fun h => ?_) (fun h => ?_); all_goals (try simp only [Bool.not_eq_true', Bool.not_eq_false'] at h); (all_goals try first | (exact absurd h Bool.false_ne_true) | (exact absurd h.symm Bool.false_ne_true) | (exact absurd h (by decide))))
          | refine AWP.skip ?_
          | refine AWP.ret ?_
          | refine AWP.block ?_
          | refine AWP.exit ?_
          | (refine ⟨fun h => ?_, fun h => ?_⟩ <;> (try simp only [Bool.not_eq_true', Bool.not_eq_false'] at h) <;> try simp only [h])
          | refine ⟨by omega, encStr x, hx', ?_⟩
          | (refine ⟨(by first | omega | (simp only [List.length_append, List.length_map, List.length_take, List.length_drop, List.length_cons, List.length_nil, List.length_replicate]; omega) : _ ≤ _), ?_⟩)
          | refine ⟨by omega, by omega, ?_⟩
          | (refine AWP.genR (id := 10) [6, 10] [48] mixed (by kernel_rfl) fun K hK => ?_; simp only [Bx.outs, Bx.drop, cond_true, cond_false, Nat.reduceBEq, go_sem])
          | refine AWP.parR mixed (by kernel_rfl) fun K hK => ?_
          | refine ⟨(by kernel_rfl : depB _ _ _ = true), ?_⟩
          | refine Or.inl ?_)
        | (clear hK K))
      all_goals (rw [wrap_succ hlt hlen0])
      all_goals (refine ⟨putAt s.length x s, ?_, ?_⟩)
      all_goals (try first
        | (refine Gh.trans (Gh.freeze 59 rfl rfl (by simp only [go_sem, zA, zB, zC, zD, zE, zF, zG, reduceCtorEq, zH, zI, zJ, zK, zL, List.length_map, List.length_append]) (by simp only [go_sem, zA, zB, zC, zD, zE, zF, zG, reduceCtorEq, zH, zI, zJ, zK, zL, List.length_map, List.length_append])) ?_; simp only [go_sem, zA, zB, zC, zD, zE, zF, zG, reduceCtorEq, zH, zI, zJ, zK, zL, List.length_map, List.length_append]; exact Gh.to [] (by repeat (first | exact trivial | refine ⟨rfl, ?_⟩ | refine ⟨by (simp only [go_sem, zA, zB, zC, zD, zE, zF, zG, reduceCtorEq, zH, zI, zJ, zK, zL, List.length_append, List.length_map, List.length_cons, List.length_nil, Nat.zero_add]) <;> rfl, ?_⟩)) (by repeat (first | exact trivial | refine ⟨rfl, ?_⟩ | refine ⟨by (simp only [go_sem, zA, zB, zC, zD, zE, zF, zG, reduceCtorEq, zH, zI, zJ, zK, zL, List.length_append, List.length_map, List.length_cons, List.length_nil, Nat.zero_add]) <;> rfl, ?_⟩)) rfl rfl rfl)
        | (exact Gh.to [] (by repeat (first | exact trivial | refine ⟨rfl, ?_⟩ | refine ⟨by (simp only [go_sem, zA, zB, zC, zD, zE, zF, zG, reduceCtorEq, zH, zI, zJ, zK, zL, List.length_append, List.length_map, List.length_cons, List.length_nil, Nat.zero_add]) <;> rfl, ?_⟩)) (by repeat (first | exact trivial | refine ⟨rfl, ?_⟩ | refine ⟨by (simp only [go_sem, zA, zB, zC, zD, zE, zF, zG, reduceCtorEq, zH, zI, zJ, zK, zL, List.length_append, List.length_map, List.length_cons, List.length_nil, Nat.zero_add]) <;> rfl, ?_⟩)) rfl rfl rfl))
      all_goals (refine ⟨?_, by rw [putAt_len]; omega⟩; rw [Is, foldl_take hx, ← hok, insS, hp, hnone]; try rfl)
  · intro s hb hok
    simp only [go_sem, zA, zB, zC, zD, zE, zF, zG, reduceCtorEq, zH, zI, zJ, zK, zL]
    repeat' (first
      | (simp only [go_sem, zA, zB, zC, zD, zE, zF, zG, reduceCtorEq, zH, zI, zJ, zK, zL, List.length_map, hb]; all_goals fail_if_success guard_target =ₛ False)
      | (with_reducible first
        | refine seqVC_stepN rfl fun K hK => ?_
        | refine seqVC_stepG rfl (by with_unfolding_all rfl) fun K hK => ?_
        | refine seqVC_nil ?_
        | (refine hK _ _ _ ?_; clear hK K)
        | (refine hK _ _ ?_; clear hK K)
        | (refine hK _ ?_; clear hK K)
        | refine AWP.seq fun K hK => ?_
        | refine AWP.seqR (by kernel_rfl) fun K hK => ?_
        | refine parVC_stepN rfl fun K hK => ?_
        | refine parVC_stepG rfl (by with_unfolding_all rfl) fun K hK => ?_
        | refine parEVC_stepN rfl fun K hK => ?_
        | refine parEVC_stepG rfl (by with_unfolding_all rfl) fun K hK => ?_
        | refine genVC_stepN rfl fun K hK => ?_
        | refine genVC_stepG rfl (by with_unfolding_all rfl) fun K hK => ?_
        | refine parVC_nil ?_
        | refine parEVC_nil ?_
        | refine genVC_nil ?_
        | (refine AWP.cond (by with_unfolding_all rfl) (fun h => ?_) (fun h => ?_); all_goals (try simp only [Bool.not_eq_true', Bool.not_eq_false'] at h); (all_goals try first | (exact absurd h Bool.false_ne_true) | (exact absurd h.symm Bool.false_ne_true) | (exact absurd h (by decide))))
        | refine AWP.skip ?_
        | refine AWP.ret ?_
        | refine AWP.block ?_
        | refine AWP.exit ?_
        | (refine ⟨fun h => ?_, fun h => ?_⟩ <;> (try simp only [Bool.not_eq_true', Bool.not_eq_false'] at h) <;> try simp only [h])
        | (refine AWP.segP (id := 10) 6 mixed (by kernel_rfl) fun K hK => ?_; simp only [List.take_succ_cons, List.take_zero, List.drop_succ_cons, List.drop_zero])
        | refine AWP.parR mixed (by kernel_rfl) fun K hK => ?_
        | refine ⟨(by kernel_rfl : depB _ _ _ = true), ?_⟩
        | refine Or.inl ?_)
      | (clear hK K))
    all_goals (first | exact fun _ h => (by cases h) | refine fin0 ?_)
    all_goals (rw [show s = _ from hok.1, List.take_length]; rfl)
end Go.Proofs.Ytmpfdejckbceiaa
set_option linter.unusedSimpArgs false
set_option linter.unusedVariables false
set_option maxRecDepth 20000
set_option maxHeartbeats 4000000
namespace Go.Proofs.Ytmpfdejckbceiaa
open Go Go.Sx
open Nat renaming reduceBEq → zA, reduceBNe → zB, reduceAdd → zC, reduceSub → zD, reduceMul → zE, reduceLeDiff → zF, reduceLT → zG, reduceEqDiff → zH
open Int renaming reduceToNat → zI, reduceLE → zJ, reduceLT → zK, reduceEq → zL
/-- no datum of it has a contract -/
inductive NoNodes : Dat → Prop
  | mk (d : Dat) (h : d.nodes = []) (hk : ∀ k ∈ d.kids, NoNodes k) : NoNodes d
theorem NoNodes.nodes {d : Dat} (h : NoNodes d) : d.nodes = [] := by cases h; assumption
theorem NoNodes.kid {d : Dat} (h : NoNodes d) : ∀ k ∈ d.kids, NoNodes k := by cases h; assumption
end Go.Proofs.Ytmpfdejckbceiaa
set_option linter.unusedSimpArgs false
set_option linter.unusedVariables false
set_option maxRecDepth 20000
set_option maxHeartbeats 4000000
namespace Go.Proofs.Ytmpfdejckbceiaa
open Go Go.Sx
open Nat renaming reduceBEq → zA, reduceBNe → zB, reduceAdd → zC, reduceSub → zD, reduceMul → zE, reduceLeDiff → zF, reduceLT → zG, reduceEqDiff → zH
open Int renaming reduceToNat → zI, reduceLE → zJ, reduceLT → zK, reduceEq → zL
theorem eqKeyT (x y : KeyD) : eqStT Try.prog 6 59 (encKey x) (encKey y) = some (decide (x.kind = y.kind) && (decide (x.text = y.text) && true)) := by kernel_rfl
theorem keyEq (x y : KeyD) : (decide (x.kind = y.kind) && decide (x.text = y.text)) = decide (x = y) := by
  obtain ⟨a, b⟩ := x; obtain ⟨c, d⟩ := y
  rw [← Bool.coe_iff_coe]; simp
end Go.Proofs.Ytmpfdejckbceiaa
set_option linter.unusedVariables false
set_option linter.unusedSimpArgs false
namespace Go.Sx
variable {P : Program} {n : Nat} {σ : AS} {Q : Exit → AS → Prop}
theorem gen_sound2 {κ : Kap} {M0 : Mem} {l : List Oper} {fx : Nat → Bx} {t : Nat → T} {b : Nat → Bx} {e : Nat → Bool} {jn : Nat → Option Nat} {env0 : Env} {Q' : Exit → Act → World → Prop}
    (hback : Back l) (hpairs : Pairs l) (hord : EffOrdG l e)
    (hs : ∀ i o, l[i]? = some o → OSpecG P n l (fx i) o (envA l t (fun _ => true) env0 i) (b i) (t i) (b (i + 1)) (e i) (jn i)) (hf : ∀ i m, i < l.length → m ≤ l.length → (∀ j, j < m → e j = true → depB l j i = false) → ∀ x ∈ fx i, x ∈ b m)
    (hfr : ∀ g k j, jn g = some j → g < k → k < l.length → (t k).fresh j = true ∨ depB l k g = true)
    (hQ : ∀ a w, St κ M0 n ⟨envA l t (fun _ => true) env0 l.length, b l.length⟩ a w → Q' .normal a w) :
    ∀ (fuel : Nat) (listed : Array Bool) (a : Act) (w : World), cnt l listed = fuel → Mid κ M0 n l t b e env0 listed a w →
      wpAny P .any l.toArray Q' fuel listed a w := by
  have hbc : ∀ i, i < l.length → e i = false → b (i + 1) = b i := by
    intro i hi he
    rcases (hs i l[i] (by simp [hi])).2 with ⟨_, ⟨_, _, _, h⟩ | ⟨h, _⟩ | ⟨_, h, _⟩⟩ | ⟨_, _, h, _⟩
    · exact h
    · rw [he] at h; cases h
    · rw [he] at h; cases h
    · exact h
  have done : ∀ (listed : Array Bool) (a : Act) (w : World), Mid κ M0 n l t b e env0 listed a w → (∀ i, i < l.length → listed.getD i false = true) → Q' .normal a w := by
    intro listed a w hm hall
    obtain ⟨M, ν, m, h1, h2, h3, h4, h5, h6, h7, h8⟩ := hm.st
    refine hQ a w ⟨M, ν, h1, h2, h3, ?_, ?_⟩
    · intro d u hu
      refine h4 d u ?_
      rw [envA_same l t (xs listed) (fun _ => true) env0 d l.length (fun j o hj _ _ => hall j hj)]
      exact hu
    · have : b l.length = b m := const_b hbc m l.length h5 (Nat.le_refl _) (fun j hj1 hj2 => by
        cases hj : e j with
        | false => rfl
        | true => have := (h6 j hj2 hj).1 (hall j hj2); omega)
      simp only [this]
      exact ⟨h7, h8⟩
  have hord' : ∀ listed : Array Bool, Closed l listed → ∀ i j, i < j → j < l.length → e i = true → e j = true → listed.getD j false = true → listed.getD i false = true := by
    intro listed hc i j hij hj hei hej hx
    exact dep_of (hord i j hij hj hei hej) (List.getElem?_eq_getElem hj) hc (fun e' he' hb' => hc j l[j] (List.getElem?_eq_getElem hj) hx e' he' hb')
  intro fuel
  induction fuel with
  | zero =>
    intro listed a w hfuel hm
    have hall := cnt_zero hfuel
    exact ⟨ready_none hm.size hall, done listed a w hm hall⟩
  | succ fuel ih =>
    intro listed a w hfuel hm
    refine ⟨fun hr => done listed a w hm (ready_least hback hm.size hr), fun i hi => ?_⟩
    obtain ⟨h0, oi, hoi, hall⟩ := mem_ready.1 hi
    have hil : i < l.length := by have := (Array.getElem?_eq_some_iff.1 hoi).1; simpa using this
    have hoi' : l[i]? = some oi := by simpa using hoi
    have hisz : i < listed.size := by rw [hm.size]; exact hil
    have hxi : listed.getD i false = false := by simp [hisz] at h0 ⊢; exact h0
    obtain ⟨M, ν, m, h1, h2, h3, h4, h5, h6, h7, h8⟩ := hm.st
    obtain ⟨hd, hspec⟩ := hs i oi hoi'
    have look : ∀ d, d ∈ oi.looksAt l.toArray → (envA l t (xs listed) env0 l.length).lookup d = (envA l t (fun _ => true) env0 i).lookup d := by
      intro d hdm
      rw [envA_skip l t (xs listed) env0 d i l.length (by omega) ?_, envA_same l t (xs listed) (fun _ => true) env0 d i ?_]
      · intro j o hj ho hod
        rcases hpairs j i o oi hj ho hoi' with ⟨e', he', hb', hon⟩ | hap
        · exact hon ▸ hall e' he' hb'
        · exact absurd hdm ((Oper.apart_spec hap).1 d hod)
      · intro j o hj hjl ho hod
        by_cases hji : i = j
        · subst hji; exact hxi
        · cases hxj : xs listed j with
          | false => rfl
          | true =>
            rcases hpairs i j oi o (by omega) hoi' ho with ⟨e', he', hb', hon⟩ | hap
            · have := hm.closed j o ho hxj e' he' hb'
              rw [hon, hxi] at this; cases this
            · exact absurd hdm ((Oper.apart_spec hap).2.2 d hod)
    have hclosed : Closed l (listed.setIfInBounds i true) := by
      intro j oj hj hx e' he' hb'
      by_cases hji : i = j
      · subst hji
        rw [hoi'] at hj; cases hj
        exact getD_set_true (hall e' he' hb')
      · rw [getD_set_ne false hji] at hx
        exact getD_set_true (hm.closed j oj hj hx e' he' hb')
    have hcount : cnt l (listed.setIfInBounds i true) = fuel := by
      have := cnt_set hm.size hil hxi; omega
    have after : ∀ (M' : Mem) (ν' : Nu) (v : Value) (w' : World) (m' : Nat), M.ext κ M' → EnvOk M ν' a.tmps (envA l t (xs listed) env0 l.length) → (t i).rep M' ν' v → m' ≤ l.length →
        (∀ j, j < l.length → e j = true → ((listed.setIfInBounds i true).getD j false = true ↔ j < m')) → Sat κ M' ν' (b m') w' → (∀ k, pin ≤ k → ν' k = κ.nu k) →
        Mid κ M0 n l t b e env0 (listed.setIfInBounds i true) (a.put oi.dst v) w' := by
      intro M' ν' v w' m' hle h4 hr hm' hem hsat hpin
      refine ⟨by simpa using hm.size, hclosed, M', ν', m', h1.trans hle, by rw [Act.put_size]; exact h2, by rw [Act.put_defers']; exact h3, ?_, hm', hem, hsat, hpin⟩
      have hput := EnvOk.put (df := a.defers) (h4.mono hle.1) (dst := oi.dst) (v := v) (t := t i) (fun d he => by rw [h2]; exact dstOk_spec hd d he) hr
      intro k u hu
      refine hput k u ?_
      rw [putE_lookup]
      by_cases hk : oi.dst = some k
      · rw [if_pos hk]
        have e1 := envA_skip l t (xs (listed.setIfInBounds i true)) env0 k (i + 1) l.length (by omega) (fun j o hj hjl ho hod => by
          cases hxj : xs (listed.setIfInBounds i true) j with
          | false => rfl
          | true =>
            have hne : i ≠ j := by omega
            have hxj' : listed.getD j false = true := by rw [← getD_set_ne false hne]; exact hxj
            rcases hpairs i j oi o (by omega) hoi' ho with ⟨e', he', hb', hon⟩ | hap
            · have := hm.closed j o ho hxj' e' he' hb'
              rw [hon, hxi] at this; cases this
            · exact absurd hod ((Oper.apart_spec hap).2.1 k hk))
        rw [e1] at hu
        have hself : xs (listed.setIfInBounds i true) i = true := by simp [xs, hisz]
        rw [envA, hself] at hu
        simp only [cond_true, putE_lookup, hoi', Option.bind_some, hk, if_true] at hu
        exact hu
      · rw [if_neg hk]
        have e2 := envA_same l t (xs (listed.setIfInBounds i true)) (xs listed) env0 k l.length (fun j o hj ho hod => by
          have hne : i ≠ j := fun h => by subst h; rw [hoi'] at ho; cases ho; exact hk hod
          exact getD_set_ne false hne)
        rw [← e2]; exact hu
    have hon : EnvOn M ν a (envA l t (fun _ => true) env0 i) oi := by
      intro d u hdo hu
      refine h4 d u ?_
      rw [look d (looksAt_op hdo)]; exact hu
    have hgd : ∀ g want d u, oi.guard = some (g, want) → (l[g]?).bind (·.dst) = some d → (envA l t (fun _ => true) env0 i).lookup d = some u → u.rep M ν (a.tmps.getD d undef) := by
      intro g want d u hg hgd hu
      refine h4 d u ?_
      rw [look d (looksAt_guard hg hgd)]; exact hu
    have samem : e i = false → ∀ j, j < l.length → e j = true → ((listed.setIfInBounds i true).getD j false = true ↔ j < m) := by
      intro hei j hj hej
      have hne : i ≠ j := fun h => by subst h; rw [hei] at hej; cases hej
      rw [getD_set_ne false hne]; exact h6 j hj hej
    -- what an operation that turns boxes finds and leaves
    have effm : e i = true → b i = b m ∧ ∀ j, j < l.length → e j = true → ((listed.setIfInBounds i true).getD j false = true ↔ j < i + 1) := by
      intro hei
      have hmi : m ≤ i := by
        rcases Nat.lt_or_ge i m with h | h
        · have := (h6 i hil hei).2 h; rw [hxi] at this; cases this
        · exact h
      have prev : ∀ j, j < i → e j = true → listed.getD j false = true := by
        intro j hj hej
        have hself : (listed.setIfInBounds i true).getD i false = true := by simp [hisz]
        have := hord' _ hclosed j i hj hil hej hei hself
        rwa [getD_set_ne false (by omega)] at this
      refine ⟨const_b hbc m i hmi (by omega) (fun j hj1 hj2 => by
        cases hj : e j with
        | false => rfl
        | true => have := (h6 j (by omega) hj).1 (prev j hj2 hj); omega), fun j hj hej => ?_⟩
      by_cases hji : i = j
      · subst hji; simp [hisz]
      · rw [getD_set_ne false hji]
        constructor
        · intro hx
          rcases Nat.lt_or_ge i j with h | h
          · have := hord' _ hm.closed i j h hj hei hej hx
            rw [hxi] at this; cases this
          · omega
        · intro hx
          exact prev j (by omega) hej
    unfold wpOp
    rw [hoi]
    simp only []
    rcases hspec with ⟨hg, ⟨hei, hjn, hop, hbb⟩ | ⟨hei, hjn, hop⟩ | ⟨k, hei, hjn, hop, hkp, hfk⟩⟩ | ⟨hg, ht, hbb, hei, hjn⟩
    · rw [if_pos (wanted_of hg hgd)]
      left
      refine Oper.wp_mono_Q (Oper.wp_mono ?_ (hop κ M ν a w (b m) (hf i m hil h5 (fun j hj hej => by
        cases hdp : depB l j i with
        | false => rfl
        | true =>
          have hjl : j < l.length := by omega
          have hlj := (h6 j hjl hej).2 hj
          have := dep_of hdp (List.getElem?_eq_getElem hjl) hm.closed (fun e' he' hb' => hm.closed j l[j] (List.getElem?_eq_getElem hjl) hlj e' he' hb')
          rw [hxi] at this; cases this)) hon h7))
      rintro a' w' ⟨v, M', rfl, hle, hr, hsat⟩
      exact ih _ _ _ hcount (after M' ν v w' m hle h4 hr h5 (samem hei) hsat h8)
    · rw [if_pos (wanted_of hg hgd)]
      left
      obtain ⟨hbm, hem⟩ := effm hei
      refine Oper.wp_mono_Q (Oper.wp_mono ?_ (hop κ M ν a w hon (by rw [hbm]; exact h7)))
      rintro a' w' ⟨v, M', rfl, hle, hr, hsat⟩
      exact ih _ _ _ hcount (after M' ν v w' (i + 1) hle h4 hr hil hem hsat h8)
    · rw [if_pos (wanted_of hg hgd)]
      left
      obtain ⟨hbm, hem⟩ := effm hei
      refine Oper.wp_mono_Q (Oper.wp_mono ?_ (hop κ M ν a w hon (by rw [hbm]; exact h7)))
      rintro a' w' ⟨v, M', ν', rfl, hle, hν, hr, hsat⟩
      obtain ⟨hf0, hft⟩ := fresh_envA i hfk
      have hfresh : Env.fresh k (envA l t (xs listed) env0 l.length) = true := by
        refine envA_fresh' hf0 l.length (fun q hq hx hdq => ?_)
        rcases Nat.lt_trichotomy q i with h | h | h
        · exact hft q h hdq
        · subst h; unfold xs at hx; rw [hxi] at hx; cases hx
        · rcases hfr i q k hjn h hq with h' | h'
          · exact h'
          · exfalso
            have := dep_of h' (List.getElem?_eq_getElem hq) hm.closed (fun e' he' hb' => hm.closed q l[q] (List.getElem?_eq_getElem hq) hx e' he' hb')
            rw [hxi] at this; cases this
      exact ih _ _ _ hcount (after M' ν' v w' (i + 1) hle (h4.fresh hfresh hν) hr hil hem hsat (fun q hq => by rw [hν q (by omega)]; exact h8 q hq))
    · rw [unwanted_of hg hgd]
      simp only [Bool.false_eq_true, if_false]
      refine ih _ _ _ hcount (after M ν undef w m (Mem.ext.refl κ M) h4 (by rw [ht]; simp [undefT, T.rep, Cell.rep, C.rep]) h5 (samem hei) h7 h8)

/-- all that is done from j0 on waits for the operation i -/
def earlyB (all : List Oper) (es : List Nat) (j0 i : Nat) : Bool := es.all fun e => Nat.blt e j0 || depB all e i
def fxOf (ear : List Nat) (fixB fixC : Bx) (i : Nat) : Bx := bif memN i ear then fixC else fixB
def genVC2 (P : Program) (all : List Oper) (es ear : List Nat) (fixB : Bx) (j0 : Nat) (fixC : Bx) : Nat → List (Nat × Nat) → List Oper → Env → Bx → (Env → Bx → Prop) → Prop
  | _, _, [], env, B, K => K env B
  | i, gs, o :: os, env, B, K => guardT all env o
      (bif memN i es then effVC P o env B fun t B' => bxSub B' fixB ∧ (bif decide (i < j0) then bxSub B' fixC else True) ∧ FreshOr all i t gs ∧ genVC2 P all es ear fixB j0 fixC (i + 1) (gsNext i o gs) os (putE env o.dst t) B' K
       else pureVC P o env (fxOf ear fixB fixC i) fun t => FreshOr all i t gs ∧ genVC2 P all es ear fixB j0 fixC (i + 1) gs os (putE env o.dst t) B K)
      (genVC2 P all es ear fixB j0 fixC (i + 1) gs os (putE env o.dst undefT) B K)
theorem gen_trace2 (all : List Oper) (es ear : List Nat) (fixB : Bx) (j0 : Nat) (fixC : Bx) (K : Env → Bx → Prop) : ∀ (l : List Oper) (i0 : Nat) (gs : List (Nat × Nat)) (env : Env) (B : Bx), dstsOk n l = true → (∀ x ∈ fixB, x ∈ B) → (i0 ≤ j0 → ∀ x ∈ fixC, x ∈ B) → genVC2 P all es ear fixB j0 fixC i0 gs l env B K →
    ∃ (t : Nat → T) (b : Nat → Bx) (e : Nat → Bool) (jn : Nat → Option Nat), b 0 = B ∧ (∀ i o, l[i]? = some o → OSpecG P n all (fxOf ear fixB fixC (i0 + i)) o (envA l t (fun _ => true) env i) (b i) (t i) (b (i + 1)) (e i) (jn i)) ∧
      (∀ i, i ≤ l.length → ∀ x ∈ fixB, x ∈ b i) ∧ (∀ i, i ≤ l.length → i0 + i ≤ j0 → ∀ x ∈ fixC, x ∈ b i) ∧ (∀ i, e i = true → memN (i0 + i) es = true) ∧ (∀ i, i < l.length → FreshOr all (i0 + i) (t i) gs) ∧
      (∀ g k j, jn g = some j → g < k → k < l.length → (t k).fresh j = true ∨ depB all (i0 + k) (i0 + g) = true) ∧ K (envA l t (fun _ => true) env l.length) (b l.length)
  | [], i0, gs, env, B, _, hB, hC, h => ⟨fun _ => undefT, fun _ => B, fun _ => false, fun _ => none, rfl, fun i o ho => by simp at ho, fun i _ => hB, fun i hi hx => hC (by omega), fun i h => (by cases h), fun i hi => by simp at hi, fun _ _ _ h => (by cases h), h⟩
  | o :: os, i0, gs, env, B, hd, hB, hC, h => by
    simp only [dstsOk, List.all_cons, Bool.and_eq_true] at hd
    obtain ⟨⟨hd1, hd2⟩, hd3⟩ := hd
    have step : ∃ (t0 : T) (B' : Bx) (e0 : Bool) (jz : Option Nat) (gs' : List (Nat × Nat)), OSpecG P n all (fxOf ear fixB fixC i0) o env B t0 B' e0 jz ∧ (∀ x ∈ fixB, x ∈ B') ∧ (i0 + 1 ≤ j0 → ∀ x ∈ fixC, x ∈ B') ∧ (e0 = true → memN i0 es = true) ∧ FreshOr all i0 t0 gs ∧
        (∀ p ∈ gs, p ∈ gs') ∧ (∀ j, jz = some j → (i0, j) ∈ gs') ∧ genVC2 P all es ear fixB j0 fixC (i0 + 1) gs' os (putE env o.dst t0) B' K := by
      rcases guardT_true h with ⟨hg, hx⟩ | ⟨hg, hx⟩
      · cases hm : memN i0 es with
        | true =>
          rw [hm] at hx
          simp only [cond_true] at hx
          have hcx : ∀ {B' : Bx}, (bif decide (i0 < j0) then bxSub B' fixC else True) → i0 + 1 ≤ j0 → bxSub B' fixC := by
            intro B' hc hx
            have : decide (i0 < j0) = true := by simp; omega
            rw [this] at hc; exact hc
          have sub : ∀ p ∈ gs, p ∈ gsNext i0 o gs := fun p hp => by unfold gsNext; cases makes o <;> simp [hp]
          rcases effVC_makes hx with ⟨t, hop, h1, hc, h2, h3⟩ | ⟨t, B', hop, h1, hc, h2, h3⟩ | ⟨hmk, t, B', hop, hfr, h1, hc, h2, h3⟩
          · refine ⟨t, B, true, none, _, ⟨hd1, .inl ⟨hg, .inr (.inl ⟨rfl, rfl, hop.e⟩)⟩⟩, hB, fun hx => hC (by omega), fun _ => rfl, h2, sub, fun j hj => (by cases hj), h3⟩
          · exact ⟨t, B', true, none, _, ⟨hd1, .inl ⟨hg, .inr (.inl ⟨rfl, rfl, hop⟩)⟩⟩, bxSub_spec h1, fun hx => bxSub_spec (hcx hc hx), fun _ => rfl, h2, sub, fun j hj => (by cases hj), h3⟩
          · refine ⟨t, B', true, some (dstN o), _, ⟨hd1, .inl ⟨hg, .inr (.inr ⟨dstN o, rfl, rfl, hop, Nat.le_of_ble_eq_true hd2, hfr⟩)⟩⟩, bxSub_spec h1, fun hx => bxSub_spec (hcx hc hx), fun _ => rfl, h2, sub, fun j hj => ?_, h3⟩
            cases hj
            unfold gsNext; rw [hmk]; simp
        | false =>
          rw [hm] at hx
          simp only [cond_false] at hx
          obtain ⟨t, hop, h2, h3⟩ := pureVC_sound hx
          exact ⟨t, B, false, none, gs, ⟨hd1, .inl ⟨hg, .inl ⟨rfl, rfl, hop, rfl⟩⟩⟩, hB, fun hx => hC (by omega), fun h => (by cases h), h2, fun _ h => h, fun j hj => (by cases hj), h3⟩
      · exact ⟨undefT, B, false, none, gs, ⟨hd1, .inr ⟨hg, rfl, rfl, rfl, rfl⟩⟩, hB, fun hx => hC (by omega), fun h => (by cases h), FreshOr_un gs, fun _ h => h, fun j hj => (by cases hj), hx⟩
    obtain ⟨t0, B', e0, jz, gs', hspec, hfix, hfixC, he0, hfr0, hsub, hj0, hk⟩ := step
    obtain ⟨t, b, e, jn, hb0, hs, hf, hfC, he, hfr, hjj, hK⟩ := gen_trace2 all es ear fixB j0 fixC K os (i0 + 1) gs' _ B' hd3 hfix hfixC hk
    refine ⟨fun i => match i with | 0 => t0 | i + 1 => t i, fun i => match i with | 0 => B | i + 1 => b i, fun i => match i with | 0 => e0 | i + 1 => e i, fun i => match i with | 0 => jz | i + 1 => jn i, rfl, ?_, ?_, ?_, ?_, ?_, ?_, ?_⟩
    · intro i o' ho
      cases i with
      | zero => simp at ho; subst ho; rw [← hb0] at hspec; exact hspec
      | succ i =>
        rw [envA_cons]
        have := hs i o' (by simpa using ho)
        rwa [show i0 + 1 + i = i0 + (i + 1) by omega] at this
    · intro i hi
      cases i with
      | zero => exact hB
      | succ i => exact hf i (by simpa using hi)
    · intro i hi hx
      cases i with
      | zero => exact hC (by omega)
      | succ i => exact hfC i (by simpa using hi) (by omega)
    · intro i hi
      cases i with
      | zero => exact he0 hi
      | succ i => have := he i hi; rwa [show i0 + 1 + i = i0 + (i + 1) by omega] at this
    · intro i hi
      cases i with
      | zero => exact hfr0
      | succ i =>
        have := hfr i (by simpa using hi)
        rw [show i0 + 1 + i = i0 + (i + 1) by omega] at this
        exact gen_trace.FreshOr_sub hsub this
    · intro g k j hg hgk hk'
      cases k with
      | zero => omega
      | succ k =>
        cases g with
        | zero =>
          have := FreshOr_spec (hfr k (by simpa using hk')) (i0, j) (hj0 j hg)
          rwa [show i0 + 1 + k = i0 + (k + 1) by omega] at this
        | succ g =>
          have := hjj g k j hg (by omega) (by simpa using hk')
          rwa [show i0 + 1 + k = i0 + (k + 1) by omega, show i0 + 1 + g = i0 + (g + 1) by omega] at this
    · rw [List.length_cons, envA_cons]; exact hK

/-- THE RULE: es: the operations that turn or make boxes; ks: the names of the boxes that they turn; of these, ks' before j0 -/
theorem AWP.genR2 {id : Nat} {l : List Oper} {env : Env} {B : Bx} (es ks : List Nat) (ear : List Nat) (j0 : Nat) (ks' : List Nat) (hm : P.follows .mixedOrders = true) (hl : (genOk n l es && ear.all fun i => earlyB l es j0 i) = true)
    (h : ∀ K : Env → Bx → Prop, (∀ e b, Q .normal ⟨e, b⟩ → K e b) → genVC2 P l es ear (Bx.outs B ks) j0 (Bx.outs B ks') 0 [] l env B K) : AWP P n (.region id l.toArray true) ⟨env, B⟩ Q := by
  rw [Bool.and_eq_true] at hl
  obtain ⟨hl, hear⟩ := hl
  simp only [genOk, Bool.and_eq_true] at hl
  intro κ M0 a w hs
  obtain ⟨hback, hpairs, _⟩ := lex_pairs hl.1
  obtain ⟨t, b, e, jn, hb0, hsp, hf, hfC, he, _, hjj, hK⟩ := gen_trace2 l es ear (Bx.outs B ks) j0 (Bx.outs B ks') _ l 0 [] env B hl.2.1 (fun x hx => Bx.outs_sub hx) (fun _ x hx => Bx.outs_sub hx) (h (fun e b => Q .normal ⟨e, b⟩) (fun _ _ k => k))
  have hord : EffOrdG l e := fun i k hik hk hei hek => esOk_spec hl.2.2 i (memN_spec (by simpa using he i hei)) k (memN_spec (by simpa using he k hek)) hik
  refine wp_region_any hm ?_
  have hsz : l.toArray.size = l.length := by simp
  rw [hsz]
  have hrep : ∀ j, (Array.replicate l.length false).getD j false = false := fun j => rep_getD _ j
  have hbc : ∀ i, i < l.length → e i = false → b (i + 1) = b i := by
    intro i hi hei
    rcases (hsp i l[i] (by simp [hi])).2 with ⟨_, ⟨_, _, _, h⟩ | ⟨h, _⟩ | ⟨_, h, _⟩⟩ | ⟨_, _, h, _⟩
    · exact h
    · rw [hei] at h; cases h
    · rw [hei] at h; cases h
    · exact h
  refine gen_sound2 (fx := fun i => fxOf ear (Bx.outs B ks) (Bx.outs B ks') i) hback hpairs hord (fun i o ho => by have := hsp i o ho; rwa [Nat.zero_add] at this) ?_ (fun g k j hg hgk hk => by have := hjj g k j hg hgk hk; simpa using this) (fun a w s => ⟨_, s, hK⟩) l.length _ a _ ?_ (mid_start (σ := ⟨env, B⟩) hb0 hs)
  · intro i m hi hm hdep x hx
    unfold fxOf at hx
    cases hE0 : memN i ear with
    | false => rw [hE0] at hx; exact hf m hm x hx
    | true =>
      have hE := List.all_eq_true.1 hear i (memN_spec hE0)
      rw [hE0] at hx
      simp only [cond_true] at hx
      rcases Nat.le_total m j0 with hmj | hmj
      · exact hfC m hm (by omega) x hx
      · have hno : ∀ j, j0 ≤ j → j < m → e j = false := by
          intro j hj1 hj2
          cases hej : e j with
          | false => rfl
          | true =>
            have hmem := memN_spec (he j hej)
            rw [Nat.zero_add] at hmem
            have h1 := List.all_eq_true.1 hE j hmem
            simp only [Bool.or_eq_true] at h1
            rcases h1 with h1 | h1
            · have : j < j0 := by simpa using h1
              omega
            · have := hdep j hj2 hej
              rw [h1] at this; cases this
        have hbb : b m = b j0 := by
          have := const_b hbc j0 m hmj hm (fun j hj1 hj2 => hno j hj1 hj2)
          first | exact this | exact this.symm
        rw [hbb]
        exact hfC j0 (by omega) (by omega) x hx
  · unfold cnt
    have hfil : (List.range l.length).filter (fun i => !(Array.replicate l.length false).getD i false) = List.range l.length := by
      rw [List.filter_eq_self]
      intro x _
      simp only [hrep x, Bool.not_false]
    rw [hfil, List.length_range]

theorem gen2VC_nil {all : List Oper} {es ear : List Nat} {fixB : Bx} {j0 : Nat} {fixC : Bx} {i : Nat} {gs : List (Nat × Nat)} {env : Env} {B : Bx} {K : Env → Bx → Prop} (h : K env B) : genVC2 P all es ear fixB j0 fixC i gs [] env B K := h
def genOpVC2 (P : Program) (all : List Oper) (es ear : List Nat) (fixB : Bx) (j0 : Nat) (fixC : Bx) (i : Nat) (gs : List (Nat × Nat)) (o : Oper) (env : Env) (B : Bx) (K' : List (Nat × Nat) → Env → Bx → Prop) : Prop :=
  bif memN i es then effVC P o env B fun t B' => bxSub B' fixB ∧ (bif decide (i < j0) then bxSub B' fixC else True) ∧ FreshOr all i t gs ∧ K' (gsNext i o gs) (putE env o.dst t) B'
  else pureVC P o env (fxOf ear fixB fixC i) fun t => FreshOr all i t gs ∧ K' gs (putE env o.dst t) B
theorem gen2VC_stepN {all os : List Oper} {es ear : List Nat} {fixB : Bx} {j0 : Nat} {fixC : Bx} {i : Nat} {gs : List (Nat × Nat)} {o : Oper} {env : Env} {B : Bx} {K : Env → Bx → Prop} (hg : o.guard = none)
    (h : ∀ K' : List (Nat × Nat) → Env → Bx → Prop, (∀ gs e b, genVC2 P all es ear fixB j0 fixC (i + 1) gs os e b K → K' gs e b) → genOpVC2 P all es ear fixB j0 fixC i gs o env B K') : genVC2 P all es ear fixB j0 fixC i gs (o :: os) env B K :=
  guardT_none hg (h (fun gs e b => genVC2 P all es ear fixB j0 fixC (i + 1) gs os e b K) fun _ _ _ q => q)
theorem gen2VC_stepG {all os : List Oper} {es ear : List Nat} {fixB : Bx} {j0 : Nat} {fixC : Bx} {i : Nat} {gs : List (Nat × Nat)} {o : Oper} {env : Env} {B : Bx} {K : Env → Bx → Prop} {j d : Nat} {want : Bool} (hg : o.guard = some (j, want)) (hd : (all[j]?).bind (·.dst) = some d)
    (h : ∀ K' : List (Nat × Nat) → Env → Bx → Prop, (∀ gs e b, genVC2 P all es ear fixB j0 fixC (i + 1) gs os e b K → K' gs e b) → guardE (env.lookup d) want (genOpVC2 P all es ear fixB j0 fixC i gs o env B K') (K' gs (putE env o.dst undefT) B)) : genVC2 P all es ear fixB j0 fixC i gs (o :: os) env B K :=
  guardT_some hg hd (h (fun gs e b => genVC2 P all es ear fixB j0 fixC (i + 1) gs os e b K) fun _ _ _ q => q)
attribute [go_sem] genOpVC2 fxOf
end Go.Sx
set_option linter.unusedSimpArgs false
set_option linter.unusedVariables false
set_option maxRecDepth 20000
set_option maxHeartbeats 4000000
namespace Go.Proofs.Ytmpfdejckbceiaa
open Go Go.Sx
open Nat renaming reduceBEq → zA, reduceBNe → zB, reduceAdd → zC, reduceSub → zD, reduceMul → zE, reduceLeDiff → zF, reduceLT → zG, reduceEqDiff → zH
open Int renaming reduceToNat → zI, reduceLE → zJ, reduceLT → zK, reduceEq → zL
/-- labels -/
def labelsV (s : Src) : List (List UInt8) × Src :=
  bif decide (nextV s 3 = 1) then
    (bif decide (nextV (nextS (nextS s 3) 3) 2 = 1) then (sortedV [labelV (nextS s 3), labelV (nextS (nextS (nextS s 3) 3) 2)], nextS (nextS (nextS (nextS s 3) 3) 2) 3)
     else (sortedV [labelV (nextS s 3)], nextS (nextS (nextS s 3) 3) 2))
  else ([], nextS s 3)
theorem ok_labels {s : Src} (h : s.ok) : (labelsV s).2.ok := by
  unfold labelsV
  cases decide (nextV s 3 = 1) <;> cases decide (nextV (nextS (nextS s 3) 3) 2 = 1) <;> (repeat (first | exact h | refine ok_next ?_ _))
theorem labels_c (s : Src) (hs : s.ok) : PCB Try.prog 45 [Sp pin] [(pin, srcB s)] (.one (.dat (.sl 1 ((labelsV s).1.map encStr)))) [(pin, srcB (labelsV s).2)] := by
  have h0 := sorted_c [] (by simp)
  have h1 := sorted_c [labelV (nextS s 3)] (by simp)
  have h2 := sorted_c [labelV (nextS s 3), labelV (nextS (nextS (nextS s 3) 3) 2)] (by simp)
  simp only [List.map_cons, List.map_nil, encStr] at h0 h1 h2
  refine PCB.of_body Try.func45 rfl (by decide) Try.ntmps45 Try.results45 rfl rfl rfl ?_ rfl rfl
  repeat' (first
    | (simp only [go_sem, zA, zB, zC, zD, zE, zF, zG, reduceCtorEq, zH, zI, zJ, zK, zL, pin]; all_goals fail_if_success guard_target =ₛ False)
    | (with_reducible first
      | refine seqVC_stepN rfl fun K hK => ?_
      | refine seqVC_nil ?_
      | (refine hK _ _ _ ?_; clear hK K)
      | (refine hK _ _ ?_; clear hK K)
      | (refine hK _ ?_; clear hK K)
      | refine AWP.seq fun K hK => ?_
      | refine AWP.seqR (by kernel_rfl) fun K hK => ?_
      | (refine AWP.cond (by with_unfolding_all rfl) (fun h => ?_) (fun h => ?_); all_goals (try simp only [Bool.not_eq_true', Bool.not_eq_false'] at h); (all_goals try first | (exact absurd h Bool.false_ne_true) | (exact absurd h.symm Bool.false_ne_true) | (exact absurd h (by decide))))
      | refine AWP.skip ?_
      | refine AWP.ret ?_
      | refine AWP.block ?_
      | refine AWP.exit ?_
      | refine ⟨_, h0, ?_⟩
      | refine ⟨_, h1, ?_⟩
      | refine ⟨_, h2, ?_⟩
      | (refine ⟨(by first | omega | (simp only [List.length_append, List.length_map, List.length_take, List.length_drop, List.length_cons, List.length_nil, List.length_replicate]; omega) : _ ≤ _), ?_⟩)
      | refine ⟨by omega, by omega, ?_⟩)
    | (refine ⟨1000000, _, _, _, next_k 1000000 _ (by repeat (first | with_reducible exact hs | with_reducible refine ok_next ?_ _)) _ (by omega), rfl, ?_⟩)
    | (refine ⟨1000000, _, _, _, label_k 1000000 _ (by repeat (first | with_reducible exact hs | with_reducible refine ok_next ?_ _)), rfl, ?_⟩)
    | (with_reducible first
      | refine Or.inl ?_)
    | (clear hK K))
  all_goals (simp only [labelsV, *, cond_true, cond_false])
  all_goals (first | refine ⟨rfl, fun x hx => ?_⟩ | refine ⟨trivial, fun x hx => ?_⟩)
  all_goals (simp only [List.mem_singleton] at hx; subst hx; simp [pin])
theorem labels_k (k : Nat) (s : Src) (hs : s.ok) : PCBk Try.prog 45 [Sp k] k (srcB s) (.one (.dat (.sl 1 ((labelsV s).1.map encStr)))) (srcB (labelsV s).2) := PCBk.mk k (labels_c s hs)
/-- entries -/
abbrev Ent := List Val × Bool × Val
def eqAtE (s : List Ent) (k : Nat) (x : Ent) : Bool := match s[k]? with
  | some y => decide (entC y x = 0)
  | none => false
def insE (s : List Ent) (x : Ent) : List Ent :=
  bif eqAtE s (tw (fun y => decide (entC y x < 0)) s) x then s else putAt (tw (fun y => decide (entC y x < 0)) s) x s
def entriesV (l : List Ent) : List Ent := l.foldl insE []
theorem ent_put (s : List Ent) (k : Nat) (x : Ent) : (List.map encEnt (s.take k) ++ [encEnt x]) ++ List.map encEnt (s.drop k) = (putAt k x s).map encEnt := by
  unfold putAt; simp
theorem ent_end (s : List Ent) (x : Ent) : (List.map encEnt s ++ [encEnt x]) ++ List.map encEnt (s.drop s.length) = (putAt s.length x s).map encEnt := by
  unfold putAt; simp
theorem refEnt_c (a b : Ent) : PC Try.prog 81 [.st (encEnt a), .st (encEnt b)] (I .i64 (entC a b)) := refEntries_c a b (fun x _ y => refCompare_c x y) (fun y => refCompare_c _ y)
theorem entries_c (l : List Ent) (hl : l.length ≤ 1000000) : PC Try.prog 107 [.one (.dat (.sl 9 (l.map encEnt)))] (.one (.dat (.sl 9 ((entriesV l).map encEnt)))) := by
  refine PCB.of_body Try.func107 rfl (by decide) Try.ntmps107 Try.results107 rfl rfl rfl ?_ rfl rfl
  repeat' (first
    | (simp only [go_sem, zA, zB, zC, zD, zE, zF, zG, reduceCtorEq, zH, zI, zJ, zK, zL, List.length_map]; all_goals fail_if_success guard_target =ₛ False)
    | (with_reducible first
      | refine seqVC_stepN rfl fun K hK => ?_
      | refine seqVC_stepG rfl (by with_unfolding_all rfl) fun K hK => ?_
      | refine seqVC_nil ?_
      | (refine hK _ _ _ ?_; clear hK K)
      | (refine hK _ _ ?_; clear hK K)
      | (refine hK _ ?_; clear hK K)
      | refine AWP.seq fun K hK => ?_
      | refine AWP.seqR (by kernel_rfl) fun K hK => ?_
      | refine parVC_stepN rfl fun K hK => ?_
      | refine parVC_stepG rfl (by with_unfolding_all rfl) fun K hK => ?_
      | refine parEVC_stepN rfl fun K hK => ?_
      | refine parEVC_stepG rfl (by with_unfolding_all rfl) fun K hK => ?_
      | refine genVC_stepN rfl fun K hK => ?_
      | refine genVC_stepG rfl (by with_unfolding_all rfl) fun K hK => ?_
      | refine parVC_nil ?_
      | refine parEVC_nil ?_
      | refine genVC_nil ?_
      | (refine AWP.cond (by with_unfolding_all rfl) (fun h => ?_) (fun h => ?_); all_goals (try simp only [Bool.not_eq_true', Bool.not_eq_false'] at h); (all_goals try first | (exact absurd h Bool.false_ne_true) | (exact absurd h.symm Bool.false_ne_true) | (exact absurd h (by decide))))
      | refine AWP.skip ?_
      | refine AWP.ret ?_
      | refine AWP.block ?_
      | refine AWP.exit ?_
      | (refine ⟨fun h => ?_, fun h => ?_⟩ <;> (try simp only [Bool.not_eq_true', Bool.not_eq_false'] at h) <;> try simp only [h])
      | (refine AWP.segP (id := 10) 6 mixed (by kernel_rfl) fun K hK => ?_; simp only [List.take_succ_cons, List.take_zero, List.drop_succ_cons, List.drop_zero])
      | refine AWP.parR mixed (by kernel_rfl) fun K hK => ?_
      | refine ⟨(by kernel_rfl : depB _ _ _ = true), ?_⟩
      | refine Or.inl ?_)
    | (clear hK K))
  refine AWP.gh (Gh.nilrow 3 900 rfl rfl rfl rfl) ?_
  refine AWP.gh (Gh.freeze 900 rfl rfl (by simp only [go_sem, zA, zB, zC, zD, zE, zF, zG, reduceCtorEq, zH, zI, zJ, zK, zL]) (by simp only [go_sem, zA, zB, zC, zD, zE, zF, zG, reduceCtorEq, zH, zI, zJ, zK, zL])) ?_
  simp only [go_sem, zA, zB, zC, zD, zE, zF, zG, reduceCtorEq, zH, zI, zJ, zK, zL]
  refine AWP.len 0 rfl fun hlen0 => ?_
  (try rw [List.length_map] at hlen0)
  refine AWP.range (S := List Ent) (l) encEnt (fun k s => (4, I .i64 (k : Nat)) :: [(3, .one (.dat (.sl 9 (s.map encEnt))))]) (fun k s => []) [0] [] (fun k s => Is s ((l.take k).foldl insE []) ∧ s.length ≤ k) ([]) (by simp only [go_sem, zA, zB, zC, zD, zE, zF, zG, reduceCtorEq, zH, zI, zJ, zK, zL]; exact Gh.to [] (by repeat (first | exact trivial | refine ⟨rfl, ?_⟩ | refine ⟨by (simp only [go_sem, zA, zB, zC, zD, zE, zF, zG, reduceCtorEq, zH, zI, zJ, zK, zL, List.length_append, List.length_map, List.length_cons, List.length_nil, Nat.zero_add]) <;> rfl, ?_⟩)) (by repeat (first | exact trivial | refine ⟨rfl, ?_⟩ | refine ⟨by (simp only [go_sem, zA, zB, zC, zD, zE, zF, zG, reduceCtorEq, zH, zI, zJ, zK, zL, List.length_append, List.length_map, List.length_cons, List.length_nil, Nat.zero_add]) <;> rfl, ?_⟩)) rfl rfl rfl) ?_ ?_ ?_
  · exact ⟨rfl, Nat.le_refl _⟩
  · intro k s x hlt hx hx' hb hok
    obtain ⟨hok, hsl⟩ := hok
    simp only [go_sem, zA, zB, zC, zD, zE, zF, zG, reduceCtorEq, zH, zI, zJ, zK, zL]
    repeat' (first
      | (simp only [go_sem, zA, zB, zC, zD, zE, zF, zG, reduceCtorEq, zH, zI, zJ, zK, zL, List.length_map, hb]; all_goals fail_if_success guard_target =ₛ False)
      | (with_reducible first
        | refine seqVC_stepN rfl fun K hK => ?_
        | refine seqVC_stepG rfl (by with_unfolding_all rfl) fun K hK => ?_
        | refine seqVC_nil ?_
        | (refine hK _ _ _ ?_; clear hK K)
        | (refine hK _ _ ?_; clear hK K)
        | (refine hK _ ?_; clear hK K)
        | refine AWP.seq fun K hK => ?_
        | refine AWP.seqR (by kernel_rfl) fun K hK => ?_
        | refine parVC_stepN rfl fun K hK => ?_
        | refine parVC_stepG rfl (by with_unfolding_all rfl) fun K hK => ?_
        | refine parEVC_stepN rfl fun K hK => ?_
        | refine parEVC_stepG rfl (by with_unfolding_all rfl) fun K hK => ?_
        | refine genVC_stepN rfl fun K hK => ?_
        | refine genVC_stepG rfl (by with_unfolding_all rfl) fun K hK => ?_
        | refine parVC_nil ?_
        | refine parEVC_nil ?_
        | refine genVC_nil ?_
        | (refine AWP.cond (by with_unfolding_all rfl) (fun h => ?_) (fun h => ?_); all_goals (try simp only [Bool.not_eq_true', Bool.not_eq_false'] at h); (all_goals try first | (exact absurd h Bool.false_ne_true) | (exact absurd h.symm Bool.false_ne_true) | (exact absurd h (by decide))))
        | refine AWP.skip ?_
        | refine AWP.ret ?_
        | refine AWP.block ?_
        | refine AWP.exit ?_
        | (refine ⟨fun h => ?_, fun h => ?_⟩ <;> (try simp only [Bool.not_eq_true', Bool.not_eq_false'] at h) <;> try simp only [h])
        | (refine AWP.segP (id := 10) 6 mixed (by kernel_rfl) fun K hK => ?_; simp only [List.take_succ_cons, List.take_zero, List.drop_succ_cons, List.drop_zero])
        | refine AWP.parR mixed (by kernel_rfl) fun K hK => ?_
        | refine ⟨(by kernel_rfl : depB _ _ _ = true), ?_⟩
        | refine Or.inl ?_)
      | (clear hK K))
    refine AWP.loopF (X := Nat) (fun j => [(5, I .i64 j)]) (fun j => []) [0, 3, 4] [] (fun j => j ≤ s.length ∧ tw (fun y => decide (entC y x < 0)) s = j + tw (fun y => decide (entC y x < 0)) (s.drop j)) (fun j => s.length - j) (0) (by simp only [go_sem, zA, zB, zC, zD, zE, zF, zG, reduceCtorEq, zH, zI, zJ, zK, zL]; exact Gh.to [] (by repeat (first | exact trivial | refine ⟨rfl, ?_⟩ | refine ⟨by (simp only [go_sem, zA, zB, zC, zD, zE, zF, zG, reduceCtorEq, zH, zI, zJ, zK, zL, List.length_append, List.length_map, List.length_cons, List.length_nil, Nat.zero_add]) <;> rfl, ?_⟩)) (by repeat (first | exact trivial | refine ⟨rfl, ?_⟩ | refine ⟨by (simp only [go_sem, zA, zB, zC, zD, zE, zF, zG, reduceCtorEq, zH, zI, zJ, zK, zL, List.length_append, List.length_map, List.length_cons, List.length_nil, Nat.zero_add]) <;> rfl, ?_⟩)) rfl rfl rfl) ?_ ?_
    · exact ⟨Nat.zero_le _, by simp⟩
    rintro j ⟨hj, hp⟩
    simp only [go_sem, zA, zB, zC, zD, zE, zF, zG, reduceCtorEq, zH, zI, zJ, zK, zL]
    by_cases hjl : j < s.length
    · obtain ⟨y, hy, hy', hbj, _⟩ := at_lt (enc := encEnt) hjl
      rw [tw_step hy] at hp
      have hcc := refEnt_c y x
      cases hz : decide (entC y x < 0) <;> simp only [hz, cond_true, cond_false, Nat.add_zero] at hp
      · cases hyx : decide (entC y x = 0)
        ·
          repeat' (first
            | (simp only [go_sem, zA, zB, zC, zD, zE, zF, zG, reduceCtorEq, zH, zI, zJ, zK, zL, List.length_map, hbj, hb, hz, hyx, Int.toNat_natCast, List.drop_zero, List.take_length, take_map', drop_map', ent_put, ent_end]; all_goals fail_if_success guard_target =ₛ False)
            | (with_reducible first
              | refine seqVC_stepN rfl fun K hK => ?_
              | refine seqVC_stepG rfl (by with_unfolding_all rfl) fun K hK => ?_
              | refine seqVC_nil ?_
              | (refine hK _ _ _ ?_; clear hK K)
              | (refine hK _ _ ?_; clear hK K)
              | (refine hK _ ?_; clear hK K)
              | refine AWP.seq fun K hK => ?_
              | refine AWP.seqR (by kernel_rfl) fun K hK => ?_
              | refine parVC_stepN rfl fun K hK => ?_
              | refine parVC_stepG rfl (by with_unfolding_all rfl) fun K hK => ?_
              | refine parEVC_stepN rfl fun K hK => ?_
              | refine parEVC_stepG rfl (by with_unfolding_all rfl) fun K hK => ?_
              | refine genVC_stepN rfl fun K hK => ?_
              | refine genVC_stepG rfl (by with_unfolding_all rfl) fun K hK => ?_
              | refine parVC_nil ?_
              | refine parEVC_nil ?_
              | refine genVC_nil ?_
              | (refine AWP.cond (by with_unfolding_all rfl) (fun h => ?_) (fun h => ?_); all_goals (try simp only [Bool.not_eq_true', Bool.not_eq_false'] at h); (all_goals try first | (exact absurd h Bool.false_ne_true) | (exact absurd h.symm Bool.false_ne_true) | (exact absurd h (by decide))))
              | refine AWP.skip ?_
              | refine AWP.ret ?_
              | refine AWP.block ?_
              | refine AWP.exit ?_
              | (refine ⟨fun h => ?_, fun h => ?_⟩ <;> (try simp only [Bool.not_eq_true', Bool.not_eq_false'] at h) <;> try simp only [h])
              | refine ⟨_, hcc, ?_⟩
              | refine ⟨by omega, encEnt x, hx', ?_⟩
              | refine ⟨by omega, encEnt y, hy', ?_⟩
              | (refine ⟨(by first | omega | (simp only [List.length_append, List.length_map, List.length_take, List.length_drop, List.length_cons, List.length_nil, List.length_replicate]; omega) : _ ≤ _), ?_⟩)
              | refine ⟨by omega, by omega, ?_⟩
              | (refine AWP.genR (id := 10) [6, 10] [50] mixed (by kernel_rfl) fun K hK => ?_; simp only [Bx.outs, Bx.drop, cond_true, cond_false, Nat.reduceBEq, go_sem])
              | refine AWP.parR mixed (by kernel_rfl) fun K hK => ?_
              | refine ⟨(by kernel_rfl : depB _ _ _ = true), ?_⟩
              | refine Or.inl ?_)
            | (clear hK K))
          all_goals (rw [wrap_succ hlt hlen0])
          all_goals (refine ⟨putAt j x s, ?_, ?_⟩)
          all_goals (try first
            | (refine Gh.trans (Gh.freeze 61 rfl rfl (by simp only [go_sem, zA, zB, zC, zD, zE, zF, zG, reduceCtorEq, zH, zI, zJ, zK, zL, List.length_map, List.length_append]) (by simp only [go_sem, zA, zB, zC, zD, zE, zF, zG, reduceCtorEq, zH, zI, zJ, zK, zL, List.length_map, List.length_append])) ?_; simp only [go_sem, zA, zB, zC, zD, zE, zF, zG, reduceCtorEq, zH, zI, zJ, zK, zL, List.length_map, List.length_append]; exact Gh.to [] (by repeat (first | exact trivial | refine ⟨rfl, ?_⟩ | refine ⟨by (simp only [go_sem, zA, zB, zC, zD, zE, zF, zG, reduceCtorEq, zH, zI, zJ, zK, zL, List.length_append, List.length_map, List.length_cons, List.length_nil, Nat.zero_add]) <;> rfl, ?_⟩)) (by repeat (first | exact trivial | refine ⟨rfl, ?_⟩ | refine ⟨by (simp only [go_sem, zA, zB, zC, zD, zE, zF, zG, reduceCtorEq, zH, zI, zJ, zK, zL, List.length_append, List.length_map, List.length_cons, List.length_nil, Nat.zero_add]) <;> rfl, ?_⟩)) rfl rfl rfl)
            | (exact Gh.to [] (by repeat (first | exact trivial | refine ⟨rfl, ?_⟩ | refine ⟨by (simp only [go_sem, zA, zB, zC, zD, zE, zF, zG, reduceCtorEq, zH, zI, zJ, zK, zL, List.length_append, List.length_map, List.length_cons, List.length_nil, Nat.zero_add]) <;> rfl, ?_⟩)) (by repeat (first | exact trivial | refine ⟨rfl, ?_⟩ | refine ⟨by (simp only [go_sem, zA, zB, zC, zD, zE, zF, zG, reduceCtorEq, zH, zI, zJ, zK, zL, List.length_append, List.length_map, List.length_cons, List.length_nil, Nat.zero_add]) <;> rfl, ?_⟩)) rfl rfl rfl))
          all_goals (refine ⟨?_, by rw [putAt_len]; omega⟩; rw [Is, foldl_take hx, ← hok, insE, hp]; simp only [eqAtE, hy, hyx]; try rfl)
        ·
          repeat' (first
            | (simp only [go_sem, zA, zB, zC, zD, zE, zF, zG, reduceCtorEq, zH, zI, zJ, zK, zL, List.length_map, hbj, hb, hz, hyx]; all_goals fail_if_success guard_target =ₛ False)
            | (with_reducible first
              | refine seqVC_stepN rfl fun K hK => ?_
              | refine seqVC_stepG rfl (by with_unfolding_all rfl) fun K hK => ?_
              | refine seqVC_nil ?_
              | (refine hK _ _ _ ?_; clear hK K)
              | (refine hK _ _ ?_; clear hK K)
              | (refine hK _ ?_; clear hK K)
              | refine AWP.seq fun K hK => ?_
              | refine AWP.seqR (by kernel_rfl) fun K hK => ?_
              | refine parVC_stepN rfl fun K hK => ?_
              | refine parVC_stepG rfl (by with_unfolding_all rfl) fun K hK => ?_
              | refine parEVC_stepN rfl fun K hK => ?_
              | refine parEVC_stepG rfl (by with_unfolding_all rfl) fun K hK => ?_
              | refine genVC_stepN rfl fun K hK => ?_
              | refine genVC_stepG rfl (by with_unfolding_all rfl) fun K hK => ?_
              | refine parVC_nil ?_
              | refine parEVC_nil ?_
              | refine genVC_nil ?_
              | (refine AWP.cond (by with_unfolding_all rfl) (fun h => ?_) (fun h => ?_); all_goals (try simp only [Bool.not_eq_true', Bool.not_eq_false'] at h); (all_goals try first | (exact absurd h Bool.false_ne_true) | (exact absurd h.symm Bool.false_ne_true) | (exact absurd h (by decide))))
              | refine AWP.skip ?_
              | refine AWP.ret ?_
              | refine AWP.block ?_
              | refine AWP.exit ?_
              | (refine ⟨fun h => ?_, fun h => ?_⟩ <;> (try simp only [Bool.not_eq_true', Bool.not_eq_false'] at h) <;> try simp only [h])
              | refine ⟨_, hcc, ?_⟩
              | refine ⟨by omega, encEnt x, hx', ?_⟩
              | refine ⟨by omega, encEnt y, hy', ?_⟩
              | (refine AWP.segP (id := 10) 6 mixed (by kernel_rfl) fun K hK => ?_; simp only [List.take_succ_cons, List.take_zero, List.drop_succ_cons, List.drop_zero])
              | refine AWP.parR mixed (by kernel_rfl) fun K hK => ?_
              | refine ⟨(by kernel_rfl : depB _ _ _ = true), ?_⟩
              | refine Or.inl ?_)
            | (clear hK K))
          all_goals (rw [wrap_succ hlt hlen0])
          all_goals (refine ⟨s, ?_, Gh.to [] (by repeat (first | exact trivial | refine ⟨rfl, ?_⟩ | refine ⟨by (simp only [go_sem, zA, zB, zC, zD, zE, zF, zG, reduceCtorEq, zH, zI, zJ, zK, zL, List.length_append, List.length_map, List.length_cons, List.length_nil, Nat.zero_add]) <;> rfl, ?_⟩)) (by repeat (first | exact trivial | refine ⟨rfl, ?_⟩ | refine ⟨by (simp only [go_sem, zA, zB, zC, zD, zE, zF, zG, reduceCtorEq, zH, zI, zJ, zK, zL, List.length_append, List.length_map, List.length_cons, List.length_nil, Nat.zero_add]) <;> rfl, ?_⟩)) rfl rfl rfl⟩)
          all_goals (refine ⟨?_, by omega⟩; rw [Is, foldl_take hx, ← hok, insE, hp]; simp only [eqAtE, hy, hyx]; try rfl)
      ·
        repeat' (first
          | (simp only [go_sem, zA, zB, zC, zD, zE, zF, zG, reduceCtorEq, zH, zI, zJ, zK, zL, List.length_map, hbj, hz]; all_goals fail_if_success guard_target =ₛ False)
          | (with_reducible first
            | refine seqVC_stepN rfl fun K hK => ?_
            | refine seqVC_stepG rfl (by with_unfolding_all rfl) fun K hK => ?_
            | refine seqVC_nil ?_
            | (refine hK _ _ _ ?_; clear hK K)
            | (refine hK _ _ ?_; clear hK K)
            | (refine hK _ ?_; clear hK K)
            | refine AWP.seq fun K hK => ?_
            | refine AWP.seqR (by kernel_rfl) fun K hK => ?_
            | refine parVC_stepN rfl fun K hK => ?_
            | refine parVC_stepG rfl (by with_unfolding_all rfl) fun K hK => ?_
            | refine parEVC_stepN rfl fun K hK => ?_
            | refine parEVC_stepG rfl (by with_unfolding_all rfl) fun K hK => ?_
            | refine genVC_stepN rfl fun K hK => ?_
            | refine genVC_stepG rfl (by with_unfolding_all rfl) fun K hK => ?_
            | refine parVC_nil ?_
            | refine parEVC_nil ?_
            | refine genVC_nil ?_
            | (refine AWP.cond (by with_unfolding_all rfl) (fun h => ?_) (fun h => ?_); all_goals (try simp only [Bool.not_eq_true', Bool.not_eq_false'] at h); (all_goals try first | (exact absurd h Bool.false_ne_true) | (exact absurd h.symm Bool.false_ne_true) | (exact absurd h (by decide))))
            | refine AWP.skip ?_
            | refine AWP.ret ?_
            | refine AWP.block ?_
            | refine AWP.exit ?_
            | (refine ⟨fun h => ?_, fun h => ?_⟩ <;> (try simp only [Bool.not_eq_true', Bool.not_eq_false'] at h) <;> try simp only [h])
            | refine ⟨_, hcc, ?_⟩
            | refine ⟨by omega, encEnt x, hx', ?_⟩
            | refine ⟨by omega, encEnt y, hy', ?_⟩
            | (refine AWP.segP (id := 10) 6 mixed (by kernel_rfl) fun K hK => ?_; simp only [List.take_succ_cons, List.take_zero, List.drop_succ_cons, List.drop_zero])
            | refine AWP.parR mixed (by kernel_rfl) fun K hK => ?_
            | refine ⟨(by kernel_rfl : depB _ _ _ = true), ?_⟩
            | refine Or.inl ?_)
          | (clear hK K))
        all_goals (rw [wrap_succ hjl (by omega)])
        all_goals (refine ⟨j + 1, by omega, ⟨by omega, by omega⟩, Gh.to [] (by repeat (first | exact trivial | refine ⟨rfl, ?_⟩ | refine ⟨by (simp only [go_sem, zA, zB, zC, zD, zE, zF, zG, reduceCtorEq, zH, zI, zJ, zK, zL, List.length_append, List.length_map, List.length_cons, List.length_nil, Nat.zero_add]) <;> rfl, ?_⟩)) (by repeat (first | exact trivial | refine ⟨rfl, ?_⟩ | refine ⟨by (simp only [go_sem, zA, zB, zC, zD, zE, zF, zG, reduceCtorEq, zH, zI, zJ, zK, zL, List.length_append, List.length_map, List.length_cons, List.length_nil, Nat.zero_add]) <;> rfl, ?_⟩)) rfl rfl rfl⟩)
    · have hjs : j = s.length := by omega
      subst hjs
      have hbj : decide ((s.length : Int) < (s.length : Int)) = false := by simp
      rw [tw_end, Nat.add_zero] at hp
      have hnone : s[s.length]? = none := by simp
      repeat' (first
        | (simp only [go_sem, zA, zB, zC, zD, zE, zF, zG, reduceCtorEq, zH, zI, zJ, zK, zL, List.length_map, hbj, hb, Int.toNat_natCast, List.drop_zero, List.take_length, take_map', drop_map', ent_put, ent_end]; all_goals fail_if_success guard_target =ₛ False)
        | (with_reducible first
          | refine seqVC_stepN rfl fun K hK => ?_
          | refine seqVC_stepG rfl (by with_unfolding_all rfl) fun K hK => ?_
          | refine seqVC_nil ?_
          | (refine hK _ _ _ ?_; clear hK K)
          | (refine hK _ _ ?_; clear hK K)
          | (refine hK _ ?_; clear hK K)
          | refine AWP.seq fun K hK => ?_
          | refine AWP.seqR (by kernel_rfl) fun K hK => ?_
          | refine parVC_stepN rfl fun K hK => ?_
          | refine parVC_stepG rfl (by with_unfolding_all rfl) fun K hK => ?_
          | refine parEVC_stepN rfl fun K hK => ?_
          | refine parEVC_stepG rfl (by with_unfolding_all rfl) fun K hK => ?_
          | refine genVC_stepN rfl fun K hK => ?_
          | refine genVC_stepG rfl (by with_unfolding_all rfl) fun K hK => ?_
          | refine parVC_nil ?_
          | refine parEVC_nil ?_
          | refine genVC_nil ?_
          | (refine AWP.cond (by with_unfolding_all rfl) (fun h => ?_) (fun h => ?_); all_goals (try simp only [Bool.not_eq_true', Bool.not_eq_false'] at h); (all_goals try first | (exact absurd h Bool.false_ne_true) | (exact absurd h.symm Bool.false_ne_true) | (exact absurd h (by decide))))
          | refine AWP.skip ?_
          | refine AWP.ret ?_
          | refine AWP.block ?_
          | refine AWP.exit ?_
          | (refine ⟨fun h => ?_, fun h => ?_⟩ <;> (try simp only [Bool.not_eq_true', Bool.not_eq_false'] at h) <;> try simp only [h])
          | refine ⟨by omega, encEnt x, hx', ?_⟩
          | (refine ⟨(by first | omega | (simp only [List.length_append, List.length_map, List.length_take, List.length_drop, List.length_cons, List.length_nil, List.length_replicate]; omega) : _ ≤ _), ?_⟩)
          | refine ⟨by omega, by omega, ?_⟩
          | (refine AWP.genR (id := 10) [6, 10] [50] mixed (by kernel_rfl) fun K hK => ?_; simp only [Bx.outs, Bx.drop, cond_true, cond_false, Nat.reduceBEq, go_sem])
          | refine AWP.parR mixed (by kernel_rfl) fun K hK => ?_
          | refine ⟨(by kernel_rfl : depB _ _ _ = true), ?_⟩
          | refine Or.inl ?_)
        | (clear hK K))
      all_goals (rw [wrap_succ hlt hlen0])
      all_goals (refine ⟨putAt s.length x s, ?_, ?_⟩)
      all_goals (try first
        | (refine Gh.trans (Gh.freeze 61 rfl rfl (by simp only [go_sem, zA, zB, zC, zD, zE, zF, zG, reduceCtorEq, zH, zI, zJ, zK, zL, List.length_map, List.length_append]) (by simp only [go_sem, zA, zB, zC, zD, zE, zF, zG, reduceCtorEq, zH, zI, zJ, zK, zL, List.length_map, List.length_append])) ?_; simp only [go_sem, zA, zB, zC, zD, zE, zF, zG, reduceCtorEq, zH, zI, zJ, zK, zL, List.length_map, List.length_append]; exact Gh.to [] (by repeat (first | exact trivial | refine ⟨rfl, ?_⟩ | refine ⟨by (simp only [go_sem, zA, zB, zC, zD, zE, zF, zG, reduceCtorEq, zH, zI, zJ, zK, zL, List.length_append, List.length_map, List.length_cons, List.length_nil, Nat.zero_add]) <;> rfl, ?_⟩)) (by repeat (first | exact trivial | refine ⟨rfl, ?_⟩ | refine ⟨by (simp only [go_sem, zA, zB, zC, zD, zE, zF, zG, reduceCtorEq, zH, zI, zJ, zK, zL, List.length_append, List.length_map, List.length_cons, List.length_nil, Nat.zero_add]) <;> rfl, ?_⟩)) rfl rfl rfl)
        | (exact Gh.to [] (by repeat (first | exact trivial | refine ⟨rfl, ?_⟩ | refine ⟨by (simp only [go_sem, zA, zB, zC, zD, zE, zF, zG, reduceCtorEq, zH, zI, zJ, zK, zL, List.length_append, List.length_map, List.length_cons, List.length_nil, Nat.zero_add]) <;> rfl, ?_⟩)) (by repeat (first | exact trivial | refine ⟨rfl, ?_⟩ | refine ⟨by (simp only [go_sem, zA, zB, zC, zD, zE, zF, zG, reduceCtorEq, zH, zI, zJ, zK, zL, List.length_append, List.length_map, List.length_cons, List.length_nil, Nat.zero_add]) <;> rfl, ?_⟩)) rfl rfl rfl))
      all_goals (refine ⟨?_, by rw [putAt_len]; omega⟩; rw [Is, foldl_take hx, ← hok, insE, hp]; simp only [eqAtE, hnone]; try rfl)
  · intro s hb hok
    simp only [go_sem, zA, zB, zC, zD, zE, zF, zG, reduceCtorEq, zH, zI, zJ, zK, zL]
    repeat' (first
      | (simp only [go_sem, zA, zB, zC, zD, zE, zF, zG, reduceCtorEq, zH, zI, zJ, zK, zL, List.length_map, hb]; all_goals fail_if_success guard_target =ₛ False)
      | (with_reducible first
        | refine seqVC_stepN rfl fun K hK => ?_
        | refine seqVC_stepG rfl (by with_unfolding_all rfl) fun K hK => ?_
        | refine seqVC_nil ?_
        | (refine hK _ _ _ ?_; clear hK K)
        | (refine hK _ _ ?_; clear hK K)
        | (refine hK _ ?_; clear hK K)
        | refine AWP.seq fun K hK => ?_
        | refine AWP.seqR (by kernel_rfl) fun K hK => ?_
        | refine parVC_stepN rfl fun K hK => ?_
        | refine parVC_stepG rfl (by with_unfolding_all rfl) fun K hK => ?_
        | refine parEVC_stepN rfl fun K hK => ?_
        | refine parEVC_stepG rfl (by with_unfolding_all rfl) fun K hK => ?_
        | refine genVC_stepN rfl fun K hK => ?_
        | refine genVC_stepG rfl (by with_unfolding_all rfl) fun K hK => ?_
        | refine parVC_nil ?_
        | refine parEVC_nil ?_
        | refine genVC_nil ?_
        | (refine AWP.cond (by with_unfolding_all rfl) (fun h => ?_) (fun h => ?_); all_goals (try simp only [Bool.not_eq_true', Bool.not_eq_false'] at h); (all_goals try first | (exact absurd h Bool.false_ne_true) | (exact absurd h.symm Bool.false_ne_true) | (exact absurd h (by decide))))
        | refine AWP.skip ?_
        | refine AWP.ret ?_
        | refine AWP.block ?_
        | refine AWP.exit ?_
        | (refine ⟨fun h => ?_, fun h => ?_⟩ <;> (try simp only [Bool.not_eq_true', Bool.not_eq_false'] at h) <;> try simp only [h])
        | (refine AWP.segP (id := 10) 6 mixed (by kernel_rfl) fun K hK => ?_; simp only [List.take_succ_cons, List.take_zero, List.drop_succ_cons, List.drop_zero])
        | refine AWP.parR mixed (by kernel_rfl) fun K hK => ?_
        | refine ⟨(by kernel_rfl : depB _ _ _ = true), ?_⟩
        | refine Or.inl ?_)
      | (clear hK K))
    all_goals (first | exact fun _ h => (by cases h) | refine fin0 ?_)
    all_goals (rw [show s = _ from hok.1, List.take_length]; rfl)
end Go.Proofs.Ytmpfdejckbceiaa
set_option linter.unusedVariables false
set_option linter.unusedSimpArgs false
namespace Go.Sx
variable {P : Program} {n : Nat} {σ : AS} {Q : Exit → AS → Prop}
/-- the boxes that are there where the operations of X have run -/
def bxX (mk : Nat → Option (Nat × Res)) (B0 : Bx) (X : Nat → Bool) : Nat → Bx
  | 0 => B0
  | m + 1 => match X m, mk m with
    | true, some p => p :: bxX mk B0 X m
    | _, _ => bxX mk B0 X m
theorem mem_bxX {mk : Nat → Option (Nat × Res)} {B0 : Bx} {X : Nat → Bool} {x : Nat × Res} : ∀ {m : Nat}, x ∈ bxX mk B0 X m ↔ x ∈ B0 ∨ ∃ i, i < m ∧ X i = true ∧ mk i = some x
  | 0 => by simp [bxX]
  | m + 1 => by
    have ih := @mem_bxX mk B0 X x m
    unfold bxX
    constructor
    · intro h
      split at h
      · rename_i p hX hk
        rcases List.mem_cons.1 h with rfl | h
        · exact .inr ⟨m, by omega, hX, hk⟩
        · rcases ih.1 h with h | ⟨i, h1, h2⟩
          · exact .inl h
          · exact .inr ⟨i, by omega, h2⟩
      · rcases ih.1 h with h | ⟨i, h1, h2⟩
        · exact .inl h
        · exact .inr ⟨i, by omega, h2⟩
    · intro h
      have h' : x ∈ bxX mk B0 X m ∨ (X m = true ∧ mk m = some x) := by
        rcases h with h | ⟨i, h1, h2, h3⟩
        · exact .inl (ih.2 (.inl h))
        · by_cases him : i = m
          · subst him; exact .inr ⟨h2, h3⟩
          · exact .inl (ih.2 (.inr ⟨i, by omega, h2, h3⟩))
      split
      · rename_i p hX hk
        rcases h' with h' | ⟨_, h'⟩
        · exact List.mem_cons_of_mem _ h'
        · rw [hk] at h'; cases h'; exact List.mem_cons_self
      · rename_i hno
        rcases h' with h' | ⟨h1, h2⟩
        · exact h'
        · exact absurd h2 (hno x h1)
/-- the names are apart -/
def Apart (mk : Nat → Option (Nat × Res)) (B0 : Bx) : Prop := (∀ i j p q, mk i = some p → mk j = some q → i ≠ j → p.1 ≠ q.1) ∧ ∀ i p, mk i = some p → ∀ x ∈ B0, x.1 ≠ p.1
theorem nodup_bxX {mk : Nat → Option (Nat × Res)} {B0 : Bx} {X : Nat → Bool} (ha : Apart mk B0) (h0 : (B0.map (·.1)).Nodup) : ∀ m, ((bxX mk B0 X m).map (·.1)).Nodup
  | 0 => h0
  | m + 1 => by
    have ih := nodup_bxX (X := X) ha h0 m
    unfold bxX
    split
    · rename_i p hX hk
      simp only [List.map_cons, List.nodup_cons]
      refine ⟨fun hm => ?_, ih⟩
      obtain ⟨x, hx, e⟩ := List.mem_map.1 hm
      rcases mem_bxX.1 hx with h | ⟨i, h1, _, h3⟩
      · exact ha.2 m p hk x h e
      · exact ha.1 i m x p h3 hk (by omega) e
    · exact ih
theorem nodup_B0 {mk : Nat → Option (Nat × Res)} {B0 : Bx} {X : Nat → Bool} : ∀ {m : Nat}, ((bxX mk B0 X m).map (·.1)).Nodup → (B0.map (·.1)).Nodup
  | 0, h => h
  | m + 1, h => by
    unfold bxX at h
    split at h
    · simp only [List.map_cons, List.nodup_cons] at h; exact nodup_B0 h.2
    · exact nodup_B0 h
structure MidM (κ : Kap) (M0 : Mem) (n : Nat) (l : List Oper) (t : Nat → T) (mk : Nat → Option (Nat × Res)) (B0 : Bx) (env0 : Env) (listed : Array Bool) (a : Act) (w : World) : Prop where
  size : listed.size = l.length
  closed : Closed l listed
  st : ∃ M ν, M0.ext κ M ∧ a.tmps.size = n ∧ a.defers = [] ∧ EnvOk M ν a.tmps (envA l t (xs listed) env0 l.length) ∧ Sat κ M ν (bxX mk B0 (xs listed) l.length) w ∧ ∀ k, pin ≤ k → ν k = κ.nu k
def OSpecM (P : Program) (n : Nat) (all : List Oper) (B0 : Bx) (o : Oper) (env : Env) (t : T) (j : Option (Nat × Res)) : Prop :=
  dstOk n o = true ∧
  ((guardT all env o True False ∧ ((j = none ∧ OpP P o env B0 t) ∨ (∃ k r, j = some (k, r) ∧ k < pin ∧ Env.fresh k env = true ∧ Bx.fresh k B0 = true ∧ ∀ B : Bx, (∀ x ∈ B0, x ∈ B) → Bx.fresh k B = true → OpG P o env B k t ((k, r) :: B)))) ∨
   (guardT all env o False True ∧ t = undefT ∧ j = none))
theorem bx_fresh_of {k : Nat} : ∀ {B : Bx}, (∀ x ∈ B, x.1 ≠ k ∧ ∀ cs, x.2 = .cells cs → Cell.freshs k cs = true) → Bx.fresh k B = true
  | [], _ => rfl
  | (j, r) :: B, h => by
    have h1 := h (j, r) List.mem_cons_self
    simp only [Bx.fresh, Bool.and_eq_true, bne_iff_ne, ne_eq]
    refine ⟨⟨h1.1, ?_⟩, bx_fresh_of fun y hy => h y (List.mem_cons_of_mem _ hy)⟩
    cases r with
    | cells cs => exact h1.2 cs rfl
    | row sz rows => rfl
def Res.plain (r : Res) : Prop := ∀ k cs, r = .cells cs → Cell.freshs k cs = true
theorem Res.plain_row (sz : Nat) (rows : List (List C)) : (Res.row sz rows).plain := fun _ _ e => by cases e
theorem Res.plain_dat (zs : List C) : (Res.cells (zs.map .dat)).plain := by
  intro k cs e
  cases e
  induction zs with
  | nil => rfl
  | cons z zs ih => simp only [List.map_cons, Cell.freshs, Cell.fresh, ih, Bool.and_self]
def RowsOnly (mk : Nat → Option (Nat × Res)) : Prop := ∀ i p, mk i = some p → p.2.plain
theorem genM_sound {κ : Kap} {M0 : Mem} {l : List Oper} {B0 : Bx} {t : Nat → T} {mk : Nat → Option (Nat × Res)} {env0 : Env} {Q' : Exit → Act → World → Prop}
    (hback : Back l) (hpairs : Pairs l) (hap : Apart mk B0) (hro : RowsOnly mk) (hlen : ∀ i p, mk i = some p → i < l.length)
    (hs : ∀ i o, l[i]? = some o → OSpecM P n l B0 o (envA l t (fun _ => true) env0 i) (t i) (mk i))
    (hfr : ∀ g k p, mk g = some p → g < k → k < l.length → (t k).fresh p.1 = true ∨ depB l k g = true)
    (hQ : ∀ a w, St κ M0 n ⟨envA l t (fun _ => true) env0 l.length, bxX mk B0 (fun _ => true) l.length⟩ a w → Q' .normal a w) :
    ∀ (fuel : Nat) (listed : Array Bool) (a : Act) (w : World), cnt l listed = fuel → MidM κ M0 n l t mk B0 env0 listed a w →
      wpAny P .any l.toArray Q' fuel listed a w := by
  have done : ∀ (listed : Array Bool) (a : Act) (w : World), MidM κ M0 n l t mk B0 env0 listed a w → (∀ i, i < l.length → listed.getD i false = true) → Q' .normal a w := by
    intro listed a w hm hall
    obtain ⟨M, ν, h1, h2, h3, h4, h7, h8⟩ := hm.st
    refine hQ a w ⟨M, ν, h1, h2, h3, ?_, ?_, h8⟩
    · intro d u hu
      refine h4 d u ?_
      rw [envA_same l t (xs listed) (fun _ => true) env0 d l.length (fun j o hj _ _ => hall j hj)]
      exact hu
    · refine h7.drop (fun x hx => ?_) (nodup_bxX hap (nodup_B0 h7.nodup) _)
      rcases mem_bxX.1 hx with h | ⟨i, hi, _, hk⟩
      · exact mem_bxX.2 (.inl h)
      · exact mem_bxX.2 (.inr ⟨i, hi, hall i hi, hk⟩)
  intro fuel
  induction fuel with
  | zero =>
    intro listed a w hfuel hm
    have hall := cnt_zero hfuel
    exact ⟨ready_none hm.size hall, done listed a w hm hall⟩
  | succ fuel ih =>
    intro listed a w hfuel hm
    refine ⟨fun hr => done listed a w hm (ready_least hback hm.size hr), fun i hi => ?_⟩
    obtain ⟨h0, oi, hoi, hall⟩ := mem_ready.1 hi
    have hil : i < l.length := by have := (Array.getElem?_eq_some_iff.1 hoi).1; simpa using this
    have hoi' : l[i]? = some oi := by simpa using hoi
    have hisz : i < listed.size := by rw [hm.size]; exact hil
    have hxi : listed.getD i false = false := by simp [hisz] at h0 ⊢; exact h0
    obtain ⟨M, ν, h1, h2, h3, h4, h7, h8⟩ := hm.st
    obtain ⟨hd, hspec⟩ := hs i oi hoi'
    have look : ∀ d, d ∈ oi.looksAt l.toArray → (envA l t (xs listed) env0 l.length).lookup d = (envA l t (fun _ => true) env0 i).lookup d := by
      intro d hdm
      rw [envA_skip l t (xs listed) env0 d i l.length (by omega) ?_, envA_same l t (xs listed) (fun _ => true) env0 d i ?_]
      · intro j o hj ho hod
        rcases hpairs j i o oi hj ho hoi' with ⟨e', he', hb', hon⟩ | hap
        · exact hon ▸ hall e' he' hb'
        · exact absurd hdm ((Oper.apart_spec hap).1 d hod)
      · intro j o hj hjl ho hod
        by_cases hji : i = j
        · subst hji; exact hxi
        · cases hxj : xs listed j with
          | false => rfl
          | true =>
            rcases hpairs i j oi o (by omega) hoi' ho with ⟨e', he', hb', hon⟩ | hap
            · have := hm.closed j o ho hxj e' he' hb'
              rw [hon, hxi] at this; cases this
            · exact absurd hdm ((Oper.apart_spec hap).2.2 d hod)
    have hclosed : Closed l (listed.setIfInBounds i true) := by
      intro j oj hj hx e' he' hb'
      by_cases hji : i = j
      · subst hji
        rw [hoi'] at hj; cases hj
        exact getD_set_true (hall e' he' hb')
      · rw [getD_set_ne false hji] at hx
        exact getD_set_true (hm.closed j oj hj hx e' he' hb')
    have hcount : cnt l (listed.setIfInBounds i true) = fuel := by
      have := cnt_set hm.size hil hxi; omega
    have after : ∀ (M' : Mem) (ν' : Nu) (v : Value) (w' : World), M.ext κ M' → EnvOk M ν' a.tmps (envA l t (xs listed) env0 l.length) → (t i).rep M' ν' v → Sat κ M' ν' (bxX mk B0 (xs (listed.setIfInBounds i true)) l.length) w' → (∀ k, pin ≤ k → ν' k = κ.nu k) →
        MidM κ M0 n l t mk B0 env0 (listed.setIfInBounds i true) (a.put oi.dst v) w' := by
      intro M' ν' v w' hle h4 hr hsat hpin
      refine ⟨by simpa using hm.size, hclosed, M', ν', h1.trans hle, by rw [Act.put_size]; exact h2, by rw [Act.put_defers']; exact h3, ?_, hsat, hpin⟩
      have hput := EnvOk.put (df := a.defers) (h4.mono hle.1) (dst := oi.dst) (v := v) (t := t i) (fun d he => by rw [h2]; exact dstOk_spec hd d he) hr
      intro k u hu
      refine hput k u ?_
      rw [putE_lookup]
      by_cases hk : oi.dst = some k
      · rw [if_pos hk]
        have e1 := envA_skip l t (xs (listed.setIfInBounds i true)) env0 k (i + 1) l.length (by omega) (fun j o hj hjl ho hod => by
          cases hxj : xs (listed.setIfInBounds i true) j with
          | false => rfl
          | true =>
            have hne : i ≠ j := by omega
            have hxj' : listed.getD j false = true := by rw [← getD_set_ne false hne]; exact hxj
            rcases hpairs i j oi o (by omega) hoi' ho with ⟨e', he', hb', hon⟩ | hap
            · have := hm.closed j o ho hxj' e' he' hb'
              rw [hon, hxi] at this; cases this
            · exact absurd hod ((Oper.apart_spec hap).2.1 k hk))
        rw [e1] at hu
        have hself : xs (listed.setIfInBounds i true) i = true := by simp [xs, hisz]
        rw [envA, hself] at hu
        simp only [cond_true, putE_lookup, hoi', Option.bind_some, hk, if_true] at hu
        exact hu
      · rw [if_neg hk]
        have e2 := envA_same l t (xs (listed.setIfInBounds i true)) (xs listed) env0 k l.length (fun j o hj ho hod => by
          have hne : i ≠ j := fun h => by subst h; rw [hoi'] at ho; cases ho; exact hk hod
          exact getD_set_ne false hne)
        rw [← e2]; exact hu
    have hon : EnvOn M ν a (envA l t (fun _ => true) env0 i) oi := by
      intro d u hdo hu
      refine h4 d u ?_
      rw [look d (looksAt_op hdo)]; exact hu
    have hgd : ∀ g want d u, oi.guard = some (g, want) → (l[g]?).bind (·.dst) = some d → (envA l t (fun _ => true) env0 i).lookup d = some u → u.rep M ν (a.tmps.getD d undef) := by
      intro g want d u hg hgd hu
      refine h4 d u ?_
      rw [look d (looksAt_guard hg hgd)]; exact hu
    have hself : xs (listed.setIfInBounds i true) i = true := by simp [xs, hisz]
    have hold : ∀ j, i ≠ j → xs (listed.setIfInBounds i true) j = xs listed j := fun j hj => getD_set_ne false hj
    have nod : ((bxX mk B0 (xs (listed.setIfInBounds i true)) l.length).map (·.1)).Nodup := nodup_bxX hap (nodup_B0 h7.nodup) _
    have same : mk i = none → ∀ x ∈ bxX mk B0 (xs (listed.setIfInBounds i true)) l.length, x ∈ bxX mk B0 (xs listed) l.length := by
      intro hk x hx
      rcases mem_bxX.1 hx with h | ⟨j, hj, hX, hkj⟩
      · exact mem_bxX.2 (.inl h)
      · have hne : i ≠ j := fun e => by subst e; rw [hk] at hkj; cases hkj
        exact mem_bxX.2 (.inr ⟨j, hj, by rw [← hold j hne]; exact hX, hkj⟩)
    unfold wpOp
    rw [hoi]
    simp only []
    rcases hspec with ⟨hg, ⟨hjn, hop⟩ | ⟨k, r, hjn, hkp, hfk, hfB0, hop⟩⟩ | ⟨hg, ht, hjn⟩
    · rw [if_pos (wanted_of hg hgd)]
      left
      refine Oper.wp_mono_Q (Oper.wp_mono ?_ (hop κ M ν a w _ (fun x hx => mem_bxX.2 (.inl hx)) hon h7))
      rintro a' w' ⟨v, M', rfl, hle, hr, hsat⟩
      exact ih _ _ _ hcount (after M' ν v w' hle h4 hr (hsat.drop (same hjn) nod) h8)
    · rw [if_pos (wanted_of hg hgd)]
      left
      have hfB : Bx.fresh k (bxX mk B0 (xs listed) l.length) = true := by
        refine bx_fresh_of fun x hx => ?_
        rcases mem_bxX.1 hx with h | ⟨j, hj, hX, hkj⟩
        · exact Bx.fresh_spec (j := x.1) (r := x.2) hfB0 h
        · have hne : j ≠ i := fun e => by subst e; unfold xs at hX; rw [hxi] at hX; cases hX
          refine ⟨hap.1 j i x _ hkj hjn hne, fun cs e => ?_⟩
          exact hro j x hkj k cs e
      refine Oper.wp_mono_Q (Oper.wp_mono ?_ (hop _ (fun x hx => mem_bxX.2 (.inl hx)) hfB κ M ν a w hon h7))
      rintro a' w' ⟨v, M', ν', rfl, hle, hν, hr, hsat⟩
      obtain ⟨hf0, hft⟩ := fresh_envA i hfk
      have hfresh : Env.fresh k (envA l t (xs listed) env0 l.length) = true := by
        refine envA_fresh' hf0 l.length (fun q hq hx hdq => ?_)
        rcases Nat.lt_trichotomy q i with h | h | h
        · exact hft q h hdq
        · subst h; unfold xs at hx; rw [hxi] at hx; cases hx
        · rcases hfr i q _ hjn h hq with h' | h'
          · exact h'
          · exfalso
            have := dep_of h' (List.getElem?_eq_getElem hq) hm.closed (fun e' he' hb' => hm.closed q l[q] (List.getElem?_eq_getElem hq) hx e' he' hb')
            rw [hxi] at this; cases this
      refine ih _ _ _ hcount (after M' ν' v w' hle (h4.fresh hfresh hν) hr (hsat.drop ?_ nod) (fun q hq => by rw [hν q (by omega)]; exact h8 q hq))
      intro x hx
      rcases mem_bxX.1 hx with h | ⟨j, hj, hX, hkj⟩
      · exact List.mem_cons_of_mem _ (mem_bxX.2 (.inl h))
      · by_cases hne : i = j
        · subst hne; rw [hjn] at hkj; cases hkj; exact List.mem_cons_self
        · exact List.mem_cons_of_mem _ (mem_bxX.2 (.inr ⟨j, hj, by rw [← hold j hne]; exact hX, hkj⟩))
    · rw [unwanted_of hg hgd]
      simp only [Bool.false_eq_true, if_false]
      refine ih _ _ _ hcount (after M ν undef w (Mem.ext.refl κ M) h4 (by rw [ht]; simp [undefT, T.rep, Cell.rep, C.rep]) (h7.drop (same hjn) nod) h8)

theorem Bx.fresh_sub {k : Nat} {B B' : Bx} (h : Bx.fresh k B = true) (hs : ∀ x ∈ B', x ∈ B) : Bx.fresh k B' = true :=
  bx_fresh_of fun x hx => Bx.fresh_spec (j := x.1) (r := x.2) h (hs x hx)
def vAppendM (P : Program) (j : Nat) (t1 t2 : TypeId) (s x : Option T) (K : T → Res → Prop) : Prop :=
  match bsT P t1, byT P t1 with
  | some (_, n), some (by_ + 1) => match srcRows n x with
    | some ys => notInt P t2 = true ∧ (match s with
      | some (.one (.dat (.nil _))) => (2 * ys.length + 192) * (by_ + 1) ≤ 281474976710656 ∧ K (.one (.own j ys.length)) (.row n ys)
      | _ => False)
    | none => False
  | _, _ => False
/-- what is to be shown of an operation that makes a row -/
def mkOp (P : Program) (o : Oper) (env : Env) (K : T → Res → Prop) : Prop :=
  match o.op with
  | .alloc e => (match zeroT P e with
    | some zs => K (.one (.ptr (dstN o) 0)) (.cells (zs.map .dat))
    | none => False)
  | .call { callee := .builtin .append, args := ⟨[s, x]⟩, argTypes := ⟨[t1, t2]⟩ } => vAppendM P (dstN o) t1 t2 (ev P env t1 s) (softO (ev P env t2 x)) K
  | .call { callee := .value f, args := args, argTypes := ts } =>
    match calleeT (ev P env 0 f), evs P env args.toList ts.toList with
    | some (g, caps), some us => ∃ r sz rows, PCN P g (us ++ caps) r (.row sz rows) ∧ K (r.ren fun _ => dstN o) (.row sz rows)
    | _, _ => False
  | _ => False
theorem mkOp_sound {o : Oper} {env : Env} {K : T → Res → Prop} (h : mkOp P o env K) :
    ∃ t r, r.plain ∧ (∀ B : Bx, Env.fresh (dstN o) env = true → Bx.fresh (dstN o) B = true → OpG P o env B (dstN o) t ((dstN o, r) :: B)) ∧ K t r := by
  unfold mkOp at h
  split at h
  · rename_i e ho
    split at h
    · rename_i zs hz
      refine ⟨_, _, Res.plain_dat zs, fun B hfe hfb => ?_, h⟩
      obtain ⟨t, B', hop, _, rfl, rfl⟩ := vAlloc_sound (env := env) (B := B) (K := fun t B' => t = .one (.ptr (dstN o) 0) ∧ B' = (dstN o, .cells (zs.map .dat)) :: B) ho (by
        unfold vAlloc
        rw [hz]
        exact ⟨hfe, hfb, rfl, rfl⟩)
      exact hop
    · exact h.elim
  · rename_i s x t1 t2 ho
    unfold vAppendM at h
    split at h
    · rename_i e n by_ hbs hbyt
      split at h
      · rename_i ys hys
        obtain ⟨hni, h⟩ := h
        split at h
        · rename_i sz hsv
          refine ⟨_, _, Res.plain_row _ _, fun B hfe hfb => ?_, h.2⟩
          obtain ⟨t, B', hop, _, rfl, rfl⟩ := vAppend_sound (ty1 := t1) (ty2 := t2) (env := env) (B := B) (K := fun t B' => t = .one (.own (dstN o) ys.length) ∧ B' = (dstN o, .row n ys) :: B) ho (by
            unfold vAppend
            rw [hbs, hbyt]
            simp only [hys, hsv]
            refine ⟨hni, hfe, hfb, h.1, ?_⟩
            first | trivial | exact ⟨trivial, rfl⟩ | exact ⟨rfl, rfl⟩ | exact ⟨rfl, trivial⟩)
          exact hop
        · exact h.elim
      · exact h.elim
    · exact h.elim
  · rename_i f args ts ho
    split at h
    · rename_i g caps us hf hu
      obtain ⟨r, sz, rows, hpc, hK⟩ := h
      refine ⟨_, _, Res.plain_row _ _, fun B hfe hfb => ?_, hK⟩
      obtain ⟨t, B', hop, _, rfl, rfl⟩ := vCallN_sound (env := env) (B := B) (args := args.toList) (K := fun t B' => t = (r.ren fun _ => dstN o) ∧ B' = (dstN o, .row sz rows) :: B) (by rw [ho]) hf hu ⟨r, _, hpc, hfe, hfb, rfl, rfl⟩
      exact hop
    · exact h.elim
  · exact h.elim
def genVCM (P : Program) (all : List Oper) (es : List Nat) (B0 : Bx) : Nat → List (Nat × Nat) → List Oper → Env → Bx → (Env → Bx → Prop) → Prop
  | _, _, [], env, B, K => K env B
  | i, gs, o :: os, env, B, K => guardT all env o
      (bif memN i es then mkOp P o env fun t r => Env.fresh (dstN o) env = true ∧ Bx.fresh (dstN o) B = true ∧ FreshOr all i t gs ∧ genVCM P all es B0 (i + 1) ((i, dstN o) :: gs) os (putE env o.dst t) ((dstN o, r) :: B) K
       else pureVC P o env B0 fun t => FreshOr all i t gs ∧ genVCM P all es B0 (i + 1) gs os (putE env o.dst t) B K)
      (genVCM P all es B0 (i + 1) gs os (putE env o.dst undefT) B K)
theorem bxX_cons (mk : Nat → Option (Nat × Res)) (B : Bx) : ∀ m, bxX mk B (fun _ => true) (m + 1) = bxX (fun i => mk (i + 1)) (match mk 0 with | some p => p :: B | none => B) (fun _ => true) m
  | 0 => by
    simp only [bxX]
    cases mk 0 <;> rfl
  | m + 1 => by
    rw [bxX, bxX_cons mk B m]
    all_goals (first | rfl | (conv => rhs; rw [bxX]))
    all_goals (cases mk (m + 1) <;> rfl)
theorem genM_trace (all : List Oper) (es : List Nat) (B0 : Bx) (K : Env → Bx → Prop) : ∀ (l : List Oper) (i0 : Nat) (gs : List (Nat × Nat)) (env : Env) (B : Bx), dstsOk n l = true → (∀ x ∈ B0, x ∈ B) → genVCM P all es B0 i0 gs l env B K →
    ∃ (t : Nat → T) (mk : Nat → Option (Nat × Res)), (∀ i o, l[i]? = some o → OSpecM P n all B0 o (envA l t (fun _ => true) env i) (t i) (mk i)) ∧ (∀ i p, mk i = some p → i < l.length) ∧ RowsOnly mk ∧
      (∀ i p, mk i = some p → Bx.fresh p.1 B = true) ∧ (∀ i j p q, mk i = some p → mk j = some q → i ≠ j → p.1 ≠ q.1) ∧ (∀ i, i < l.length → FreshOr all (i0 + i) (t i) gs) ∧
      (∀ g k p, mk g = some p → g < k → k < l.length → (t k).fresh p.1 = true ∨ depB all (i0 + k) (i0 + g) = true) ∧ K (envA l t (fun _ => true) env l.length) (bxX mk B (fun _ => true) l.length)
  | [], i0, gs, env, B, _, hB, h => ⟨fun _ => undefT, fun _ => none, fun i o ho => by simp at ho, fun _ _ h => (by cases h), fun _ _ h => (by cases h), fun _ _ h => (by cases h), fun _ _ _ _ h => (by cases h), fun i hi => by simp at hi, fun _ _ _ h => (by cases h), h⟩
  | o :: os, i0, gs, env, B, hd, hB, h => by
    simp only [dstsOk, List.all_cons, Bool.and_eq_true] at hd
    obtain ⟨⟨hd1, hd2⟩, hd3⟩ := hd
    have step : ∃ (t0 : T) (B' : Bx) (j0 : Option (Nat × Res)) (gs' : List (Nat × Nat)), OSpecM P n all B0 o env t0 j0 ∧ (∀ x ∈ B, x ∈ B') ∧ B' = (match j0 with | some p => p :: B | none => B) ∧ (∀ p, j0 = some p → p.2.plain ∧ Bx.fresh p.1 B = true ∧ (i0, p.1) ∈ gs') ∧ FreshOr all i0 t0 gs ∧
        (∀ p ∈ gs, p ∈ gs') ∧ genVCM P all es B0 (i0 + 1) gs' os (putE env o.dst t0) B' K := by
      rcases guardT_true h with ⟨hg, hx⟩ | ⟨hg, hx⟩
      · cases hm : memN i0 es with
        | true =>
          rw [hm] at hx
          simp only [cond_true] at hx
          obtain ⟨t, r, hpl, hop, hfe, hfb, h2, h3⟩ := mkOp_sound hx
          refine ⟨t, _, some (dstN o, r), _, ⟨hd1, .inl ⟨hg, .inr ⟨_, _, rfl, Nat.le_of_ble_eq_true hd2, hfe, Bx.fresh_sub hfb hB, fun B' hs hf => hop B' hfe hf⟩⟩⟩, fun x hx => List.mem_cons_of_mem _ hx, rfl, fun p hp => ?_, h2, fun p hp => List.mem_cons_of_mem _ hp, h3⟩
          cases hp
          exact ⟨hpl, hfb, List.mem_cons_self⟩
        | false =>
          rw [hm] at hx
          simp only [cond_false] at hx
          obtain ⟨t, hop, h2, h3⟩ := pureVC_sound hx
          exact ⟨t, B, none, gs, ⟨hd1, .inl ⟨hg, .inl ⟨rfl, hop⟩⟩⟩, fun _ h => h, rfl, fun p hp => (by cases hp), h2, fun _ h => h, h3⟩
      · exact ⟨undefT, B, none, gs, ⟨hd1, .inr ⟨hg, rfl, rfl⟩⟩, fun _ h => h, rfl, fun p hp => (by cases hp), FreshOr_un gs, fun _ h => h, hx⟩
    obtain ⟨t0, B', j0, gs', hspec, hsubB, hBe, hj0, hfr0, hsub, hk⟩ := step
    obtain ⟨t, mk, hs, hlen, hro, hfb, hdis, hfr, hjj, hK⟩ := genM_trace all es B0 K os (i0 + 1) gs' _ B' hd3 (fun x hx => hsubB x (hB x hx)) hk
    have hmk : ∀ i p, (match i with | 0 => j0 | i + 1 => mk i) = some p → (i = 0 ∧ j0 = some p) ∨ ∃ i', i = i' + 1 ∧ mk i' = some p := by
      intro i p h
      cases i with
      | zero => exact .inl ⟨rfl, h⟩
      | succ i => exact .inr ⟨i, rfl, h⟩
    have ne0 : ∀ i p q, j0 = some p → mk i = some q → q.1 ≠ p.1 := by
      intro i p q h1 h2
      have h3 := hfb i q h2
      subst h1
      rw [hBe] at h3
      exact fun e => (Bx.fresh_spec (j := p.1) (r := p.2) h3 List.mem_cons_self).1 e.symm
    refine ⟨fun i => match i with | 0 => t0 | i + 1 => t i, fun i => match i with | 0 => j0 | i + 1 => mk i, ?_, ?_, ?_, ?_, ?_, ?_, ?_, ?_⟩
    · intro i o' ho
      cases i with
      | zero => simp at ho; subst ho; exact hspec
      | succ i =>
        rw [envA_cons]
        exact hs i o' (by simpa using ho)
    · intro i p h
      rcases hmk i p h with ⟨rfl, _⟩ | ⟨i', rfl, h⟩
      · simp
      · have := hlen i' p h; simp; omega
    · intro i p h
      rcases hmk i p h with ⟨rfl, h⟩ | ⟨i', rfl, h⟩
      · exact (hj0 p h).1
      · exact hro i' p h
    · intro i p h
      rcases hmk i p h with ⟨rfl, h⟩ | ⟨i', rfl, h⟩
      · exact (hj0 p h).2.1
      · exact Bx.fresh_sub (hfb i' p h) hsubB
    · intro i j p q h1 h2 hij
      rcases hmk i p h1 with ⟨rfl, h1⟩ | ⟨i', rfl, h1⟩ <;> rcases hmk j q h2 with ⟨rfl, h2⟩ | ⟨j', rfl, h2⟩
      · exact absurd rfl hij
      · exact fun e => ne0 j' p q h1 h2 e.symm
      · exact ne0 i' q p h2 h1
      · exact hdis i' j' p q h1 h2 (by omega)
    · intro i hi
      cases i with
      | zero => exact hfr0
      | succ i =>
        have := hfr i (by simpa using hi)
        rw [show i0 + 1 + i = i0 + (i + 1) by omega] at this
        exact gen_trace.FreshOr_sub hsub this
    · intro g k p hg hgk hk'
      cases k with
      | zero => omega
      | succ k =>
        rcases hmk g p hg with ⟨rfl, hg⟩ | ⟨g', rfl, hg⟩
        · have := FreshOr_spec (hfr k (by simpa using hk')) (i0, p.1) (hj0 p hg).2.2
          rwa [show i0 + 1 + k = i0 + (k + 1) by omega] at this
        · have := hjj g' k p hg (by omega) (by simpa using hk')
          rwa [show i0 + 1 + k = i0 + (k + 1) by omega, show i0 + 1 + g' = i0 + (g' + 1) by omega] at this
    · rw [List.length_cons, envA_cons, bxX_cons]
      rw [hBe] at hK
      exact hK
def genMOk (n : Nat) (l : List Oper) : Bool := Region.lexB .any l.toArray && dstsOk n l
/-- THE RULE: es: the operations that make rows; none turns a box -/
theorem AWP.genM {id : Nat} {l : List Oper} {env : Env} {B : Bx} (es : List Nat) (hm : P.follows .mixedOrders = true) (hl : genMOk n l = true)
    (h : ∀ K : Env → Bx → Prop, (∀ e b, Q .normal ⟨e, b⟩ → K e b) → genVCM P l es B 0 [] l env B K) : AWP P n (.region id l.toArray true) ⟨env, B⟩ Q := by
  simp only [genMOk, Bool.and_eq_true] at hl
  intro κ M0 a w hs
  obtain ⟨hback, hpairs, _⟩ := lex_pairs hl.1
  obtain ⟨t, mk, hsp, hlen, hro, hfb, hdis, _, hjj, hK⟩ := genM_trace l es B _ l 0 [] env B hl.2 (fun x hx => hx) (h (fun e b => Q .normal ⟨e, b⟩) (fun _ _ k => k))
  refine wp_region_any hm ?_
  have hsz : l.toArray.size = l.length := by simp
  rw [hsz]
  have hrep : ∀ j, (Array.replicate l.length false).getD j false = false := fun j => rep_getD _ j
  have hxs : ∀ j, xs (Array.replicate l.length false) j = false := fun j => rep_getD _ j
  refine genM_sound hback hpairs ⟨hdis, fun i p hp x hx => (Bx.fresh_spec (j := x.1) (r := x.2) (hfb i p hp) hx).1⟩ hro hlen hsp (fun g k p hg hgk hk => by have := hjj g k p hg hgk hk; simpa using this) (fun a w s => ⟨_, s, hK⟩) l.length _ a _ ?_ ?_
  · unfold cnt
    have hfil : (List.range l.length).filter (fun i => !(Array.replicate l.length false).getD i false) = List.range l.length := by
      rw [List.filter_eq_self]
      intro x _
      simp only [hrep x, Bool.not_false]
    rw [hfil, List.length_range]
  · have hst := mid_start (σ := ⟨env, B⟩) (l := l) (t := t) (b := fun _ => B) (e := fun _ => false) rfl hs
    obtain ⟨M, ν, m, h1, h2, h3, h4, _, _, h7, h8⟩ := hst.st
    have hbx : ∀ m, bxX mk B (xs (Array.replicate l.length false)) m = B := by
      intro m
      induction m with
      | zero => rfl
      | succ m ih => unfold bxX; rw [hxs m]; simp only [ih]
    exact ⟨hst.size, hst.closed, M, ν, h1, h2, h3, h4, by rw [hbx]; exact h7, h8⟩
theorem genMVC_nil {all : List Oper} {es : List Nat} {B0 : Bx} {i : Nat} {gs : List (Nat × Nat)} {env : Env} {B : Bx} {K : Env → Bx → Prop} (h : K env B) : genVCM P all es B0 i gs [] env B K := h
def genOpVCM (P : Program) (all : List Oper) (es : List Nat) (B0 : Bx) (i : Nat) (gs : List (Nat × Nat)) (o : Oper) (env : Env) (B : Bx) (K' : List (Nat × Nat) → Env → Bx → Prop) : Prop :=
  bif memN i es then mkOp P o env fun t r => Env.fresh (dstN o) env = true ∧ Bx.fresh (dstN o) B = true ∧ FreshOr all i t gs ∧ K' ((i, dstN o) :: gs) (putE env o.dst t) ((dstN o, r) :: B)
  else pureVC P o env B0 fun t => FreshOr all i t gs ∧ K' gs (putE env o.dst t) B
theorem genMVC_stepN {all os : List Oper} {es : List Nat} {B0 : Bx} {i : Nat} {gs : List (Nat × Nat)} {o : Oper} {env : Env} {B : Bx} {K : Env → Bx → Prop} (hg : o.guard = none)
    (h : ∀ K' : List (Nat × Nat) → Env → Bx → Prop, (∀ gs e b, genVCM P all es B0 (i + 1) gs os e b K → K' gs e b) → genOpVCM P all es B0 i gs o env B K') : genVCM P all es B0 i gs (o :: os) env B K :=
  guardT_none hg (h (fun gs e b => genVCM P all es B0 (i + 1) gs os e b K) fun _ _ _ q => q)
theorem genMVC_stepG {all os : List Oper} {es : List Nat} {B0 : Bx} {i : Nat} {gs : List (Nat × Nat)} {o : Oper} {env : Env} {B : Bx} {K : Env → Bx → Prop} {j d : Nat} {want : Bool} (hg : o.guard = some (j, want)) (hd : (all[j]?).bind (·.dst) = some d)
    (h : ∀ K' : List (Nat × Nat) → Env → Bx → Prop, (∀ gs e b, genVCM P all es B0 (i + 1) gs os e b K → K' gs e b) → guardE (env.lookup d) want (genOpVCM P all es B0 i gs o env B K') (K' gs (putE env o.dst undefT) B)) : genVCM P all es B0 i gs (o :: os) env B K :=
  guardT_some hg hd (h (fun gs e b => genVCM P all es B0 (i + 1) gs os e b K) fun _ _ _ q => q)
attribute [go_sem] genOpVCM mkOp vAppendM
end Go.Sx
