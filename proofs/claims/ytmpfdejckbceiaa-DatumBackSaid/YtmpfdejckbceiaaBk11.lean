/- A part of the proof: lemmas about the walk of the program and about plain integers and lists. No conditions beyond those that each lemma states. -/
import Derived.Test.YtmpfdejckbceiaaBk9
import Derived.Test.YtmpfdejckbceiaaBk10
import Derived.Test.YtmpfdejckbceiaaBk6
import Derived.Test.YtmpfdejckbceiaaBk4
set_option linter.unusedSimpArgs false
set_option linter.unusedVariables false
set_option maxRecDepth 20000
set_option maxHeartbeats 4000000
namespace Go.Proofs.Ytmpfdejckbceiaa
open Go Go.Sx
open Nat renaming reduceBEq → zA, reduceBNe → zB, reduceAdd → zC, reduceSub → zD, reduceMul → zE, reduceLeDiff → zF, reduceLT → zG, reduceEqDiff → zH
open Int renaming reduceToNat → zI, reduceLE → zJ, reduceLT → zK, reduceEq → zL
mutual
def ofV : Val → Dat
  | ⟨kind, num, text, kids, keys, _, _⟩ => bif decide (kind = 9) then zeroDat else ⟨kind, num, text, ofVs kids, keys, [], 0, 0, false, [], 0, [], []⟩
def ofVs : List Val → List Dat
  | [] => []
  | v :: l => ofV v :: ofVs l
end
theorem ofVs_map : ∀ l : List Val, ofVs l = l.map ofV
  | [] => by simp only [ofVs, List.map_nil]
  | d :: l => by simp only [ofVs, List.map_cons, ofVs_map l]
theorem ofV_eq (v : Val) : ofV v = bif decide (v.kind = 9) then zeroDat else ⟨v.kind, v.num, v.text, v.kids.map ofV, v.keys, [], 0, 0, false, [], 0, [], []⟩ := by cases v; simp only [ofV, ofVs_map]
theorem cloneKeysL_c (l : List KeyD) (hl : l.length ≤ 100000000) : PC Try.prog 47 [.one (.dat (.sl 2 (l.map encKey)))] (.one (.dat (.sl 2 (l.map encKey)))) := by
  refine PCB.of_body Try.func47 rfl (by decide) Try.ntmps47 Try.results47 rfl rfl rfl ?_ rfl rfl
  refine AWP.ghQ ?_
  repeat' (first
    | ( refine AWP.nilR (e := 59) rfl (by decide) (by decide) rfl (fun hnil => ?_) ?_)
    | (simp only [go_sem, zA, zB, zC, zD, zE, zF, zG, reduceCtorEq, zH, zI, zJ, zK, zL, List.length_map]; all_goals fail_if_success guard_target =ₛ False)
    | (with_reducible first
      | refine seqVC_stepN rfl fun K hK => ?_
      | refine seqVC_nil ?_
      | (refine hK _ _ _ ?_; clear hK K)
      | (refine hK _ _ ?_; clear hK K)
      | (refine hK _ ?_; clear hK K)
      | refine AWP.seq fun K hK => ?_
      | refine AWP.seqR (by kernel_rfl) fun K hK => ?_
      | (refine AWP.cond (by with_unfolding_all rfl) (fun h => ?_) (fun h => ?_); all_goals (try simp only [Bool.not_eq_true', Bool.not_eq_false'] at h); (all_goals try first | (exact absurd h Bool.false_ne_true) | (exact absurd h.symm Bool.false_ne_true) | (exact absurd h (by decide))))
      | refine AWP.skip ?_
      | refine AWP.ret ?_
      | refine AWP.block ?_
      | refine AWP.exit ?_
      | (refine Or.inr (show vBuildOwn _ 5 _ _ _ _ _ _ from ?_); unfold vBuildOwn; with_reducible refine Or.inr ?_; simp only [vBuildRow, go_sem, zA, zB, zC, zD, zE, zF, zG, reduceCtorEq, zH, zI, zJ, zK, zL, List.length_map])
      | (refine ⟨(by first | omega | (simp only [List.length_append, List.length_map, List.length_take, List.length_drop, List.length_cons, List.length_nil, List.length_replicate]; omega) : _ ≤ _), ?_⟩)
      | refine ⟨by omega, by omega, ?_⟩
      | refine Or.inl ?_)
    | (clear hK K))
  · refine ⟨_, Gh.refl _, ?_⟩
    simp only [go_sem, zA, zB, zC, zD, zE, zF, zG, reduceCtorEq, zH, zI, zJ, zK, zL]
    refine fin0 ?_
    rw [hnil]
  ·
    refine ⟨_, Gh.freeze 7 rfl rfl (by simp only [go_sem, zA, zB, zC, zD, zE, zF, zG, reduceCtorEq, zH, zI, zJ, zK, zL, List.length_map]) (by simp only [go_sem, zA, zB, zC, zD, zE, zF, zG, reduceCtorEq, zH, zI, zJ, zK, zL, List.length_map]), ?_⟩
    simp only [go_sem, zA, zB, zC, zD, zE, zF, zG, reduceCtorEq, zH, zI, zJ, zK, zL, List.length_map]
    all_goals (first | exact fun _ h => (by cases h) | refine fin0 ?_)
    all_goals rfl
abbrev ofBox (v : Val) (n : Nat) : Res := .cells [.dat (.int .i64 v.kind), .dat (.int .i64 v.num), .dat (.str v.text), .own 900 n, .dat (.sl 2 (v.keys.map encKey)), .dat (.str []), .dat (.int .i64 0), .dat (.int .i64 0), .dat (.bool false), .dat (.nil 8), .dat (.int .i64 0), .dat (.str []), .dat (.str [])]
theorem of_c (v : Val) (hv : Sm v) : PC Try.prog 49 [Vt v] (Dt (ofV v)) := by
  have ih : ∀ k ∈ v.kids, PC Try.prog 49 [Vt k] (Dt (ofV k)) := fun k hk => of_c k (hv.kid k hk)
  have hkk := hv.kids
  have hcl := cloneKeysL_c v.keys hv.keys
  refine PCB.of_body Try.func49 rfl (by decide) Try.ntmps49 Try.results49 rfl rfl rfl ?_ rfl rfl
  cases h9 : decide (v.kind = 9) with
  | true =>
    repeat' (first
      | (simp only [go_sem, zA, zB, zC, zD, zE, zF, zG, reduceCtorEq, zH, zI, zJ, zK, zL, encVal_eq, h9]; all_goals fail_if_success guard_target =ₛ False)
      | (with_reducible first
        | refine seqVC_stepN rfl fun K hK => ?_
        | refine seqVC_nil ?_
        | (refine hK _ _ _ ?_; clear hK K)
        | (refine hK _ _ ?_; clear hK K)
        | (refine hK _ ?_; clear hK K)
        | refine AWP.seq fun K hK => ?_
        | refine AWP.seqR (by kernel_rfl) fun K hK => ?_
        | refine parVC_stepN rfl fun K hK => ?_
        | refine parEVC_stepN rfl fun K hK => ?_
        | refine genVC_stepN rfl fun K hK => ?_
        | refine parVC_nil ?_
        | refine parEVC_nil ?_
        | refine genVC_nil ?_
        | (refine AWP.cond (by with_unfolding_all rfl) (fun h => ?_) (fun h => ?_); all_goals (try simp only [Bool.not_eq_true', Bool.not_eq_false'] at h); (all_goals try first | (exact absurd h Bool.false_ne_true) | (exact absurd h.symm Bool.false_ne_true) | (exact absurd h (by decide))))
        | refine AWP.skip ?_
        | refine AWP.ret ?_
        | refine AWP.block ?_
        | refine AWP.exit ?_
        | (refine AWP.segP (id := 3) 10 mixed (by kernel_rfl) fun K hK => ?_; simp only [List.take_succ_cons, List.take_zero, List.drop_succ_cons, List.drop_zero])
        | (refine AWP.segP (id := 7) 5 mixed (by kernel_rfl) fun K hK => ?_; simp only [List.take_succ_cons, List.take_zero, List.drop_succ_cons, List.drop_zero])
        | refine AWP.parR mixed (by kernel_rfl) fun K hK => ?_
        | refine ⟨(by kernel_rfl : depB _ _ _ = true), ?_⟩
        | refine Or.inl ?_)
      | (clear hK K))
    all_goals (first | exact fun _ h => (by cases h) | refine fin0 ?_)
    all_goals (rw [ofV_eq, h9, Dt, encDat_eq]; rfl)
  | false =>
    repeat' (first
      | (simp only [go_sem, zA, zB, zC, zD, zE, zF, zG, reduceCtorEq, zH, zI, zJ, zK, zL, encVal_eq v, h9, List.length_map]; all_goals fail_if_success guard_target =ₛ False)
      | (with_reducible first
        | refine seqVC_stepN rfl fun K hK => ?_
        | refine seqVC_nil ?_
        | (refine hK _ _ _ ?_; clear hK K)
        | (refine hK _ _ ?_; clear hK K)
        | (refine hK _ ?_; clear hK K)
        | refine AWP.seq fun K hK => ?_
        | refine AWP.seqR (by kernel_rfl) fun K hK => ?_
        | refine parVC_stepN rfl fun K hK => ?_
        | refine parEVC_stepN rfl fun K hK => ?_
        | refine genVC_stepN rfl fun K hK => ?_
        | refine parVC_nil ?_
        | refine parEVC_nil ?_
        | refine genVC_nil ?_
        | (refine AWP.cond (by with_unfolding_all rfl) (fun h => ?_) (fun h => ?_); all_goals (try simp only [Bool.not_eq_true', Bool.not_eq_false'] at h); (all_goals try first | (exact absurd h Bool.false_ne_true) | (exact absurd h.symm Bool.false_ne_true) | (exact absurd h (by decide))))
        | refine AWP.skip ?_
        | refine AWP.ret ?_
        | refine AWP.block ?_
        | refine AWP.exit ?_
        | refine ⟨_, hcl, ?_⟩
        | (refine AWP.genR (id := 3) [10,11] [] mixed (by kernel_rfl) fun K hK => ?_; simp only [Bx.outs, Bx.drop, cond_true, cond_false, Nat.reduceBEq, go_sem])
        | (refine AWP.segP (id := 7) 5 mixed (by kernel_rfl) fun K hK => ?_; simp only [List.take_succ_cons, List.take_zero, List.drop_succ_cons, List.drop_zero])
        | refine AWP.parR mixed (by kernel_rfl) fun K hK => ?_
        | refine ⟨(by kernel_rfl : depB _ _ _ = true), ?_⟩
        | refine Or.inl ?_)
      | (clear hK K))
    refine AWP.gh (Gh.nilcell 3 3 900 rfl rfl rfl (by simp only [go_sem, zA, zB, zC, zD, zE, zF, zG, reduceCtorEq, zH, zI, zJ, zK, zL]) (by simp only [go_sem, zA, zB, zC, zD, zE, zF, zG, reduceCtorEq, zH, zI, zJ, zK, zL])) ?_
    refine AWP.len 21 rfl fun hlen0 => ?_
    (try rw [List.length_map] at hlen0)
    refine AWP.range (S := List Dat) (v.kids) encVal (fun k s => (23, I .i64 (k : Nat)) :: []) (fun k s => [(3, ofBox v s.length), (900, .row 13 (s.map encDat))]) [2, 3, 21, 22] [2] (fun k s => Is s ((v.kids.take k).map ofV) ∧ s.length = k) ([]) (by simp only [go_sem, zA, zB, zC, zD, zE, zF, zG, reduceCtorEq, zH, zI, zJ, zK, zL, encVal_eq v]; exact Gh.to [] (by repeat (first | exact trivial | refine ⟨rfl, ?_⟩ | refine ⟨by (simp only [go_sem, zA, zB, zC, zD, zE, zF, zG, reduceCtorEq, zH, zI, zJ, zK, zL, List.length_append, List.length_map, List.length_cons, List.length_nil, Nat.zero_add]) <;> rfl, ?_⟩)) (by repeat (first | exact trivial | refine ⟨rfl, ?_⟩ | refine ⟨by (simp only [go_sem, zA, zB, zC, zD, zE, zF, zG, reduceCtorEq, zH, zI, zJ, zK, zL, List.length_append, List.length_map, List.length_cons, List.length_nil, Nat.zero_add]) <;> rfl, ?_⟩)) rfl rfl rfl) ?_ ?_ ?_
    · exact ⟨rfl, rfl⟩
    · rintro k s x hlt hx hx' hb ⟨hok, hsl⟩
      simp only [go_sem, zA, zB, zC, zD, zE, zF, zG, reduceCtorEq, zH, zI, zJ, zK, zL]
      have hix := ih x (List.mem_of_getElem? hx)
      repeat' (first
        | (simp only [go_sem, zA, zB, zC, zD, zE, zF, zG, reduceCtorEq, zH, zI, zJ, zK, zL, List.length_map, hb, dat_snoc]; all_goals fail_if_success guard_target =ₛ False)
        | (with_reducible first
          | refine seqVC_stepN rfl fun K hK => ?_
          | refine seqVC_nil ?_
          | (refine hK _ _ _ ?_; clear hK K)
          | (refine hK _ _ ?_; clear hK K)
          | (refine hK _ ?_; clear hK K)
          | refine AWP.seq fun K hK => ?_
          | refine AWP.seqR (by kernel_rfl) fun K hK => ?_
          | refine parVC_stepN rfl fun K hK => ?_
          | refine parEVC_stepN rfl fun K hK => ?_
          | refine genVC_stepN rfl fun K hK => ?_
          | refine parVC_nil ?_
          | refine parEVC_nil ?_
          | refine genVC_nil ?_
          | (refine AWP.cond (by with_unfolding_all rfl) (fun h => ?_) (fun h => ?_); all_goals (try simp only [Bool.not_eq_true', Bool.not_eq_false'] at h); (all_goals try first | (exact absurd h Bool.false_ne_true) | (exact absurd h.symm Bool.false_ne_true) | (exact absurd h (by decide))))
          | refine AWP.skip ?_
          | refine AWP.ret ?_
          | refine AWP.block ?_
          | refine AWP.exit ?_
          | refine ⟨_, hix, ?_⟩
          | refine ⟨by omega, encVal x, hx', ?_⟩
          | (refine ⟨(by first | omega | (simp only [List.length_append, List.length_map, List.length_take, List.length_drop, List.length_cons, List.length_nil, List.length_replicate]; omega) : _ ≤ _), ?_⟩)
          | refine ⟨by omega, by omega, ?_⟩
          | (refine AWP.genR (id := 7) [1,5,7] [3,900] mixed (by kernel_rfl) fun K hK => ?_; simp only [Bx.outs, Bx.drop, cond_true, cond_false, Nat.reduceBEq, go_sem])
          | (refine AWP.segP (id := 3) 10 mixed (by kernel_rfl) fun K hK => ?_; simp only [List.take_succ_cons, List.take_zero, List.drop_succ_cons, List.drop_zero])
          | refine AWP.parR mixed (by kernel_rfl) fun K hK => ?_
          | refine ⟨(by kernel_rfl : depB _ _ _ = true), ?_⟩
          | refine Or.inl ?_)
        | (clear hK K))
      all_goals (rw [wrap_succ hlt hlen0])
      all_goals (refine ⟨s ++ [ofV x], ?_, Gh.to [(900, 32)] (by repeat (first | exact trivial | refine ⟨rfl, ?_⟩ | refine ⟨by (simp only [go_sem, zA, zB, zC, zD, zE, zF, zG, reduceCtorEq, zH, zI, zJ, zK, zL, List.length_append, List.length_map, List.length_cons, List.length_nil, Nat.zero_add]) <;> rfl, ?_⟩)) (by repeat (first | exact trivial | refine ⟨rfl, ?_⟩ | refine ⟨by (simp only [go_sem, zA, zB, zC, zD, zE, zF, zG, reduceCtorEq, zH, zI, zJ, zK, zL, List.length_append, List.length_map, List.length_cons, List.length_nil, Nat.zero_add]) <;> rfl, ?_⟩)) rfl rfl rfl⟩)
      all_goals (refine ⟨?_, by simp; omega⟩; rw [Is, List.take_add_one, List.map_append, hx, ← show s = _ from hok]; rfl)
    · rintro s hb ⟨hok, _⟩
      simp only [go_sem, zA, zB, zC, zD, zE, zF, zG, reduceCtorEq, zH, zI, zJ, zK, zL]
      rw [List.take_length] at hok
      refine AWP.gh (Gh.freeze 900 rfl rfl (by simp only [go_sem, zA, zB, zC, zD, zE, zF, zG, reduceCtorEq, zH, zI, zJ, zK, zL, List.length_map]) (by simp only [go_sem, zA, zB, zC, zD, zE, zF, zG, reduceCtorEq, zH, zI, zJ, zK, zL, List.length_map])) ?_
      simp only [go_sem, zA, zB, zC, zD, zE, zF, zG, reduceCtorEq, zH, zI, zJ, zK, zL, List.length_map]
      repeat' (first
        | (simp only [go_sem, zA, zB, zC, zD, zE, zF, zG, reduceCtorEq, zH, zI, zJ, zK, zL, List.length_map, hb]; all_goals fail_if_success guard_target =ₛ False)
        | (with_reducible first
          | refine seqVC_stepN rfl fun K hK => ?_
          | refine seqVC_nil ?_
          | (refine hK _ _ _ ?_; clear hK K)
          | (refine hK _ _ ?_; clear hK K)
          | (refine hK _ ?_; clear hK K)
          | refine AWP.seq fun K hK => ?_
          | refine AWP.seqR (by kernel_rfl) fun K hK => ?_
          | refine parVC_stepN rfl fun K hK => ?_
          | refine parEVC_stepN rfl fun K hK => ?_
          | refine genVC_stepN rfl fun K hK => ?_
          | refine parVC_nil ?_
          | refine parEVC_nil ?_
          | refine genVC_nil ?_
          | (refine AWP.cond (by with_unfolding_all rfl) (fun h => ?_) (fun h => ?_); all_goals (try simp only [Bool.not_eq_true', Bool.not_eq_false'] at h); (all_goals try first | (exact absurd h Bool.false_ne_true) | (exact absurd h.symm Bool.false_ne_true) | (exact absurd h (by decide))))
          | refine AWP.skip ?_
          | refine AWP.ret ?_
          | refine AWP.block ?_
          | refine AWP.exit ?_
          | (refine AWP.segP (id := 3) 10 mixed (by kernel_rfl) fun K hK => ?_; simp only [List.take_succ_cons, List.take_zero, List.drop_succ_cons, List.drop_zero])
          | (refine AWP.segP (id := 7) 5 mixed (by kernel_rfl) fun K hK => ?_; simp only [List.take_succ_cons, List.take_zero, List.drop_succ_cons, List.drop_zero])
          | refine AWP.parR mixed (by kernel_rfl) fun K hK => ?_
          | refine ⟨(by kernel_rfl : depB _ _ _ = true), ?_⟩
          | refine Or.inl ?_)
        | (clear hK K))
      all_goals (first | exact fun _ h => (by cases h) | refine fin0 ?_)
      all_goals (rw [ofV_eq, h9, Dt, encDat_eq, show s = _ from hok]; rfl)
termination_by bulkV v
decreasing_by exact bulk_kid hk
theorem refOf_c0 (v : Val) (hv : Sm v) : PC Try.prog 51 [Vt v] (Dt (ofV v)) := by
  have ih : ∀ k ∈ v.kids, PC Try.prog 51 [Vt k] (Dt (ofV k)) := fun k hk => refOf_c0 k (hv.kid k hk)
  have hkk := hv.kids
  have hky := hv.keys
  refine PCB.of_body Try.func51 rfl (by decide) Try.ntmps51 Try.results51 rfl rfl rfl ?_ rfl rfl
  cases h9 : decide (v.kind = 9) with
  | true =>
    repeat' (first
      | (simp only [go_sem, zA, zB, zC, zD, zE, zF, zG, reduceCtorEq, zH, zI, zJ, zK, zL, encVal_eq, h9]; all_goals fail_if_success guard_target =ₛ False)
      | (with_reducible first
        | refine seqVC_stepN rfl fun K hK => ?_
        | refine seqVC_nil ?_
        | (refine hK _ _ _ ?_; clear hK K)
        | (refine hK _ _ ?_; clear hK K)
        | (refine hK _ ?_; clear hK K)
        | refine AWP.seq fun K hK => ?_
        | refine AWP.seqR (by kernel_rfl) fun K hK => ?_
        | refine parVC_stepN rfl fun K hK => ?_
        | refine parEVC_stepN rfl fun K hK => ?_
        | refine genVC_stepN rfl fun K hK => ?_
        | refine parVC_nil ?_
        | refine parEVC_nil ?_
        | refine genVC_nil ?_
        | (refine AWP.cond (by with_unfolding_all rfl) (fun h => ?_) (fun h => ?_); all_goals (try simp only [Bool.not_eq_true', Bool.not_eq_false'] at h); (all_goals try first | (exact absurd h Bool.false_ne_true) | (exact absurd h.symm Bool.false_ne_true) | (exact absurd h (by decide))))
        | refine AWP.skip ?_
        | refine AWP.ret ?_
        | refine AWP.block ?_
        | refine AWP.exit ?_
        | (refine AWP.segP (id := 3) 8 mixed (by kernel_rfl) fun K hK => ?_; simp only [List.take_succ_cons, List.take_zero, List.drop_succ_cons, List.drop_zero])
        | (refine AWP.segP (id := 7) 5 mixed (by kernel_rfl) fun K hK => ?_; simp only [List.take_succ_cons, List.take_zero, List.drop_succ_cons, List.drop_zero])
        | refine AWP.parR mixed (by kernel_rfl) fun K hK => ?_
        | refine ⟨(by kernel_rfl : depB _ _ _ = true), ?_⟩
        | refine Or.inl ?_)
      | (clear hK K))
    all_goals (first | exact fun _ h => (by cases h) | refine fin0 ?_)
    all_goals (rw [ofV_eq, h9, Dt, encDat_eq]; rfl)
  | false =>
    repeat' (first
      | (simp only [go_sem, zA, zB, zC, zD, zE, zF, zG, reduceCtorEq, zH, zI, zJ, zK, zL, encVal_eq v, h9, List.length_map]; all_goals fail_if_success guard_target =ₛ False)
      | (with_reducible first
        | refine seqVC_stepN rfl fun K hK => ?_
        | refine seqVC_nil ?_
        | (refine hK _ _ _ ?_; clear hK K)
        | (refine hK _ _ ?_; clear hK K)
        | (refine hK _ ?_; clear hK K)
        | refine AWP.seq fun K hK => ?_
        | refine AWP.seqR (by kernel_rfl) fun K hK => ?_
        | refine parVC_stepN rfl fun K hK => ?_
        | refine parEVC_stepN rfl fun K hK => ?_
        | refine genVC_stepN rfl fun K hK => ?_
        | refine genMVC_stepN rfl fun K hK => ?_
        | refine parVC_nil ?_
        | refine parEVC_nil ?_
        | refine genVC_nil ?_
        | refine genMVC_nil ?_
        | (refine AWP.cond (by with_unfolding_all rfl) (fun h => ?_) (fun h => ?_); all_goals (try simp only [Bool.not_eq_true', Bool.not_eq_false'] at h); (all_goals try first | (exact absurd h Bool.false_ne_true) | (exact absurd h.symm Bool.false_ne_true) | (exact absurd h (by decide))))
        | refine AWP.skip ?_
        | refine AWP.ret ?_
        | refine AWP.block ?_
        | refine AWP.exit ?_
        | (refine ⟨(by first | omega | (simp only [List.length_append, List.length_map, List.length_take, List.length_drop, List.length_cons, List.length_nil, List.length_replicate]; omega) : _ ≤ _), ?_⟩)
        | refine ⟨by omega, by omega, ?_⟩
        | (refine AWP.genMS (id := 3) [8,10] 11 mixed (by kernel_rfl) fun K hK => ?_; simp only [List.take_succ_cons, List.take_zero, List.drop_succ_cons, List.drop_zero])
        | (refine AWP.segP (id := 7) 5 mixed (by kernel_rfl) fun K hK => ?_; simp only [List.take_succ_cons, List.take_zero, List.drop_succ_cons, List.drop_zero])
        | refine AWP.parR mixed (by kernel_rfl) fun K hK => ?_
        | refine ⟨(by kernel_rfl : depB _ _ _ = true), ?_⟩
        | refine Or.inl ?_)
      | (clear hK K))
    refine AWP.gh (Gh.freeze 18 rfl rfl (by simp only [go_sem, zA, zB, zC, zD, zE, zF, zG, reduceCtorEq, zH, zI, zJ, zK, zL, List.length_map]) (by simp only [go_sem, zA, zB, zC, zD, zE, zF, zG, reduceCtorEq, zH, zI, zJ, zK, zL, List.length_map])) ?_
    simp only [go_sem, zA, zB, zC, zD, zE, zF, zG, reduceCtorEq, zH, zI, zJ, zK, zL, List.length_map]
    refine AWP.gh (Gh.nilcell 3 3 900 rfl rfl rfl (by simp only [go_sem, zA, zB, zC, zD, zE, zF, zG, reduceCtorEq, zH, zI, zJ, zK, zL]) (by simp only [go_sem, zA, zB, zC, zD, zE, zF, zG, reduceCtorEq, zH, zI, zJ, zK, zL])) ?_
    refine AWP.len 21 rfl fun hlen0 => ?_
    (try rw [List.length_map] at hlen0)
    refine AWP.range (S := List Dat) (v.kids) encVal (fun k s => (23, I .i64 (k : Nat)) :: []) (fun k s => [(3, ofBox v s.length), (900, .row 13 (s.map encDat))]) [2, 3, 21, 22] [2] (fun k s => Is s ((v.kids.take k).map ofV) ∧ s.length = k) ([]) (by simp only [go_sem, zA, zB, zC, zD, zE, zF, zG, reduceCtorEq, zH, zI, zJ, zK, zL, encVal_eq v]; exact Gh.to [] (by repeat (first | exact trivial | refine ⟨rfl, ?_⟩ | refine ⟨by (simp only [go_sem, zA, zB, zC, zD, zE, zF, zG, reduceCtorEq, zH, zI, zJ, zK, zL, List.length_append, List.length_map, List.length_cons, List.length_nil, Nat.zero_add]) <;> rfl, ?_⟩)) (by repeat (first | exact trivial | refine ⟨rfl, ?_⟩ | refine ⟨by (simp only [go_sem, zA, zB, zC, zD, zE, zF, zG, reduceCtorEq, zH, zI, zJ, zK, zL, List.length_append, List.length_map, List.length_cons, List.length_nil, Nat.zero_add]) <;> rfl, ?_⟩)) rfl rfl rfl) ?_ ?_ ?_
    · exact ⟨rfl, rfl⟩
    · rintro k s x hlt hx hx' hb ⟨hok, hsl⟩
      simp only [go_sem, zA, zB, zC, zD, zE, zF, zG, reduceCtorEq, zH, zI, zJ, zK, zL]
      have hix := ih x (List.mem_of_getElem? hx)
      repeat' (first
        | (simp only [go_sem, zA, zB, zC, zD, zE, zF, zG, reduceCtorEq, zH, zI, zJ, zK, zL, List.length_map, hb, dat_snoc]; all_goals fail_if_success guard_target =ₛ False)
        | (with_reducible first
          | refine seqVC_stepN rfl fun K hK => ?_
          | refine seqVC_nil ?_
          | (refine hK _ _ _ ?_; clear hK K)
          | (refine hK _ _ ?_; clear hK K)
          | (refine hK _ ?_; clear hK K)
          | refine AWP.seq fun K hK => ?_
          | refine AWP.seqR (by kernel_rfl) fun K hK => ?_
          | refine parVC_stepN rfl fun K hK => ?_
          | refine parEVC_stepN rfl fun K hK => ?_
          | refine genVC_stepN rfl fun K hK => ?_
          | refine parVC_nil ?_
          | refine parEVC_nil ?_
          | refine genVC_nil ?_
          | (refine AWP.cond (by with_unfolding_all rfl) (fun h => ?_) (fun h => ?_); all_goals (try simp only [Bool.not_eq_true', Bool.not_eq_false'] at h); (all_goals try first | (exact absurd h Bool.false_ne_true) | (exact absurd h.symm Bool.false_ne_true) | (exact absurd h (by decide))))
          | refine AWP.skip ?_
          | refine AWP.ret ?_
          | refine AWP.block ?_
          | refine AWP.exit ?_
          | refine ⟨_, hix, ?_⟩
          | refine ⟨by omega, encVal x, hx', ?_⟩
          | (refine ⟨(by first | omega | (simp only [List.length_append, List.length_map, List.length_take, List.length_drop, List.length_cons, List.length_nil, List.length_replicate]; omega) : _ ≤ _), ?_⟩)
          | refine ⟨by omega, by omega, ?_⟩
          | (refine AWP.genR (id := 7) [1,5,7] [3,900] mixed (by kernel_rfl) fun K hK => ?_; simp only [Bx.outs, Bx.drop, cond_true, cond_false, Nat.reduceBEq, go_sem])
          | (refine AWP.segP (id := 3) 8 mixed (by kernel_rfl) fun K hK => ?_; simp only [List.take_succ_cons, List.take_zero, List.drop_succ_cons, List.drop_zero])
          | refine AWP.parR mixed (by kernel_rfl) fun K hK => ?_
          | refine ⟨(by kernel_rfl : depB _ _ _ = true), ?_⟩
          | refine Or.inl ?_)
        | (clear hK K))
      all_goals (rw [wrap_succ hlt hlen0])
      all_goals (refine ⟨s ++ [ofV x], ?_, Gh.to [(900, 32)] (by repeat (first | exact trivial | refine ⟨rfl, ?_⟩ | refine ⟨by (simp only [go_sem, zA, zB, zC, zD, zE, zF, zG, reduceCtorEq, zH, zI, zJ, zK, zL, List.length_append, List.length_map, List.length_cons, List.length_nil, Nat.zero_add]) <;> rfl, ?_⟩)) (by repeat (first | exact trivial | refine ⟨rfl, ?_⟩ | refine ⟨by (simp only [go_sem, zA, zB, zC, zD, zE, zF, zG, reduceCtorEq, zH, zI, zJ, zK, zL, List.length_append, List.length_map, List.length_cons, List.length_nil, Nat.zero_add]) <;> rfl, ?_⟩)) rfl rfl rfl⟩)
      all_goals (refine ⟨?_, by simp; omega⟩; rw [Is, List.take_add_one, List.map_append, hx, ← show s = _ from hok]; rfl)
    · rintro s hb ⟨hok, _⟩
      simp only [go_sem, zA, zB, zC, zD, zE, zF, zG, reduceCtorEq, zH, zI, zJ, zK, zL]
      rw [List.take_length] at hok
      refine AWP.gh (Gh.freeze 900 rfl rfl (by simp only [go_sem, zA, zB, zC, zD, zE, zF, zG, reduceCtorEq, zH, zI, zJ, zK, zL, List.length_map]) (by simp only [go_sem, zA, zB, zC, zD, zE, zF, zG, reduceCtorEq, zH, zI, zJ, zK, zL, List.length_map])) ?_
      simp only [go_sem, zA, zB, zC, zD, zE, zF, zG, reduceCtorEq, zH, zI, zJ, zK, zL, List.length_map]
      repeat' (first
        | (simp only [go_sem, zA, zB, zC, zD, zE, zF, zG, reduceCtorEq, zH, zI, zJ, zK, zL, List.length_map, hb]; all_goals fail_if_success guard_target =ₛ False)
        | (with_reducible first
          | refine seqVC_stepN rfl fun K hK => ?_
          | refine seqVC_nil ?_
          | (refine hK _ _ _ ?_; clear hK K)
          | (refine hK _ _ ?_; clear hK K)
          | (refine hK _ ?_; clear hK K)
          | refine AWP.seq fun K hK => ?_
          | refine AWP.seqR (by kernel_rfl) fun K hK => ?_
          | refine parVC_stepN rfl fun K hK => ?_
          | refine parEVC_stepN rfl fun K hK => ?_
          | refine genVC_stepN rfl fun K hK => ?_
          | refine parVC_nil ?_
          | refine parEVC_nil ?_
          | refine genVC_nil ?_
          | (refine AWP.cond (by with_unfolding_all rfl) (fun h => ?_) (fun h => ?_); all_goals (try simp only [Bool.not_eq_true', Bool.not_eq_false'] at h); (all_goals try first | (exact absurd h Bool.false_ne_true) | (exact absurd h.symm Bool.false_ne_true) | (exact absurd h (by decide))))
          | refine AWP.skip ?_
          | refine AWP.ret ?_
          | refine AWP.block ?_
          | refine AWP.exit ?_
          | (refine AWP.segP (id := 3) 8 mixed (by kernel_rfl) fun K hK => ?_; simp only [List.take_succ_cons, List.take_zero, List.drop_succ_cons, List.drop_zero])
          | (refine AWP.segP (id := 7) 5 mixed (by kernel_rfl) fun K hK => ?_; simp only [List.take_succ_cons, List.take_zero, List.drop_succ_cons, List.drop_zero])
          | refine AWP.parR mixed (by kernel_rfl) fun K hK => ?_
          | refine ⟨(by kernel_rfl : depB _ _ _ = true), ?_⟩
          | refine Or.inl ?_)
        | (clear hK K))
      all_goals (first | exact fun _ h => (by cases h) | refine fin0 ?_)
      all_goals (rw [ofV_eq, h9, Dt, encDat_eq, show s = _ from hok]; rfl)
termination_by bulkV v
decreasing_by exact bulk_kid hk
/-- the datum of any value -/
def ofW (v : Val) : Dat := bif treeB v then ofV v else zeroDat
theorem zeroDt : Dt zeroDat = .st [.int .i64 0, .int .i64 0, .str [], .sl 13 [], .sl 2 [], .str [], .int .i64 0, .int .i64 0, .bool false, .sl 8 [], .int .i64 0, .str [], .str []] := by rw [Dt, encDat_eq]; rfl
theorem datumOf_c (v : Val) (hv : Sm v) : PC Try.prog 19 [Vt v] (Dt (ofW v)) := by
  have h1 := validate_c v hv
  have h2 := of_c v hv
  unfold ofW
  refine PCB.of_body Try.func19 rfl (by decide) Try.ntmps19 Try.results19 rfl rfl rfl ?_ rfl rfl
  cases hz : treeB v <;> rw [hz] at h1
  all_goals
    repeat' (first
      | (simp only [go_sem, zA, zB, zC, zD, zE, zF, zG, reduceCtorEq, zH, zI, zJ, zK, zL, hz]; all_goals fail_if_success guard_target =ₛ False)
      | (with_reducible first
        | refine seqVC_stepN rfl fun K hK => ?_
        | refine seqVC_nil ?_
        | (refine hK _ _ _ ?_; clear hK K)
        | (refine hK _ _ ?_; clear hK K)
        | (refine hK _ ?_; clear hK K)
        | refine AWP.seq fun K hK => ?_
        | refine AWP.seqR (by kernel_rfl) fun K hK => ?_
        | (refine AWP.cond (by with_unfolding_all rfl) (fun h => ?_) (fun h => ?_); all_goals (try simp only [Bool.not_eq_true', Bool.not_eq_false'] at h); (all_goals try first | (exact absurd h Bool.false_ne_true) | (exact absurd h.symm Bool.false_ne_true) | (exact absurd h (by decide))))
        | refine AWP.skip ?_
        | refine AWP.ret ?_
        | refine AWP.block ?_
        | refine AWP.exit ?_
        | refine ⟨_, h1, ?_⟩
        | refine ⟨_, h2, ?_⟩
        | refine Or.inl ?_)
      | (clear hK K))
  all_goals (first | exact fun _ h => (by cases h) | refine fin0 ?_)
  all_goals (simp only [cond_true, cond_false, zeroDt]; try rfl)
theorem refOf_c (v : Val) (hv : Sm v) : PC Try.prog 22 [Vt v] (Dt (ofW v)) := by
  have h1 := valid_c v
  have h2 := refOf_c0 v hv
  unfold ofW
  refine PCB.of_body Try.func22 rfl (by decide) Try.ntmps22 Try.results22 rfl rfl rfl ?_ rfl rfl
  cases hz : treeB v <;> rw [hz] at h1
  all_goals
    repeat' (first
      | (simp only [go_sem, zA, zB, zC, zD, zE, zF, zG, reduceCtorEq, zH, zI, zJ, zK, zL, hz]; all_goals fail_if_success guard_target =ₛ False)
      | (with_reducible first
        | refine seqVC_stepN rfl fun K hK => ?_
        | refine seqVC_nil ?_
        | (refine hK _ _ _ ?_; clear hK K)
        | (refine hK _ _ ?_; clear hK K)
        | (refine hK _ ?_; clear hK K)
        | refine AWP.seq fun K hK => ?_
        | refine AWP.seqR (by kernel_rfl) fun K hK => ?_
        | (refine AWP.cond (by with_unfolding_all rfl) (fun h => ?_) (fun h => ?_); all_goals (try simp only [Bool.not_eq_true', Bool.not_eq_false'] at h); (all_goals try first | (exact absurd h Bool.false_ne_true) | (exact absurd h.symm Bool.false_ne_true) | (exact absurd h (by decide))))
        | refine AWP.skip ?_
        | refine AWP.ret ?_
        | refine AWP.block ?_
        | refine AWP.exit ?_
        | refine ⟨_, h1, ?_⟩
        | refine ⟨_, h2, ?_⟩
        | refine Or.inl ?_)
      | (clear hK K))
  all_goals (first | exact fun _ h => (by cases h) | refine fin0 ?_)
  all_goals (simp only [cond_true, cond_false, zeroDt]; try rfl)
mutual
def plainB : Val → Bool
  | ⟨kind, _, _, kids, _, _, labels⟩ => !(decide (kind = 9) || decide ((0 : Int) < (labels.length : Int))) && plainBs kids
def plainBs : List Val → Bool
  | [] => true
  | v :: l => plainB v && plainBs l
end
theorem plainBs_all : ∀ l : List Val, plainBs l = l.all plainB
  | [] => by simp only [plainBs, List.all_nil]
  | v :: l => by simp only [plainBs, List.all_cons, plainBs_all l]
theorem plainB_eq (v : Val) : plainB v = (!(decide (v.kind = 9) || decide ((0 : Int) < (v.labels.length : Int))) && v.kids.all plainB) := by cases v; simp only [plainB, plainBs_all]
theorem plain_c (v : Val) : PC Try.prog 16 [Vt v] (Bo (plainB v)) := by
  have ih : ∀ k ∈ v.kids, PC Try.prog 16 [Vt k] (Bo (plainB k)) := fun k hk => plain_c k
  rw [plainB_eq]
  refine PCB.of_body Try.func16 rfl (by decide) Try.ntmps16 Try.results16 rfl rfl rfl ?_ rfl rfl
  cases h9 : decide (v.kind = 9)
  · cases hlb : decide ((0 : Int) < (v.labels.length : Int))
    ·
      repeat' (first
        | (simp only [go_sem, zA, zB, zC, zD, zE, zF, zG, reduceCtorEq, zH, zI, zJ, zK, zL, encVal_eq v, h9, hlb, List.length_map]; all_goals fail_if_success guard_target =ₛ False)
        | (with_reducible first
          | refine seqVC_stepN rfl fun K hK => ?_
          | refine seqVC_stepG rfl (by with_unfolding_all rfl) fun K hK => ?_
          | refine seqVC_nil ?_
          | (refine hK _ _ _ ?_; clear hK K)
          | (refine hK _ _ ?_; clear hK K)
          | (refine hK _ ?_; clear hK K)
          | refine AWP.seq fun K hK => ?_
          | refine AWP.seqR (by kernel_rfl) fun K hK => ?_
          | (refine AWP.cond (by with_unfolding_all rfl) (fun h => ?_) (fun h => ?_); all_goals (try simp only [Bool.not_eq_true', Bool.not_eq_false'] at h); (all_goals try first | (exact absurd h Bool.false_ne_true) | (exact absurd h.symm Bool.false_ne_true) | (exact absurd h (by decide))))
          | refine AWP.skip ?_
          | refine AWP.ret ?_
          | refine AWP.block ?_
          | refine AWP.exit ?_
          | (refine ⟨fun h => ?_, fun h => ?_⟩ <;> (try simp only [Bool.not_eq_true', Bool.not_eq_false'] at h) <;> try simp only [h])
          | refine Or.inl ?_)
        | (clear hK K))
      refine AWP.len 15 rfl fun hlen0 => ?_
      (try rw [List.length_map] at hlen0)
      refine AWP.range (S := Unit) (v.kids) encVal (fun k s => (17, I .i64 (k : Nat)) :: []) (fun k s => []) [15, 16] [] (fun k s => v.kids.all plainB = (v.kids.drop k).all plainB) (()) (by simp only [go_sem, zA, zB, zC, zD, zE, zF, zG, reduceCtorEq, zH, zI, zJ, zK, zL, encVal_eq v]; exact Gh.to [] (by repeat (first | exact trivial | refine ⟨rfl, ?_⟩ | refine ⟨by (simp only [go_sem, zA, zB, zC, zD, zE, zF, zG, reduceCtorEq, zH, zI, zJ, zK, zL, List.length_append, List.length_map, List.length_cons, List.length_nil, Nat.zero_add]) <;> rfl, ?_⟩)) (by repeat (first | exact trivial | refine ⟨rfl, ?_⟩ | refine ⟨by (simp only [go_sem, zA, zB, zC, zD, zE, zF, zG, reduceCtorEq, zH, zI, zJ, zK, zL, List.length_append, List.length_map, List.length_cons, List.length_nil, Nat.zero_add]) <;> rfl, ?_⟩)) rfl rfl rfl) ?_ ?_ ?_
      · rfl
      · intro k s x hlt hx hx' hb hok
        simp only [go_sem, zA, zB, zC, zD, zE, zF, zG, reduceCtorEq, zH, zI, zJ, zK, zL]
        have hix := ih x (List.mem_of_getElem? hx)
        rw [all_step hx] at hok
        cases hz : plainB x <;> simp only [hz, Bool.true_and, Bool.false_and] at hok
        ·
          repeat' (first
            | (simp only [go_sem, zA, zB, zC, zD, zE, zF, zG, reduceCtorEq, zH, zI, zJ, zK, zL, List.length_map, hb, hz]; all_goals fail_if_success guard_target =ₛ False)
            | (with_reducible first
              | refine seqVC_stepN rfl fun K hK => ?_
              | refine seqVC_stepG rfl (by with_unfolding_all rfl) fun K hK => ?_
              | refine seqVC_nil ?_
              | (refine hK _ _ _ ?_; clear hK K)
              | (refine hK _ _ ?_; clear hK K)
              | (refine hK _ ?_; clear hK K)
              | refine AWP.seq fun K hK => ?_
              | refine AWP.seqR (by kernel_rfl) fun K hK => ?_
              | (refine AWP.cond (by with_unfolding_all rfl) (fun h => ?_) (fun h => ?_); all_goals (try simp only [Bool.not_eq_true', Bool.not_eq_false'] at h); (all_goals try first | (exact absurd h Bool.false_ne_true) | (exact absurd h.symm Bool.false_ne_true) | (exact absurd h (by decide))))
              | refine AWP.skip ?_
              | refine AWP.ret ?_
              | refine AWP.block ?_
              | refine AWP.exit ?_
              | (refine ⟨fun h => ?_, fun h => ?_⟩ <;> (try simp only [Bool.not_eq_true', Bool.not_eq_false'] at h) <;> try simp only [h])
              | refine ⟨_, hix, ?_⟩
              | refine ⟨by omega, encVal x, hx', ?_⟩
              | refine Or.inl ?_)
            | (clear hK K))
          all_goals (first | exact fun _ h => (by cases h) | (refine fin0 ?_; first | rfl | (simp only [hok, Bool.and_true, Bool.and_false, Bool.true_and, Bool.false_and, Bool.or_true, Bool.or_false, Bool.true_or, Bool.false_or, Bool.not_true, Bool.not_false, cond_true, cond_false, decide_true, decide_false]; done) | (simp only [hok, Bool.and_true, Bool.and_false, Bool.true_and, Bool.false_and, Bool.or_true, Bool.or_false, Bool.true_or, Bool.false_or, Bool.not_true, Bool.not_false, cond_true, cond_false, decide_true, decide_false]; rfl)))
        ·
          repeat' (first
            | (simp only [go_sem, zA, zB, zC, zD, zE, zF, zG, reduceCtorEq, zH, zI, zJ, zK, zL, List.length_map, hb, hz]; all_goals fail_if_success guard_target =ₛ False)
            | (with_reducible first
              | refine seqVC_stepN rfl fun K hK => ?_
              | refine seqVC_stepG rfl (by with_unfolding_all rfl) fun K hK => ?_
              | refine seqVC_nil ?_
              | (refine hK _ _ _ ?_; clear hK K)
              | (refine hK _ _ ?_; clear hK K)
              | (refine hK _ ?_; clear hK K)
              | refine AWP.seq fun K hK => ?_
              | refine AWP.seqR (by kernel_rfl) fun K hK => ?_
              | (refine AWP.cond (by with_unfolding_all rfl) (fun h => ?_) (fun h => ?_); all_goals (try simp only [Bool.not_eq_true', Bool.not_eq_false'] at h); (all_goals try first | (exact absurd h Bool.false_ne_true) | (exact absurd h.symm Bool.false_ne_true) | (exact absurd h (by decide))))
              | refine AWP.skip ?_
              | refine AWP.ret ?_
              | refine AWP.block ?_
              | refine AWP.exit ?_
              | (refine ⟨fun h => ?_, fun h => ?_⟩ <;> (try simp only [Bool.not_eq_true', Bool.not_eq_false'] at h) <;> try simp only [h])
              | refine ⟨_, hix, ?_⟩
              | refine ⟨by omega, encVal x, hx', ?_⟩
              | refine Or.inl ?_)
            | (clear hK K))
          all_goals (rw [wrap_succ hlt hlen0])
          all_goals (refine ⟨(), ?_, Gh.to [] (by repeat (first | exact trivial | refine ⟨rfl, ?_⟩ | refine ⟨by (simp only [go_sem, zA, zB, zC, zD, zE, zF, zG, reduceCtorEq, zH, zI, zJ, zK, zL, List.length_append, List.length_map, List.length_cons, List.length_nil, Nat.zero_add]) <;> rfl, ?_⟩)) (by repeat (first | exact trivial | refine ⟨rfl, ?_⟩ | refine ⟨by (simp only [go_sem, zA, zB, zC, zD, zE, zF, zG, reduceCtorEq, zH, zI, zJ, zK, zL, List.length_append, List.length_map, List.length_cons, List.length_nil, Nat.zero_add]) <;> rfl, ?_⟩)) rfl rfl rfl⟩)
          all_goals exact hok
      · intro s hb hok
        simp only [go_sem, zA, zB, zC, zD, zE, zF, zG, reduceCtorEq, zH, zI, zJ, zK, zL]
        rw [all_end] at hok
        repeat' (first
          | (simp only [go_sem, zA, zB, zC, zD, zE, zF, zG, reduceCtorEq, zH, zI, zJ, zK, zL, List.length_map, hb]; all_goals fail_if_success guard_target =ₛ False)
          | (with_reducible first
            | refine seqVC_stepN rfl fun K hK => ?_
            | refine seqVC_stepG rfl (by with_unfolding_all rfl) fun K hK => ?_
            | refine seqVC_nil ?_
            | (refine hK _ _ _ ?_; clear hK K)
            | (refine hK _ _ ?_; clear hK K)
            | (refine hK _ ?_; clear hK K)
            | refine AWP.seq fun K hK => ?_
            | refine AWP.seqR (by kernel_rfl) fun K hK => ?_
            | (refine AWP.cond (by with_unfolding_all rfl) (fun h => ?_) (fun h => ?_); all_goals (try simp only [Bool.not_eq_true', Bool.not_eq_false'] at h); (all_goals try first | (exact absurd h Bool.false_ne_true) | (exact absurd h.symm Bool.false_ne_true) | (exact absurd h (by decide))))
            | refine AWP.skip ?_
            | refine AWP.ret ?_
            | refine AWP.block ?_
            | refine AWP.exit ?_
            | (refine ⟨fun h => ?_, fun h => ?_⟩ <;> (try simp only [Bool.not_eq_true', Bool.not_eq_false'] at h) <;> try simp only [h])
            | refine Or.inl ?_)
          | (clear hK K))
        all_goals (first | exact fun _ h => (by cases h) | (refine fin0 ?_; first | rfl | (simp only [hok, Bool.and_true, Bool.and_false, Bool.true_and, Bool.false_and, Bool.or_true, Bool.or_false, Bool.true_or, Bool.false_or, Bool.not_true, Bool.not_false, cond_true, cond_false, decide_true, decide_false]; done) | (simp only [hok, Bool.and_true, Bool.and_false, Bool.true_and, Bool.false_and, Bool.or_true, Bool.or_false, Bool.true_or, Bool.false_or, Bool.not_true, Bool.not_false, cond_true, cond_false, decide_true, decide_false]; rfl)))
    ·
      repeat' (first
        | (simp only [go_sem, zA, zB, zC, zD, zE, zF, zG, reduceCtorEq, zH, zI, zJ, zK, zL, encVal_eq v, h9, hlb, List.length_map]; all_goals fail_if_success guard_target =ₛ False)
        | (with_reducible first
          | refine seqVC_stepN rfl fun K hK => ?_
          | refine seqVC_stepG rfl (by with_unfolding_all rfl) fun K hK => ?_
          | refine seqVC_nil ?_
          | (refine hK _ _ _ ?_; clear hK K)
          | (refine hK _ _ ?_; clear hK K)
          | (refine hK _ ?_; clear hK K)
          | refine AWP.seq fun K hK => ?_
          | refine AWP.seqR (by kernel_rfl) fun K hK => ?_
          | (refine AWP.cond (by with_unfolding_all rfl) (fun h => ?_) (fun h => ?_); all_goals (try simp only [Bool.not_eq_true', Bool.not_eq_false'] at h); (all_goals try first | (exact absurd h Bool.false_ne_true) | (exact absurd h.symm Bool.false_ne_true) | (exact absurd h (by decide))))
          | refine AWP.skip ?_
          | refine AWP.ret ?_
          | refine AWP.block ?_
          | refine AWP.exit ?_
          | (refine ⟨fun h => ?_, fun h => ?_⟩ <;> (try simp only [Bool.not_eq_true', Bool.not_eq_false'] at h) <;> try simp only [h])
          | refine Or.inl ?_)
        | (clear hK K))
      all_goals (first | exact fun _ h => (by cases h) | (refine fin0 ?_; first | rfl | (simp only [Bool.and_true, Bool.and_false, Bool.true_and, Bool.false_and, Bool.or_true, Bool.or_false, Bool.true_or, Bool.false_or, Bool.not_true, Bool.not_false, cond_true, cond_false, decide_true, decide_false]; done) | (simp only [Bool.and_true, Bool.and_false, Bool.true_and, Bool.false_and, Bool.or_true, Bool.or_false, Bool.true_or, Bool.false_or, Bool.not_true, Bool.not_false, cond_true, cond_false, decide_true, decide_false]; rfl)))
  ·
    repeat' (first
      | (simp only [go_sem, zA, zB, zC, zD, zE, zF, zG, reduceCtorEq, zH, zI, zJ, zK, zL, encVal_eq v, h9]; all_goals fail_if_success guard_target =ₛ False)
      | (with_reducible first
        | refine seqVC_stepN rfl fun K hK => ?_
        | refine seqVC_stepG rfl (by with_unfolding_all rfl) fun K hK => ?_
        | refine seqVC_nil ?_
        | (refine hK _ _ _ ?_; clear hK K)
        | (refine hK _ _ ?_; clear hK K)
        | (refine hK _ ?_; clear hK K)
        | refine AWP.seq fun K hK => ?_
        | refine AWP.seqR (by kernel_rfl) fun K hK => ?_
        | (refine AWP.cond (by with_unfolding_all rfl) (fun h => ?_) (fun h => ?_); all_goals (try simp only [Bool.not_eq_true', Bool.not_eq_false'] at h); (all_goals try first | (exact absurd h Bool.false_ne_true) | (exact absurd h.symm Bool.false_ne_true) | (exact absurd h (by decide))))
        | refine AWP.skip ?_
        | refine AWP.ret ?_
        | refine AWP.block ?_
        | refine AWP.exit ?_
        | (refine ⟨fun h => ?_, fun h => ?_⟩ <;> (try simp only [Bool.not_eq_true', Bool.not_eq_false'] at h) <;> try simp only [h])
        | refine Or.inl ?_)
      | (clear hK K))
    all_goals (first | exact fun _ h => (by cases h) | (refine fin0 ?_; first | rfl | (simp only [Bool.and_true, Bool.and_false, Bool.true_and, Bool.false_and, Bool.or_true, Bool.or_false, Bool.true_or, Bool.false_or, Bool.not_true, Bool.not_false, cond_true, cond_false, decide_true, decide_false]; done) | (simp only [Bool.and_true, Bool.and_false, Bool.true_and, Bool.false_and, Bool.or_true, Bool.or_false, Bool.true_or, Bool.false_or, Bool.not_true, Bool.not_false, cond_true, cond_false, decide_true, decide_false]; rfl)))
termination_by bulkV v
decreasing_by exact bulk_kid hk
end Go.Proofs.Ytmpfdejckbceiaa
set_option linter.unusedSimpArgs false
set_option linter.unusedVariables false
set_option maxRecDepth 20000
set_option maxHeartbeats 1000000
namespace Go.Proofs.Ytmpfdejckbceiaa
open Go Go.Sx
open Nat renaming reduceBEq → zA, reduceBNe → zB, reduceAdd → zC, reduceSub → zD, reduceMul → zE, reduceLeDiff → zF, reduceLT → zG, reduceEqDiff → zH
open Int renaming reduceToNat → zI, reduceLE → zJ, reduceLT → zK, reduceEq → zL
theorem bulkEs_append : ∀ a b : List Ent, bulkEs (a ++ b) = bulkEs a + bulkEs b
  | [], b => by simp [bulkEs]
  | v :: a, b => by simp only [List.cons_append, bulkEs, bulkEs_append a b]; omega
theorem bulkVs_put (k : Nat) (v : Val) (l : List Val) : bulkVs (putAt k v l) = bulkVs l + bulkV v := by
  have h := bulkVs_append (l.take k) (l.drop k)
  rw [List.take_append_drop] at h
  unfold putAt
  simp only [bulkVs_append, bulkVs]
  omega
theorem bulkEs_put (k : Nat) (v : Ent) (l : List Ent) : bulkEs (putAt k v l) = bulkEs l + bulkE v := by
  have h := bulkEs_append (l.take k) (l.drop k)
  rw [List.take_append_drop] at h
  unfold putAt
  simp only [bulkEs_append, bulkEs]
  omega
theorem bulkVs_le {B : Nat} : ∀ {l : List Val}, (∀ x ∈ l, bulkV x ≤ B) → bulkVs l ≤ l.length * B
  | [], _ => by simp [bulkVs]
  | x :: l, h => by
    have h1 := h x (by simp)
    have h2 := bulkVs_le (B := B) (fun y hy => h y (List.mem_cons_of_mem _ hy))
    simp only [bulkVs, List.length_cons, Nat.add_mul]
    omega
theorem bulkEs_le {B : Nat} : ∀ {l : List Ent}, (∀ x ∈ l, bulkE x ≤ B) → bulkEs l ≤ l.length * B
  | [], _ => by simp [bulkEs]
  | x :: l, h => by
    have h1 := h x (by simp)
    have h2 := bulkEs_le (B := B) (fun y hy => h y (List.mem_cons_of_mem _ hy))
    simp only [bulkEs, List.length_cons, Nat.add_mul]
    omega
theorem sorted_len (l : List (List UInt8)) : (sortedV l).length ≤ l.length := by
  have h : ∀ (l acc : List (List UInt8)), (l.foldl insS acc).length ≤ acc.length + l.length := by
    intro l
    induction l with
    | nil => intro acc; simp
    | cons x l ih =>
      intro acc
      have h1 := ih (insS acc x)
      have h2 := insS_len acc x
      simp only [List.foldl_cons, List.length_cons]
      omega
  have := h l []
  simpa [sortedV] using this
theorem labels_len (s : Src) : (labelsV s).1.length ≤ 2 := by
  unfold labelsV
  cases decide (nextV s 3 = 1) <;> simp only [cond_true, cond_false]
  · simp
  · cases decide (nextV (nextS (nextS s 3) 3) 2 = 1) <;> simp only [cond_true, cond_false]
    · have := sorted_len [labelV (nextS s 3)]; simp at this; omega
    · have := sorted_len [labelV (nextS s 3), labelV (nextS (nextS (nextS s 3) 3) 2)]; simp at this; omega
theorem bulk_lab (r : Val × Src) : bulkV (lab r).1 ≤ bulkV r.1 + 2 := by
  have := labels_len r.2
  rw [bulkV_eq, bulkV_eq r.1]
  simp only [lab]
  omega
theorem bulk_zero : bulkV zeroVal = 1 := by rw [bulkV_eq]; simp [zeroVal, bulkVs, bulkEs]
theorem bulk_leafK (k : Int) (s : Src) : bulkV (leafK k s).1 ≤ 1 := by
  unfold leafK
  cases decide (k = 0) <;> cases decide (k = 1) <;> cases decide (k = 2) <;> cases decide (k = 3) <;> cases decide (k = 4) <;>
    (simp only [cond_true, cond_false]; rw [bulkV_eq]; simp [intVal, atomVal, strVal, pidVal, nilVal, tupVal, bulkVs, bulkEs])
theorem bulk_mapGo : ∀ (r : List (KeyD × Val)) (ks : List KeyD) (vs : List Val), bulkV (mapGo r ks vs).1 ≤ 1 + bulkVs vs + ks.length + bulkVs (r.map (·.2)) + r.length
  | [], ks, vs => by rw [mapGo, bulkV_eq]; simp [mapVal, bulkVs, bulkEs]
  | (x, v) :: r, ks, vs => by
    rw [mapGo]
    cases decide (ks[kPos ks x]? = some x) <;> simp only [cond_true, cond_false]
    · have := bulk_mapGo r (putAt (kPos ks x) x ks) (putAt (kPos ks x) v vs)
      rw [bulkVs_put, putAt_len] at this
      simp only [List.map_cons, bulkVs, List.length_cons]
      omega
    · rw [bulk_zero]; omega
theorem bulk_mapV (ks : List KeyD) (l : List Val) : bulkV (mapV ks l).1 ≤ 1 + bulkVs l + l.length := by
  unfold mapV
  cases hl : decide ((ks.length : Int) = (l.length : Int)) <;> simp only [cond_true, cond_false]
  · rw [bulk_zero]; omega
  · have hl2 : ks.length = l.length := by have := of_decide_eq_true hl; omega
    cases ks.all validKeyB <;> simp only [cond_true, cond_false]
    · rw [bulk_zero]; omega
    · have := bulk_mapGo (ks.zip l) [] []
      have e : (ks.zip l).map (·.2) = l := by rw [List.map_snd_zip]; omega
      rw [e] at this
      simp only [bulkVs, List.length_nil, List.length_zip] at this
      omega
theorem bulk_entries (l : List Ent) : bulkEs (entriesV l) ≤ bulkEs l := by
  have h : ∀ (l acc : List Ent), bulkEs (l.foldl insE acc) ≤ bulkEs acc + bulkEs l := by
    intro l
    induction l with
    | nil => intro acc; simp [bulkEs]
    | cons x l ih =>
      intro acc
      have h1 := ih (insE acc x)
      have h2 : bulkEs (insE acc x) ≤ bulkEs acc + bulkE x := by
        unfold insE
        generalize eqAtE _ _ _ = b
        cases b <;> simp only [cond_true, cond_false]
        · rw [bulkEs_put]; omega
        · omega
      simp only [List.foldl_cons, bulkEs]
      omega
  have := h l []
  simpa [entriesV, bulkEs] using this
theorem bulk_fnV (n : Int) (l : List Ent) : bulkV (fnV n l).1 ≤ 1 + bulkEs l := by
  unfold fnV
  have := bulk_entries l
  generalize (decide (n < 0) || decide (4 < n)) = b
  cases b <;> simp only [cond_true, cond_false]
  · generalize (l.all fun e => entB e n) = c
    cases c <;> simp only [cond_true, cond_false]
    · rw [bulk_zero]; omega
    · rw [bulkV_eq]; simp only [funVal, bulkVs, List.length_nil]; omega
  · rw [bulk_zero]; omega
theorem listM_bulk {f : Src → Val × Src} {B : Nat} (hf : ∀ s : Src, bulkV (f s).1 ≤ B) (n : Nat) (s : Src) : bulkVs (listM f n s).1 ≤ n * B := by
  have h := bulkVs_le (l := (listM f n s).1) (fun x hx => listM_mem (p := fun v => bulkV v ≤ B) hf n s x hx)
  rwa [listM_len] at h
theorem pairM_mem {f : Src → Val × Src} {p : Val → Prop} (hf : ∀ s : Src, p (f s).1) : ∀ (n : Nat) (s : Src), ∀ x ∈ (pairM f n s).1.2, p x
  | 0, s, x, h => by simp [pairM] at h
  | n + 1, s, x, h => by
    simp only [pairM, List.mem_cons] at h
    rcases h with rfl | h
    · exact hf _
    · exact pairM_mem hf n _ x h
theorem pairM_bulk {f : Src → Val × Src} {B : Nat} (hf : ∀ s : Src, bulkV (f s).1 ≤ B) (n : Nat) (s : Src) : bulkVs (pairM f n s).1.2 ≤ n * B := by
  have h := bulkVs_le (l := (pairM f n s).1.2) (fun x hx => pairM_mem (p := fun v => bulkV v ≤ B) hf n s x hx)
  rwa [(pairM_len f n s).2] at h
theorem entry_bulk {f : Src → Val × Src} {B : Nat} (hB : 1 ≤ B) (hf : ∀ s : Src, bulkV (f s).1 ≤ B) (n : Nat) (s : Src) : bulkE (entryV f n s).1 ≤ 1 + n * B + B := by
  have h := listM_bulk hf n s
  unfold entryV
  cases decide (nextV (listM f n s).2 4 = 1) <;> simp only [cond_true, cond_false] <;> rw [bulkE_eq]
  · have := hf (nextS (listM f n s).2 4); simp only; omega
  · simp only; rw [bulk_zero]; omega
theorem tail_bulk {f0 : Src → Val × Src} {B : Nat} (hf : ∀ s : Src, bulkV (f0 s).1 ≤ B) (big : Bool) (s : Src) : bulkV (tailV f0 big s).1 ≤ B + 2 := by
  have hn : bulkV nilVal = 1 := by rw [bulkV_eq]; simp [nilVal, bulkVs, bulkEs]
  unfold tailV
  cases big <;> cases decide (nextV s 2 = 1) <;> simp only [cond_true, cond_false]
  · omega
  · omega
  · omega
  · have := hf (nextS s 2)
    rw [bulkV_eq]; simp only [consVal, bulkVs, bulkEs, List.length_nil, hn]; omega
theorem bulk_valueK {f1 f0 : Src → Val × Src} {B1 B0 : Nat} (h1B : 1 ≤ B1) (h1 : ∀ s : Src, bulkV (f1 s).1 ≤ B1) (h0 : ∀ s : Src, bulkV (f0 s).1 ≤ B0) (big : Bool) (k : Int) (s : Src) : bulkV (valueK f1 f0 big k s).1 ≤ 8 * B1 + 8 * B0 + 20 := by
  have v4 := nextV_in s (n := 4) (by omega)
  have v3 := nextV_in s (n := 3) (by omega)
  have v33 := nextV_in (nextS s 3) (n := 3) (by omega)
  have hleaf : ∀ t, bulkV (leafV t).1 ≤ 1 := fun t => bulk_leafK _ _
  have m4 : ∀ m : Nat, m ≤ 3 → m * B1 ≤ 3 * B1 := fun m hm => Nat.mul_le_mul_right _ hm
  unfold valueK
  cases decide (k = 1) <;> simp only [cond_true, cond_false]
  · cases decide (k = 2) <;> simp only [cond_true, cond_false]
    · cases decide (k = 3) <;> simp only [cond_true, cond_false]
      · cases decide (k = 4) <;> simp only [cond_true, cond_false]
        · have := hleaf s; omega
        · generalize hn : (nextV s 3).toNat = n
          generalize hc : (nextV (nextS s 3) 3).toNat = c
          have hE : bulkEs (listM (entryV f1 n) c (nextS (nextS s 3) 3)).1 ≤ 2 * (1 + 3 * B1) := by
            have hb := bulkEs_le (l := (listM (entryV f1 n) c (nextS (nextS s 3) 3)).1) (B := 1 + 3 * B1) (fun x hx => listM_mem (p := fun e => bulkE e ≤ 1 + 3 * B1) (fun t => by
              have := entry_bulk h1B h1 n t
              have := Nat.mul_le_mul_right B1 (show n ≤ 2 by omega)
              omega) c _ x hx)
            rw [listM_len] at hb
            exact Nat.le_trans hb (Nat.mul_le_mul_right _ (by omega))
          have hF := bulk_fnV (nextV s 3) (listM (entryV f1 n) c (nextS (nextS s 3) 3)).1
          generalize decide ((fnV _ _).2 = 0) = b
          cases b <;> simp only [cond_true, cond_false]
          · have := hleaf (listM (entryV f1 n) c (nextS (nextS s 3) 3)).2; omega
          · omega
      · generalize hn : (nextV s 3).toNat = n
        have hP := pairM_bulk h1 n (nextS s 3)
        have hPl := pairM_len f1 n (nextS s 3)
        have hM := bulk_mapV (pairM f1 n (nextS s 3)).1.1 (pairM f1 n (nextS s 3)).1.2
        have := m4 n (by omega)
        generalize decide ((mapV _ _).2 = 0) = b
        cases b <;> simp only [cond_true, cond_false]
        · have := hleaf (pairM f1 n (nextS s 3)).2; omega
        · omega
    · have ht := tail_bulk h0 big s
      have hl := bulk_lab (tailV f0 big s)
      have hh := h1 (lab (tailV f0 big s)).2
      rw [bulkV_eq]; simp only [consVal, bulkVs, bulkEs, List.length_nil]
      omega
  · generalize hn : (nextV s 4).toNat = n
    have hP := listM_bulk h1 n (nextS s 4)
    have := m4 n (by omega)
    rw [bulkV_eq]; simp only [tupVal, bulkEs, List.length_nil]
    omega
def bnd : Nat → Nat
  | 0 => 1
  | 1 => 1
  | h + 2 => 8 * (bnd (h + 1) + 2) + 8 * (bnd h + 2) + 20
theorem bulk_valueF : ∀ (h : Nat) (s : Src), bulkV (valueF h s).1 ≤ bnd h
  | 0, s => bulk_leafK _ _
  | 1, s => bulk_leafK _ _
  | h + 2, s => bulk_valueK (by omega) (fun s => Nat.le_trans (bulk_lab _) (by have := bulk_valueF (h + 1) s; omega)) (fun s => Nat.le_trans (bulk_lab _) (by have := bulk_valueF h s; omega)) _ _ _
theorem bulk_full (h : Nat) (s : Src) : bulkV (fullV h s).1 ≤ bnd h + 2 := by
  have h1 := bulk_lab (valueF h s)
  have h2 := bulk_valueF h s
  unfold fullV
  omega
end Go.Proofs.Ytmpfdejckbceiaa
set_option linter.unusedSimpArgs false
set_option linter.unusedVariables false
set_option maxRecDepth 20000
set_option maxHeartbeats 1000000
namespace Go.Proofs.Ytmpfdejckbceiaa
open Go Go.Sx
open Nat renaming reduceBEq → zA, reduceBNe → zB, reduceAdd → zC, reduceSub → zD, reduceMul → zE, reduceLeDiff → zF, reduceLT → zG, reduceEqDiff → zH
open Int renaming reduceToNat → zI, reduceLE → zJ, reduceLT → zK, reduceEq → zL
theorem cmpI_anti (a b : Int) : cmpI b a = - cmpI a b := by
  unfold cmpI
  rcases Int.lt_trichotomy a b with h | h | h
  · have h1 : ¬ b < a := by omega
    simp [h, h1]
  · subst h; simp
  · have h1 : ¬ a < b := by omega
    simp [h, h1]
theorem cmpB_anti : ∀ a b : List UInt8, Lib.compareBytes b a = - Lib.compareBytes a b
  | [], [] => by simp [Lib.compareBytes]
  | [], _ :: _ => by simp [Lib.compareBytes]
  | _ :: _, [] => by simp [Lib.compareBytes]
  | x :: a, y :: b => by
    have ih := cmpB_anti a b
    simp only [Lib.compareBytes]
    by_cases h1 : x < y
    · have h2 : ¬ y < x := fun h => absurd (UInt8.lt_trans h1 h) (UInt8.lt_irrefl x)
      simp [h1, h2]
    · by_cases h2 : y < x
      · simp [h1, h2]
      · simp [h1, h2, ih]
theorem keyC_anti (a b : KeyD) : keyC b a = - keyC a b := by
  unfold keyC chainC
  rw [cmpI_anti a.kind b.kind, cmpB_anti a.text b.text]
  have : decide (-cmpI a.kind b.kind = 0) = decide (cmpI a.kind b.kind = 0) := by rw [← Bool.coe_iff_coe]; simp
  rw [this]
  cases decide (cmpI a.kind b.kind = 0) <;> rfl
theorem ascB_cons {α : Type} (f : α → α → Int) (x : α) (l : List α) : ascB f (x :: l) = ((match l with | [] => true | y :: _ => decide (f x y < 0)) && ascB f l) := by
  cases l <;> rfl
theorem asc_put {α : Type} (f : α → α → Int) (x : α) : ∀ l : List α, ascB f l = true → (∀ y, l[tw (fun y => decide (f y x < 0)) l]? = some y → f x y < 0) → ascB f (putAt (tw (fun y => decide (f y x < 0)) l) x l) = true
  | [], _, _ => rfl
  | y :: l, ha, hx => by
    rw [ascB_cons] at ha
    simp only [Bool.and_eq_true] at ha
    unfold tw at hx ⊢
    cases hy : decide (f y x < 0) with
    | false =>
      simp only [hy, cond_false, List.getElem?_cons_zero, Option.some.injEq, forall_eq'] at hx ⊢
      show ascB f (x :: y :: l) = true
      rw [ascB_cons, ascB_cons]
      simp only [hx, decide_true, Bool.true_and, Bool.and_eq_true]
      exact ha
    | true =>
      simp only [hy, cond_true] at hx ⊢
      rw [Nat.add_comm] at hx ⊢
      simp only [List.getElem?_cons_succ] at hx
      have ih := asc_put f x l ha.2 hx
      show ascB f (y :: putAt (tw (fun y => decide (f y x < 0)) l) x l) = true
      rw [ascB_cons, ih, Bool.and_true]
      have hyx : f y x < 0 := of_decide_eq_true hy
      cases l with
      | nil => exact hy
      | cons z l =>
        unfold tw
        cases hz : decide (f z x < 0) with
        | false => exact hy
        | true =>
          simp only [cond_true]
          rw [Nat.add_comm]
          exact ha.1
theorem tw_stop {α : Type} (p : α → Bool) : ∀ l : List α, tw p (l.drop (tw p l)) = 0
  | [] => rfl
  | z :: l => by
    have ih := tw_stop p l
    cases hz : p z with
    | true =>
      rw [show tw p (z :: l) = tw p l + 1 from by show (bif p z then 1 + tw p l else 0) = _; rw [hz, Nat.add_comm]; rfl]
      exact ih
    | false =>
      rw [show tw p (z :: l) = 0 from by show (bif p z then 1 + tw p l else 0) = _; rw [hz]; rfl]
      show (bif p z then 1 + tw p l else 0) = 0
      rw [hz]; rfl
def okLeaf (v : Val) : Prop := v.labels = [] ∧ (plainB v = true → treeB v = true)
theorem getD_prop {α : Type} {p : α → Prop} {l : List α} {d : α} (hl : ∀ x ∈ l, p x) (hd : p d) (i : Nat) : p (l.getD i d) := by
  rw [List.getD_eq_getElem?_getD]
  cases h : l[i]? with
  | none => exact hd
  | some x => exact hl x (List.mem_of_getElem? h)
theorem tree_nokids (v : Val) (hk : v.kids = []) (he : v.ents = []) : treeB v = nodeB v := by
  rw [treeB_kids, hk, he]; simp
theorem leafK_ok (k : Int) (s : Src) : okLeaf (leafK k s).1 := by
  have hw : ((wordV s).length : Int) ≤ 64 := getD_prop (p := fun w : List UInt8 => (w.length : Int) ≤ 64) (by simp [wordL]) (by simp) _
  have ha : isAtomB (atomV s) = true ∨ atomV s = [] := getD_prop (p := fun w : List UInt8 => isAtomB w = true ∨ w = []) (by simp only [atomL]; intro x hx; simp only [List.mem_cons, List.not_mem_nil, or_false] at hx; left; rcases hx with rfl | rfl | rfl | rfl <;> decide) (.inr rfl) _
  have hal : atomV s ≠ [] := by
    have hv := nextV_in s (n := 4) (by omega)
    have : (nextV s 4).toNat = 0 ∨ (nextV s 4).toNat = 1 ∨ (nextV s 4).toNat = 2 ∨ (nextV s 4).toNat = 3 := by omega
    unfold atomV
    rcases this with h | h | h | h <;> rw [h] <;> simp [atomL]
  have ha' : isAtomB (atomV s) = true := by rcases ha with h | h; exact h; exact absurd h hal
  have hp : 0 ≤ nextV s 3 := (nextV_in s (by omega)).1
  have hlb : labelsB [] = true := rfl
  unfold leafK
  cases decide (k = 0) <;> cases decide (k = 1) <;> cases decide (k = 2) <;> cases decide (k = 3) <;> cases decide (k = 4) <;> simp only [cond_true, cond_false] <;>
    (refine ⟨rfl, fun _ => ?_⟩; rw [tree_nokids _ rfl rfl]; simp [nodeB, kKnown, badFields, bodyB, kNum, kText, kKids, kKeys, kEnts, intVal, atomVal, strVal, pidVal, nilVal, tupVal, hlb, hw, ha', hp])
theorem tree_nil : treeB nilVal = true := by rw [tree_nokids _ rfl rfl]; rfl
theorem plain_cons (a b : Val) : plainB (consVal a b) = (plainB a && plainB b) := by
  rw [plainB_eq]; simp [consVal]
theorem tree_cons (a b : Val) (hb : b.kind = 5 ∨ b.kind = 7) : treeB (consVal a b) = (treeB a && treeB b) := by
  rw [treeB_kids]
  have hn : nodeB (consVal a b) = true := by
    have hlb : labelsB [] = true := rfl
    rcases hb with h | h <;> simp [nodeB, kKnown, badFields, bodyB, kNum, kText, kKids, kKeys, kEnts, consVal, hlb, kidKind, h]
  rw [hn]; simp [consVal]
theorem lab_plain (r : Val × Src) (hr : r.1.labels = []) (hp : plainB (lab r).1 = true) : (lab r).1 = r.1 := by
  rw [plainB_eq] at hp
  simp only [lab, Bool.and_eq_true, Bool.not_eq_true', Bool.or_eq_false_iff] at hp
  have h0 := hp.1.2
  have : (labelsV r.2).1 = [] := by
    have := of_decide_eq_false h0
    exact List.eq_nil_of_length_eq_zero (by omega)
  simp only [lab, this]
  obtain ⟨⟨k, n, t, kids, keys, ents, labels⟩, s⟩ := r
  simp only at hr ⊢
  rw [hr]
theorem lab_kind (r : Val × Src) : (lab r).1.kind = r.1.kind := rfl
def okFull (v : Val) : Prop := plainB v = true → treeB v = true
theorem lab_ok {r : Val × Src} (h : okLeaf r.1) : okFull (lab r).1 := by
  intro hp
  have e := lab_plain r h.1 hp
  rw [e] at hp ⊢
  exact h.2 hp
theorem tail_ok {f0 : Src → Val × Src} (hf : ∀ s : Src, okFull (f0 s).1) (big : Bool) (s : Src) : okLeaf (tailV f0 big s).1 ∧ ((tailV f0 big s).1.kind = 5 ∨ (tailV f0 big s).1.kind = 7) := by
  unfold tailV
  cases big <;> cases decide (nextV s 2 = 1) <;> simp only [cond_true, cond_false]
  · exact ⟨⟨rfl, fun _ => tree_nil⟩, .inl rfl⟩
  · exact ⟨⟨rfl, fun _ => tree_nil⟩, .inl rfl⟩
  · exact ⟨⟨rfl, fun _ => tree_nil⟩, .inl rfl⟩
  · refine ⟨⟨rfl, fun hp => ?_⟩, .inr rfl⟩
    rw [plain_cons, Bool.and_eq_true] at hp
    rw [tree_cons _ _ (.inl rfl), hf _ hp.1, tree_nil]; rfl
theorem putAt_all {α : Type} (p : α → Bool) (k : Nat) (x : α) (l : List α) : (putAt k x l).all p = (p x && l.all p) := by
  have h : l.all p = ((l.take k).all p && (l.drop k).all p) := by rw [← List.all_append, List.take_append_drop]
  unfold putAt
  rw [h]
  simp only [List.all_append, List.all_cons, List.all_nil, Bool.and_true]
  cases (l.take k).all p <;> cases (l.drop k).all p <;> cases p x <;> rfl
/-- what a made map is -/
theorem mapGo_ok : ∀ (r : List (KeyD × Val)) (ks : List KeyD) (vs : List Val), ks.length = vs.length → ascB keyC ks = true → ks.all validKeyB = true → (r.map (·.1)).all validKeyB = true →
    (mapGo r ks vs).2 = 0 → ∃ ks' vs', (mapGo r ks vs).1 = mapVal ks' vs' ∧ ks'.length = vs'.length ∧ ascB keyC ks' = true ∧ ks'.all validKeyB = true ∧ ∀ p : Val → Bool, vs'.all p = (vs.all p && (r.map (·.2)).all p)
  | [], ks, vs, hl, ha, hv, _, _ => ⟨ks, vs, by rw [mapGo], hl, ha, hv, fun p => by simp⟩
  | (x, v) :: r, ks, vs, hl, ha, hv, hr, h0 => by
    rw [mapGo] at h0 ⊢
    simp only [List.map_cons, List.all_cons, Bool.and_eq_true] at hr
    cases hd : decide (ks[kPos ks x]? = some x) with
    | true => rw [hd] at h0; simp at h0
    | false =>
      rw [hd] at h0
      simp only [cond_false] at h0 ⊢
      have hne := of_decide_eq_false hd
      have ha' : ascB keyC (putAt (kPos ks x) x ks) = true := by
        refine asc_put keyC x ks ha ?_
        intro y hy
        have hyx : ¬ keyC y x < 0 := by
          intro hlt
          have h1 := tw_step (p := fun y => decide (keyC y x < 0)) (k := tw (fun y => decide (keyC y x < 0)) ks) hy
          rw [decide_eq_true hlt] at h1
          have h2 := tw_stop (fun y => decide (keyC y x < 0))
          rw [h2] at h1
          simp only [cond_true] at h1
          omega
        have hz : keyC y x ≠ 0 := by
          intro h
          have := keyC_zero.1 h
          subst this
          exact hne hy
        have := keyC_anti y x
        omega
      obtain ⟨ks', vs', e, h1, h2, h3, h4⟩ := mapGo_ok r (putAt (kPos ks x) x ks) (putAt (kPos ks x) v vs) (by rw [putAt_len, putAt_len, hl]) ha' (by rw [putAt_all, hr.1, hv]; rfl) hr.2 h0
      refine ⟨ks', vs', e, h1, h2, h3, fun p => ?_⟩
      rw [h4 p, putAt_all]
      simp only [List.map_cons, List.all_cons]
      cases p v <;> cases vs.all p <;> rfl
theorem mapV_ok {ks : List KeyD} {l : List Val} (hf : ∀ v ∈ l, okFull v) (h0 : (mapV ks l).2 = 0) : okLeaf (mapV ks l).1 := by
  unfold mapV at *
  cases hl : decide ((ks.length : Int) = (l.length : Int)) <;> rw [hl] at h0 <;> simp only [cond_true, cond_false] at h0 ⊢
  · simp at h0
  · have hl2 : ks.length = l.length := by have := of_decide_eq_true hl; omega
    cases hv : ks.all validKeyB <;> rw [hv] at h0 <;> simp only [cond_true, cond_false] at h0 ⊢
    · simp at h0
    · have e1 : (ks.zip l).map (·.1) = ks := by rw [List.map_fst_zip]; omega
      have e2 : (ks.zip l).map (·.2) = l := by rw [List.map_snd_zip]; omega
      obtain ⟨ks', vs', e, h1, h2, h3, h4⟩ := mapGo_ok (ks.zip l) [] [] rfl rfl rfl (by rw [e1, hv]) h0
      rw [e2] at h4
      rw [e]
      refine ⟨rfl, fun hp => ?_⟩
      have hpl := h4 plainB
      have htr := h4 treeB
      rw [plainB_eq] at hp
      have hpk : vs'.all plainB = true := by simp [mapVal] at hp; simpa using hp
      rw [hpk] at hpl
      have hall : l.all treeB = true := by
        rw [List.all_eq_true]
        intro v hv'
        refine hf v hv' ?_
        have : l.all plainB = true := by simpa using hpl.symm
        exact List.all_eq_true.1 this v hv'
      rw [hall] at htr
      rw [treeB_kids]
      have hlb : labelsB [] = true := rfl
      have hn : nodeB (mapVal ks' vs') = true := by simp [nodeB, kKnown, badFields, bodyB, kNum, kText, kKids, kKeys, kEnts, mapVal, hlb, mapB, h1, h2, h3]
      rw [hn]
      simp only [mapVal, htr]; rfl
theorem valueK_ok {f1 f0 : Src → Val × Src} (h1 : ∀ s : Src, okFull (f1 s).1) (h0 : ∀ s : Src, okFull (f0 s).1) (big : Bool) (k : Int) (s : Src) : okLeaf (valueK f1 f0 big k s).1 := by
  have v4 := nextV_in s (n := 4) (by omega)
  have hlb : labelsB [] = true := rfl
  unfold valueK
  cases decide (k = 1) <;> simp only [cond_true, cond_false]
  · cases decide (k = 2) <;> simp only [cond_true, cond_false]
    · cases decide (k = 3) <;> simp only [cond_true, cond_false]
      · cases decide (k = 4) <;> simp only [cond_true, cond_false]
        · exact leafK_ok _ _
        · generalize hn : (nextV s 3).toNat = n
          generalize (listM (entryV f1 n) (nextV (nextS s 3) 3).toNat (nextS (nextS s 3) 3)) = q
          cases hb : decide ((fnV (nextV s 3) q.1).2 = 0) <;> simp only [cond_true, cond_false]
          · exact leafK_ok _ _
          · unfold fnV at hb ⊢
            generalize (decide (nextV s 3 < 0) || decide (4 < nextV s 3)) = b1 at *
            cases b1 <;> simp only [cond_true, cond_false] at hb ⊢
            · generalize (q.1.all fun e => entB e (nextV s 3)) = b2 at *
              cases b2 <;> simp only [cond_true, cond_false] at hb ⊢
              · simp at hb
              · refine ⟨rfl, fun hp => ?_⟩
                rw [plainB_eq] at hp; simp [funVal] at hp
            · simp at hb
      · generalize hn : (nextV s 3).toNat = n
        cases hb : decide ((mapV (pairM f1 n (nextS s 3)).1.1 (pairM f1 n (nextS s 3)).1.2).2 = 0) <;> simp only [cond_true, cond_false]
        · exact leafK_ok _ _
        · exact mapV_ok (fun v hv => pairM_mem (p := okFull) h1 n _ v hv) (of_decide_eq_true hb)
    · have ht := tail_ok h0 big s
      refine ⟨rfl, fun hp => ?_⟩
      rw [plain_cons, Bool.and_eq_true] at hp
      rw [tree_cons _ _ (by rw [lab_kind]; exact ht.2), h1 _ hp.1, lab_ok ht.1 hp.2]; rfl
  · generalize hn : (nextV s 4).toNat = n
    refine ⟨rfl, fun hp => ?_⟩
    rw [plainB_eq] at hp
    have hpk : (listM f1 n (nextS s 4)).1.all plainB = true := by simp [tupVal] at hp; simpa using hp
    have hall : (listM f1 n (nextS s 4)).1.all treeB = true := by
      rw [List.all_eq_true] at hpk ⊢
      intro v hv
      exact listM_mem (p := okFull) h1 n _ v hv (hpk v hv)
    rw [treeB_kids]
    have hln := listM_len f1 n (nextS s 4)
    have hl4 : ((listM f1 n (nextS s 4)).1.length : Int) ≤ 4 := by rw [hln]; omega
    have hn : nodeB (tupVal (listM f1 n (nextS s 4)).1) = true := by simp [nodeB, kKnown, badFields, bodyB, kNum, kText, kKids, kKeys, kEnts, tupVal, hlb, hl4]
    rw [hn]
    simp only [tupVal, hall]; rfl
theorem valueF_ok : ∀ (h : Nat) (s : Src), okLeaf (valueF h s).1
  | 0, s => leafK_ok _ _
  | 1, s => leafK_ok _ _
  | h + 2, s => valueK_ok (fun s => lab_ok (valueF_ok (h + 1) s)) (fun s => lab_ok (valueF_ok h s)) _ _ _
theorem full_ok (h : Nat) (s : Src) : okFull (fullV h s).1 := lab_ok (valueF_ok h s)
/-- a plain valid value is shown again by its datum -/
theorem erase_of (v : Val) (hp : plainB v = true) (ht : treeB v = true) : eraseV (ofV v) = v := by
  have ih : ∀ k ∈ v.kids, plainB k = true → treeB k = true → eraseV (ofV k) = k := fun k hk => erase_of k
  rw [plainB_eq] at hp
  rw [treeB_kids] at ht
  simp only [Bool.and_eq_true, Bool.not_eq_true', Bool.or_eq_false_iff] at hp ht
  obtain ⟨⟨h9, hl⟩, hpk⟩ := hp
  obtain ⟨hn, htk, _⟩ := ht
  have hlab : v.labels = [] := by
    have := of_decide_eq_false hl
    exact List.eq_nil_of_length_eq_zero (by omega)
  have hent : v.ents = [] := by
    unfold nodeB badFields kEnts at hn
    rw [h9] at hn
    simp only [Bool.and_eq_true, Bool.not_eq_true', Bool.or_eq_false_iff, Bool.and_eq_false_iff] at hn
    have := hn.2.2.1.2.2.2.2
    have h5 : ¬ (0 : Int) < (v.ents.length : Int) := by simpa using this
    exact List.eq_nil_of_length_eq_zero (by omega)
  have hkids : (v.kids.map ofV).map eraseV = v.kids := by
    rw [List.map_map]
    conv => rhs; rw [← List.map_id v.kids]
    refine List.map_congr_left fun k hk => ?_
    exact ih k hk (List.all_eq_true.1 hpk k hk) (List.all_eq_true.1 htk k hk)
  rw [ofV_eq, h9]
  simp only [cond_false]
  rw [eraseV_eq]
  simp only [h9, cond_false, hkids]
  obtain ⟨k, n, t, kids, keys, ents, labels⟩ := v
  simp only at hlab hent
  rw [hlab, hent]
termination_by bulkV v
decreasing_by exact bulk_kid hk
theorem small_of (v : Val) (hv : bulkV v ≤ 1000000) : Small (ofV v) := by
  have ih : ∀ k ∈ v.kids, Small (ofV k) := fun k hk => small_of k (by have := bulk_kid hk; omega)
  have h1 := bulkV_eq v
  have h2 := bulkVs_len v.kids
  rw [ofV_eq]
  cases decide (v.kind = 9) <;> simp only [cond_true, cond_false]
  · refine Small.mk _ (by simp; omega) (by simp; omega) ?_
    intro k hk
    simp only [List.mem_map] at hk
    obtain ⟨w, hw, rfl⟩ := hk
    exact ih w hw
  · exact Small.mk _ (by simp [zeroDat]) (by simp [zeroDat]) (by simp [zeroDat])
termination_by bulkV v
decreasing_by exact bulk_kid hk
end Go.Proofs.Ytmpfdejckbceiaa
set_option linter.unusedSimpArgs false
set_option linter.unusedVariables false
set_option maxRecDepth 20000
namespace Go.Proofs.Ytmpfdejckbceiaa
open Go Go.Sx
open Nat renaming reduceBEq → zA, reduceBNe → zB, reduceAdd → zC, reduceSub → zD, reduceMul → zE, reduceLeDiff → zF, reduceLT → zG, reduceEqDiff → zH
open Int renaming reduceToNat → zI, reduceLE → zJ, reduceLT → zK, reduceEq → zL
def intC (a : Int) : List C := [.int .i64 1, .int .i64 a, .str [], .sl 13 [], .sl 2 [], .str [], .int .i64 0, .int .i64 0, .bool false, .sl 8 [], .int .i64 0, .str [], .str []]
theorem encInt_eq (a : Int) : encDat (intDat a) = intC a := by rw [encDat_eq]; rfl
abbrev ints (a b : Int) : T := .one (.dat (.sl 13 [encDat (intDat a), encDat (intDat b)]))
abbrev IsOp (op : List UInt8) : Prop := op = [43] ∨ op = [45] ∨ op = [100, 105, 118] ∨ op = [114, 101, 109]

theorem operInt_c (op : List UInt8) (hop : IsOp op) (a b : Int) :
    PC Try.prog 9 [S op, ints a b] (.tup [Dt (intRes op a b).1, I .i64 0, S (intRes op a b).2]) := by
  have hk : ∀ a : Int, (intDat a).kind = 1 := fun _ => rfl
  have hn : ∀ a : Int, (intDat a).num = a := fun _ => rfl
  rcases hop with h | h | h | h
  all_goals subst h
  all_goals (refine PCB.of_body Try.func9 rfl (by decide) Try.ntmps9 Try.results9 rfl rfl rfl ?_ rfl rfl)
  repeat' (first
    | (simp only [go_sem, zA, zB, zC, zD, zE, zF, zG, reduceCtorEq, zH, zI, zJ, zK, zL, hk, hn]; all_goals fail_if_success guard_target =ₛ False)
    | (with_reducible first
      | refine seqVC_stepN rfl fun K hK => ?_
      | refine seqVC_stepG rfl (by with_unfolding_all rfl) fun K hK => ?_
      | refine seqVC_nil ?_
      | (refine hK _ _ _ ?_; clear hK K)
      | (refine hK _ _ ?_; clear hK K)
      | (refine hK _ ?_; clear hK K)
      | refine AWP.seq fun K hK => ?_
      | refine AWP.seqR (by kernel_rfl) fun K hK => ?_
      | refine parVC_stepN rfl fun K hK => ?_
      | refine parVC_stepG rfl (by with_unfolding_all rfl) fun K hK => ?_
      | refine parEVC_stepN rfl fun K hK => ?_
      | refine parEVC_stepG rfl (by with_unfolding_all rfl) fun K hK => ?_
      | refine genVC_stepN rfl fun K hK => ?_
      | refine genVC_stepG rfl (by with_unfolding_all rfl) fun K hK => ?_
      | refine parVC_nil ?_
      | refine parEVC_nil ?_
      | refine genVC_nil ?_
      | (refine AWP.cond (by with_unfolding_all rfl) (fun h => ?_) (fun h => ?_); all_goals (try simp only [Bool.not_eq_true', Bool.not_eq_false'] at h); (all_goals try first | (exact absurd h Bool.false_ne_true) | (exact absurd h.symm Bool.false_ne_true) | (exact absurd h (by decide))))
      | refine AWP.skip ?_
      | refine AWP.ret ?_
      | refine AWP.block ?_
      | refine AWP.exit ?_
      | (refine ⟨fun h => ?_, fun h => ?_⟩ <;> (try simp only [Bool.not_eq_true', Bool.not_eq_false'] at h) <;> try simp only [h])
      | refine ⟨_, integers_c _ _ _, ?_⟩
      | (refine AWP.parE1 4 mixed (by kernel_rfl) fun K hK => ?_; simp only [Bx.drop, cond_true, cond_false, Nat.reduceBEq])
      | refine AWP.parR mixed (by kernel_rfl) fun K hK => ?_
      | refine ⟨(by kernel_rfl : depB _ _ _ = true), ?_⟩
      | refine Or.inl ?_)
    | (clear hK K))
  all_goals exact fun _ h => by cases h

theorem ints_lit (a b : Int) : (T.one (.dat (.sl 13 [[.int .i64 1, .int .i64 a, .str [], .sl 13 [], .sl 2 [], .str [], .int .i64 0, .int .i64 0, .bool false, .sl 8 [], .int .i64 0, .str [], .str []],
    [.int .i64 1, .int .i64 b, .str [], .sl 13 [], .sl 2 [], .str [], .int .i64 0, .int .i64 0, .bool false, .sl 8 [], .int .i64 0, .str [], .str []]])) : T) = ints a b := by
  show _ = T.one (.dat (.sl 13 [encDat (intDat a), encDat (intDat b)]))
  rw [encInt_eq, encInt_eq]; rfl
theorem r1 : intRes [100, 105, 118] (-7) 2 = (intDat (-3), []) := by rfl
theorem r2 : intRes [114, 101, 109] (-7) 2 = (intDat (-1), []) := by rfl
theorem r3 : (intDat (-3)).num = -3 := rfl
theorem r4 : (intDat (-1)).num = -1 := rfl
theorem awake_c : PC Try.prog 12 [] (Bo true) := by
  refine PCB.of_body Try.func12 rfl (by decide) Try.ntmps12 Try.results12 rfl rfl rfl ?_ rfl rfl
  repeat' (first
    | (simp only [go_sem, zA, zB, zC, zD, zE, zF, zG, reduceCtorEq, zH, zI, zJ, zK, zL, ints_lit, r1, r2, r3, r4]; all_goals fail_if_success guard_target =ₛ False)
    | (with_reducible first
      | refine seqVC_stepN rfl fun K hK => ?_
      | refine seqVC_stepG rfl (by with_unfolding_all rfl) fun K hK => ?_
      | refine seqVC_nil ?_
      | (refine hK _ _ _ ?_; clear hK K)
      | (refine hK _ _ ?_; clear hK K)
      | (refine hK _ ?_; clear hK K)
      | refine AWP.seq fun K hK => ?_
      | refine AWP.seqR (by kernel_rfl) fun K hK => ?_
      | (refine AWP.cond (by with_unfolding_all rfl) (fun h => ?_) (fun h => ?_); all_goals (try simp only [Bool.not_eq_true', Bool.not_eq_false'] at h); (all_goals try first | (exact absurd h Bool.false_ne_true) | (exact absurd h.symm Bool.false_ne_true) | (exact absurd h (by decide))))
      | refine AWP.skip ?_
      | refine AWP.ret ?_
      | refine AWP.block ?_
      | refine AWP.exit ?_
      | (refine ⟨fun h => ?_, fun h => ?_⟩ <;> (try simp only [Bool.not_eq_true', Bool.not_eq_false'] at h) <;> try simp only [h])
      | refine ⟨_, operInt_c _ (by decide) _ _, ?_⟩)
    | (refine ⟨_, hasFunction_c ⟨9, 0, [], [], [], [], 0, 0, false, [], 0, [], []⟩, ?_⟩)
    | (with_reducible first
      | refine Or.inl ?_)
    | (clear hK K))
  all_goals exact ⟨rfl, fun _ h => by cases h⟩
end Go.Proofs.Ytmpfdejckbceiaa






set_option linter.unusedSimpArgs false
set_option linter.unusedVariables false
set_option maxRecDepth 20000
set_option maxHeartbeats 4000000
namespace Go.Proofs.Ytmpfdejckbceiaa
open Go Go.Sx
open Nat renaming reduceBEq → zA, reduceBNe → zB, reduceAdd → zC, reduceSub → zD, reduceMul → zE, reduceLeDiff → zF, reduceLT → zG, reduceEqDiff → zH
open Int renaming reduceToNat → zI, reduceLE → zJ, reduceLT → zK, reduceEq → zL
theorem cut_eq {α : Type} (f : α → List C) (l : List α) (k : Nat) : (List.take (if ((k : Nat) : Int) < (l.length : Int) then ((k : Nat) : Int) else (l.length : Int)).toNat (List.map f l)) = (l.take k).map f := by
  rw [List.map_take]
  split
  · rfl
  · rw [Int.toNat_natCast, List.take_of_length_le (by simp), List.take_of_length_le (by simp; omega)]
theorem cut60 {α : Type} (f : α → List C) (l : List α) : (List.take (if (60 : Int) < (l.length : Int) then (60 : Int) else (l.length : Int)).toNat (List.map f l)) = (l.take 60).map f := cut_eq f l 60
end Go.Proofs.Ytmpfdejckbceiaa
set_option linter.unusedSimpArgs false
set_option linter.unusedVariables false
set_option maxRecDepth 20000
set_option maxHeartbeats 4000000
namespace Go.Proofs.Ytmpfdejckbceiaa
open Go Go.Sx
open Nat renaming reduceBEq → zA, reduceBNe → zB, reduceAdd → zC, reduceSub → zD, reduceMul → zE, reduceLeDiff → zF, reduceLT → zG, reduceEqDiff → zH
open Int renaming reduceToNat → zI, reduceLE → zJ, reduceLT → zK, reduceEq → zL
theorem small_ofW (v : Val) (hv : bulkV v ≤ 1000000) : Small (ofW v) := by
  unfold ofW
  cases treeB v <;> simp only [cond_true, cond_false]
  · exact Small.mk _ (by simp [zeroDat]) (by simp [zeroDat]) (by simp [zeroDat])
  · exact small_of v hv
theorem back_law (l : List Int) (hl : ∀ x ∈ l, In64 x) : PC Try.prog 5 [.one (.dat (.sl 1 (l.map encInt)))] (Bo true) := by
  have hs0 : (Src.mk (l.take 60) 0).ok := ⟨fun x hx => hl x (List.mem_of_mem_take hx), by simp; omega⟩
  have hok := full_ok 4 ⟨l.take 60, 0⟩
  have hbk := bulk_full 4 ⟨l.take 60, 0⟩
  have hbn : bnd 4 = 5428 := rfl
  rw [hbn] at hbk
  have hval := sourceValue_c 4 (by omega) ⟨l.take 60, 0⟩ hs0
  generalize hv : (fullV 4 ⟨l.take 60, 0⟩).1 = v at *
  generalize (fullV 4 ⟨l.take 60, 0⟩).2 = s' at *
  have hsm : Sm v := by unfold Sm; omega
  have hval' : PCBk Try.prog 15 [Sp 11, I .i64 (4 : Nat)] 11 (srcB ⟨l.take 60, 0⟩) (Vt v) (srcB s') := PCBk.mk 11 hval
  have hp := plain_c v
  have ho := datumOf_c v hsm
  have hr := refOf_c v hsm
  have he := erase_c (ofW v) (small_ofW v (by omega))
  have hq := refEqual_c (eraseV (ofW v)) v
  have hf := hasFunction_c (ofW v)
  have hg := refHasFunction_c (ofW v)
  have hpv : plainB v = true → decide (valC (eraseV (ofW v)) v = 0) = true := by
    intro h
    have ht := hok h
    rw [decide_eq_true_eq, valC_zero, ofW, ht]
    exact erase_of v h ht
  refine PCB.of_body Try.func5 rfl (by decide) Try.ntmps5 Try.results5 rfl rfl rfl ?_ rfl rfl
  cases hpl : plainB v <;> cases hhf : hasFun (ofW v)
  ·
    repeat' (first
      | (simp only [go_sem, zA, zB, zC, zD, zE, zF, zG, reduceCtorEq, zH, zI, zJ, zK, zL, List.length_map, List.drop_zero, cut60, hpl, hhf,  beq_self_eq_true]; all_goals fail_if_success guard_target =ₛ False)
      | (with_reducible first
        | refine seqVC_stepN rfl fun K hK => ?_
        | refine seqVC_stepG rfl (by with_unfolding_all rfl) fun K hK => ?_
        | refine seqVC_nil ?_
        | (refine hK _ _ _ ?_; clear hK K)
        | (refine hK _ _ ?_; clear hK K)
        | (refine hK _ ?_; clear hK K)
        | refine AWP.seq fun K hK => ?_
        | refine AWP.seqR (by kernel_rfl) fun K hK => ?_
        | refine parVC_stepN rfl fun K hK => ?_
        | refine parVC_stepG rfl (by with_unfolding_all rfl) fun K hK => ?_
        | refine parEVC_stepN rfl fun K hK => ?_
        | refine parEVC_stepG rfl (by with_unfolding_all rfl) fun K hK => ?_
        | refine genVC_stepN rfl fun K hK => ?_
        | refine genVC_stepG rfl (by with_unfolding_all rfl) fun K hK => ?_
        | refine parVC_nil ?_
        | refine parEVC_nil ?_
        | refine genVC_nil ?_
        | (refine AWP.cond (by with_unfolding_all rfl) (fun h => ?_) (fun h => ?_); all_goals (try simp only [Bool.not_eq_true', Bool.not_eq_false'] at h); (all_goals try first | (exact absurd h Bool.false_ne_true) | (exact absurd h.symm Bool.false_ne_true) | (exact absurd h (by decide))))
        | refine AWP.skip ?_
        | refine AWP.ret ?_
        | refine AWP.block ?_
        | refine AWP.exit ?_
        | (refine ⟨fun h => ?_, fun h => ?_⟩ <;> (try simp only [Bool.not_eq_true', Bool.not_eq_false'] at h) <;> try simp only [h])
        | (refine ⟨by split <;> omega, by split <;> omega, ?_⟩)
        | refine ⟨_, hp, ?_⟩
        | refine ⟨_, ho, ?_⟩
        | refine ⟨_, hr, ?_⟩
        | refine ⟨_, he, ?_⟩
        | refine ⟨_, hq, ?_⟩
        | refine ⟨_, hf, ?_⟩
        | refine ⟨_, hg, ?_⟩
        | refine ⟨_, awake_c, ?_⟩)
      | (refine ⟨11, _, _, _, hval', rfl, ?_⟩)
      | (with_reducible first
        | refine AWP.parR mixed (by kernel_rfl) fun K hK => ?_
        | refine ⟨(by kernel_rfl : depB _ _ _ = true), ?_⟩
        | refine Or.inl ?_)
      | (clear hK K))
    all_goals (first | exact fun _ h => (by cases h) | refine fin0 ?_)
    all_goals rfl
  ·
    repeat' (first
      | (simp only [go_sem, zA, zB, zC, zD, zE, zF, zG, reduceCtorEq, zH, zI, zJ, zK, zL, List.length_map, List.drop_zero, cut60, hpl, hhf,  beq_self_eq_true]; all_goals fail_if_success guard_target =ₛ False)
      | (with_reducible first
        | refine seqVC_stepN rfl fun K hK => ?_
        | refine seqVC_stepG rfl (by with_unfolding_all rfl) fun K hK => ?_
        | refine seqVC_nil ?_
        | (refine hK _ _ _ ?_; clear hK K)
        | (refine hK _ _ ?_; clear hK K)
        | (refine hK _ ?_; clear hK K)
        | refine AWP.seq fun K hK => ?_
        | refine AWP.seqR (by kernel_rfl) fun K hK => ?_
        | refine parVC_stepN rfl fun K hK => ?_
        | refine parVC_stepG rfl (by with_unfolding_all rfl) fun K hK => ?_
        | refine parEVC_stepN rfl fun K hK => ?_
        | refine parEVC_stepG rfl (by with_unfolding_all rfl) fun K hK => ?_
        | refine genVC_stepN rfl fun K hK => ?_
        | refine genVC_stepG rfl (by with_unfolding_all rfl) fun K hK => ?_
        | refine parVC_nil ?_
        | refine parEVC_nil ?_
        | refine genVC_nil ?_
        | (refine AWP.cond (by with_unfolding_all rfl) (fun h => ?_) (fun h => ?_); all_goals (try simp only [Bool.not_eq_true', Bool.not_eq_false'] at h); (all_goals try first | (exact absurd h Bool.false_ne_true) | (exact absurd h.symm Bool.false_ne_true) | (exact absurd h (by decide))))
        | refine AWP.skip ?_
        | refine AWP.ret ?_
        | refine AWP.block ?_
        | refine AWP.exit ?_
        | (refine ⟨fun h => ?_, fun h => ?_⟩ <;> (try simp only [Bool.not_eq_true', Bool.not_eq_false'] at h) <;> try simp only [h])
        | (refine ⟨by split <;> omega, by split <;> omega, ?_⟩)
        | refine ⟨_, hp, ?_⟩
        | refine ⟨_, ho, ?_⟩
        | refine ⟨_, hr, ?_⟩
        | refine ⟨_, he, ?_⟩
        | refine ⟨_, hq, ?_⟩
        | refine ⟨_, hf, ?_⟩
        | refine ⟨_, hg, ?_⟩
        | refine ⟨_, awake_c, ?_⟩)
      | (refine ⟨11, _, _, _, hval', rfl, ?_⟩)
      | (with_reducible first
        | refine AWP.parR mixed (by kernel_rfl) fun K hK => ?_
        | refine ⟨(by kernel_rfl : depB _ _ _ = true), ?_⟩
        | refine Or.inl ?_)
      | (clear hK K))
    all_goals (first | exact fun _ h => (by cases h) | refine fin0 ?_)
    all_goals rfl
  · have hpv' := hpv hpl
    repeat' (first
      | (simp only [go_sem, zA, zB, zC, zD, zE, zF, zG, reduceCtorEq, zH, zI, zJ, zK, zL, List.length_map, List.drop_zero, cut60, hpl, hhf, hpv', beq_self_eq_true]; all_goals fail_if_success guard_target =ₛ False)
      | (with_reducible first
        | refine seqVC_stepN rfl fun K hK => ?_
        | refine seqVC_stepG rfl (by with_unfolding_all rfl) fun K hK => ?_
        | refine seqVC_nil ?_
        | (refine hK _ _ _ ?_; clear hK K)
        | (refine hK _ _ ?_; clear hK K)
        | (refine hK _ ?_; clear hK K)
        | refine AWP.seq fun K hK => ?_
        | refine AWP.seqR (by kernel_rfl) fun K hK => ?_
        | refine parVC_stepN rfl fun K hK => ?_
        | refine parVC_stepG rfl (by with_unfolding_all rfl) fun K hK => ?_
        | refine parEVC_stepN rfl fun K hK => ?_
        | refine parEVC_stepG rfl (by with_unfolding_all rfl) fun K hK => ?_
        | refine genVC_stepN rfl fun K hK => ?_
        | refine genVC_stepG rfl (by with_unfolding_all rfl) fun K hK => ?_
        | refine parVC_nil ?_
        | refine parEVC_nil ?_
        | refine genVC_nil ?_
        | (refine AWP.cond (by with_unfolding_all rfl) (fun h => ?_) (fun h => ?_); all_goals (try simp only [Bool.not_eq_true', Bool.not_eq_false'] at h); (all_goals try first | (exact absurd h Bool.false_ne_true) | (exact absurd h.symm Bool.false_ne_true) | (exact absurd h (by decide))))
        | refine AWP.skip ?_
        | refine AWP.ret ?_
        | refine AWP.block ?_
        | refine AWP.exit ?_
        | (refine ⟨fun h => ?_, fun h => ?_⟩ <;> (try simp only [Bool.not_eq_true', Bool.not_eq_false'] at h) <;> try simp only [h])
        | (refine ⟨by split <;> omega, by split <;> omega, ?_⟩)
        | refine ⟨_, hp, ?_⟩
        | refine ⟨_, ho, ?_⟩
        | refine ⟨_, hr, ?_⟩
        | refine ⟨_, he, ?_⟩
        | refine ⟨_, hq, ?_⟩
        | refine ⟨_, hf, ?_⟩
        | refine ⟨_, hg, ?_⟩
        | refine ⟨_, awake_c, ?_⟩)
      | (refine ⟨11, _, _, _, hval', rfl, ?_⟩)
      | (with_reducible first
        | refine AWP.parR mixed (by kernel_rfl) fun K hK => ?_
        | refine ⟨(by kernel_rfl : depB _ _ _ = true), ?_⟩
        | refine Or.inl ?_)
      | (clear hK K))
    all_goals (first | exact fun _ h => (by cases h) | refine fin0 ?_)
    all_goals rfl
  · have hpv' := hpv hpl
    repeat' (first
      | (simp only [go_sem, zA, zB, zC, zD, zE, zF, zG, reduceCtorEq, zH, zI, zJ, zK, zL, List.length_map, List.drop_zero, cut60, hpl, hhf, hpv', beq_self_eq_true]; all_goals fail_if_success guard_target =ₛ False)
      | (with_reducible first
        | refine seqVC_stepN rfl fun K hK => ?_
        | refine seqVC_stepG rfl (by with_unfolding_all rfl) fun K hK => ?_
        | refine seqVC_nil ?_
        | (refine hK _ _ _ ?_; clear hK K)
        | (refine hK _ _ ?_; clear hK K)
        | (refine hK _ ?_; clear hK K)
        | refine AWP.seq fun K hK => ?_
        | refine AWP.seqR (by kernel_rfl) fun K hK => ?_
        | refine parVC_stepN rfl fun K hK => ?_
        | refine parVC_stepG rfl (by with_unfolding_all rfl) fun K hK => ?_
        | refine parEVC_stepN rfl fun K hK => ?_
        | refine parEVC_stepG rfl (by with_unfolding_all rfl) fun K hK => ?_
        | refine genVC_stepN rfl fun K hK => ?_
        | refine genVC_stepG rfl (by with_unfolding_all rfl) fun K hK => ?_
        | refine parVC_nil ?_
        | refine parEVC_nil ?_
        | refine genVC_nil ?_
        | (refine AWP.cond (by with_unfolding_all rfl) (fun h => ?_) (fun h => ?_); all_goals (try simp only [Bool.not_eq_true', Bool.not_eq_false'] at h); (all_goals try first | (exact absurd h Bool.false_ne_true) | (exact absurd h.symm Bool.false_ne_true) | (exact absurd h (by decide))))
        | refine AWP.skip ?_
        | refine AWP.ret ?_
        | refine AWP.block ?_
        | refine AWP.exit ?_
        | (refine ⟨fun h => ?_, fun h => ?_⟩ <;> (try simp only [Bool.not_eq_true', Bool.not_eq_false'] at h) <;> try simp only [h])
        | (refine ⟨by split <;> omega, by split <;> omega, ?_⟩)
        | refine ⟨_, hp, ?_⟩
        | refine ⟨_, ho, ?_⟩
        | refine ⟨_, hr, ?_⟩
        | refine ⟨_, he, ?_⟩
        | refine ⟨_, hq, ?_⟩
        | refine ⟨_, hf, ?_⟩
        | refine ⟨_, hg, ?_⟩
        | refine ⟨_, awake_c, ?_⟩)
      | (refine ⟨11, _, _, _, hval', rfl, ?_⟩)
      | (with_reducible first
        | refine AWP.parR mixed (by kernel_rfl) fun K hK => ?_
        | refine ⟨(by kernel_rfl : depB _ _ _ = true), ?_⟩
        | refine Or.inl ?_)
      | (clear hK K))
    all_goals (first | exact fun _ h => (by cases h) | refine fin0 ?_)
    all_goals rfl
end Go.Proofs.Ytmpfdejckbceiaa
