/- A part of the proof: lemmas about the walk of the program and about plain integers and lists. No conditions beyond those that each lemma states. -/
import Derived.Test.YtmpfdejckbceiaaGreatOf10
import Derived.Test.YtmpfdejckbceiaaGreatOf11
import Derived.Test.YtmpfdejckbceiaaGreatOf12
import Derived.Test.YtmpfdejckbceiaaGreatOf13
import Derived.Test.YtmpfdejckbceiaaGreatOf4
import Derived.Test.YtmpfdejckbceiaaGreatOf7
import Derived.Test.YtmpfdejckbceiaaGreatOf8
import Derived.Test.YtmpfdejckbceiaaGreatOf6
set_option linter.unusedSimpArgs false
set_option linter.unusedVariables false
set_option maxRecDepth 20000
set_option maxHeartbeats 4000000
namespace Go.Proofs.YtmpfdejckbceiaaGreat
open Go Go.Sx
open Nat renaming reduceBEq → zA, reduceBNe → zB, reduceAdd → zC, reduceSub → zD, reduceMul → zE, reduceLeDiff → zF, reduceLT → zG, reduceEqDiff → zH
open Int renaming reduceToNat → zI, reduceLE → zJ, reduceLT → zK, reduceEq → zL
open Bool renaming not_eq_true' → zM, not_eq_false' → zN
theorem node_c (v : Val) : PC Tryz.prog 50 [.st (encVal v)] (Bo (nodeB v)) := by
  rcases kinds v.kind with h | h | h | h | h | h | h | h | h | h
  · exact node_1 v h
  · exact node_2 v h
  · exact node_3 v h
  · exact node_4 v h
  · exact node_5 v h
  · exact node_6 v h
  · exact node_7 v h
  · exact node_8 v h
  · exact node_9 v h
  · exact node_0 v h
theorem bulk_kid {v p : Val} (h : p ∈ v.kids) : bulkV p < bulkV v := bulk_part (List.mem_append_left _ h)
theorem bulk_arg {v p : Val} {e : List Val × Bool × Val} (he : e ∈ v.ents) (h : p ∈ e.1) : bulkV p < bulkV v := by
  have h1 := bulkV_eq v; have h2 := bulkEs_mem he; have h3 := bulkE_eq e; have h4 := bulkVs_mem h; omega
theorem bulk_res {v : Val} {e : List Val × Bool × Val} (he : e ∈ v.ents) : bulkV e.2.2 < bulkV v := by
  have h1 := bulkV_eq v; have h2 := bulkEs_mem he; have h3 := bulkE_eq e; omega
theorem valid_c (v : Val) : PC Tryz.prog 27 [.st (encVal v)] (Bo (treeB v)) := by
  have ihk : ∀ p ∈ v.kids, PC Tryz.prog 27 [.st (encVal p)] (Bo (treeB p)) := fun p hp => valid_c p
  have iha : ∀ e ∈ v.ents, ∀ p ∈ e.1, PC Tryz.prog 27 [.st (encVal p)] (Bo (treeB p)) := fun e he p hp => valid_c p
  have ihr : ∀ e ∈ v.ents, PC Tryz.prog 27 [.st (encVal e.2.2)] (Bo (treeB e.2.2)) := fun e he => valid_c e.2.2
  have hn := node_c v
  rw [encVal_eq] at hn
  rw [treeB_kids]
  refine PCB.of_body Tryz.func27 rfl (by decide) Tryz.ntmps27 Tryz.results27 rfl rfl rfl ?_ rfl rfl
  cases hz : nodeB v
  ·
    repeat' (first | (simp only [go_sem, zA, zB, zC, zD, zE, zF, zG, reduceCtorEq, zH, zI, zJ, zK, zL, hz, encVal_eq v]; all_goals fail_if_success guard_target =ₛ False) | (with_reducible first | ((first | refine seqVC_stepN rfl ?_ | refine seqVC_stepG rfl (by with_unfolding_all rfl) ?_ | refine AWP.seq ?_ | refine AWP.seqR (by kernel_rfl) ?_); intro K hK) | ((first | refine hK _ _ _ ?_ | refine hK _ _ ?_ | refine hK _ ?_); clear hK K) | refine seqVC_nil ?_ | refine AWP.block ?_ | (refine AWP.cond (by with_unfolding_all rfl) ?_ ?_ <;> intro h <;> (try simp only [zM, zN] at h) <;> try exact absurd h (by decide)) | refine AWP.skip ?_ | refine AWP.ret ?_ | refine AWP.exit ?_ | (refine ⟨fun h => ?_, fun h => ?_⟩ <;> (try simp only [zM, zN] at h) <;> try simp only [h]) | refine ⟨_, hn, ?_⟩ | refine Or.inl ?_) | (clear hK K))
    all_goals (first | exact fun _ h => (by cases h) | (refine fin0 ?_; first | rfl | (simp only [hz, Bool.and_true, Bool.and_false, Bool.true_and, Bool.false_and, Bool.or_true, Bool.or_false, Bool.true_or, Bool.false_or, Bool.not_true, Bool.not_false, cond_true, cond_false, decide_true, decide_false]; done) | (simp only [hz, Bool.and_true, Bool.and_false, Bool.true_and, Bool.false_and, Bool.or_true, Bool.or_false, Bool.true_or, Bool.false_or, Bool.not_true, Bool.not_false, cond_true, cond_false, decide_true, decide_false]; rfl)))
  repeat' (first | (simp only [go_sem, zA, zB, zC, zD, zE, zF, zG, reduceCtorEq, zH, zI, zJ, zK, zL, hz, encVal_eq v, List.length_map]; all_goals fail_if_success guard_target =ₛ False) | (with_reducible first | ((first | refine seqVC_stepN rfl ?_ | refine seqVC_stepG rfl (by with_unfolding_all rfl) ?_ | refine AWP.seq ?_ | refine AWP.seqR (by kernel_rfl) ?_); intro K hK) | ((first | refine hK _ _ _ ?_ | refine hK _ _ ?_ | refine hK _ ?_); clear hK K) | refine seqVC_nil ?_ | refine AWP.block ?_ | (refine AWP.cond (by with_unfolding_all rfl) ?_ ?_ <;> intro h <;> (try simp only [zM, zN] at h) <;> try exact absurd h (by decide)) | refine AWP.skip ?_ | refine AWP.ret ?_ | refine AWP.exit ?_ | (refine ⟨fun h => ?_, fun h => ?_⟩ <;> (try simp only [zM, zN] at h) <;> try simp only [h]) | refine ⟨_, hn, ?_⟩ | refine Or.inl ?_) | (clear hK K))
  refine AWP.lenB 1 3 rfl rfl fun hlen0 => ?_
  (try rw [List.length_map] at hlen0)
  refine AWP.range (S := Unit) (v.kids) encVal (fun k s => (3, I .i64 (k : Nat)) :: []) (fun k s => []) [1] [1] (fun k s => v.kids.all treeB = (v.kids.drop k).all treeB) (()) (by simp only [go_sem, zA, zB, zC, zD, zE, zF, zG, reduceCtorEq, zH, zI, zJ, zK, zL, encVal_eq]; exact Gh.to [] (by repeat (first | exact trivial | refine ⟨rfl, ?_⟩ | refine ⟨by (simp only [go_sem, zA, zB, zC, zD, zE, zF, zG, reduceCtorEq, zH, zI, zJ, zK, zL, List.length_append, List.length_map, List.length_cons, List.length_nil, Nat.zero_add]) <;> rfl, ?_⟩)) (by repeat (first | exact trivial | refine ⟨rfl, ?_⟩ | refine ⟨by (simp only [go_sem, zA, zB, zC, zD, zE, zF, zG, reduceCtorEq, zH, zI, zJ, zK, zL, List.length_append, List.length_map, List.length_cons, List.length_nil, Nat.zero_add]) <;> rfl, ?_⟩)) rfl rfl rfl) ?_ ?_ ?_
  · rfl
  · intro k s x hlt hx hx' hb hok
    simp only [go_sem, zA, zB, zC, zD, zE, zF, zG, reduceCtorEq, zH, zI, zJ, zK, zL]
    have hix := ihk x (List.mem_of_getElem? hx)
    rw [all_step hx] at hok
    cases hy : treeB x <;> simp only [hy, Bool.true_and, Bool.false_and] at hok
    ·
      repeat' (first | (simp only [go_sem, zA, zB, zC, zD, zE, zF, zG, reduceCtorEq, zH, zI, zJ, zK, zL, encVal_eq v, List.length_map, hb, hy]; all_goals fail_if_success guard_target =ₛ False) | (with_reducible first | ((first | refine seqVC_stepN rfl ?_ | refine seqVC_stepG rfl (by with_unfolding_all rfl) ?_ | refine AWP.seq ?_ | refine AWP.seqR (by kernel_rfl) ?_); intro K hK) | ((first | refine hK _ _ _ ?_ | refine hK _ _ ?_ | refine hK _ ?_); clear hK K) | refine seqVC_nil ?_ | refine AWP.block ?_ | (refine AWP.cond (by with_unfolding_all rfl) ?_ ?_ <;> intro h <;> (try simp only [zM, zN] at h) <;> try exact absurd h (by decide)) | refine AWP.skip ?_ | refine AWP.ret ?_ | refine AWP.exit ?_ | (refine ⟨fun h => ?_, fun h => ?_⟩ <;> (try simp only [zM, zN] at h) <;> try simp only [h]) | refine ⟨_, hix, ?_⟩ | refine ⟨by omega, encVal x, hx', ?_⟩ | refine Or.inl ?_) | (clear hK K))
      all_goals (first | exact fun _ h => (by cases h) | (refine fin0 ?_; first | rfl | (simp only [hok, hz, Bool.and_true, Bool.and_false, Bool.true_and, Bool.false_and, Bool.or_true, Bool.or_false, Bool.true_or, Bool.false_or, Bool.not_true, Bool.not_false, cond_true, cond_false, decide_true, decide_false]; done) | (simp only [hok, hz, Bool.and_true, Bool.and_false, Bool.true_and, Bool.false_and, Bool.or_true, Bool.or_false, Bool.true_or, Bool.false_or, Bool.not_true, Bool.not_false, cond_true, cond_false, decide_true, decide_false]; rfl)))
    ·
      repeat' (first | (simp only [go_sem, zA, zB, zC, zD, zE, zF, zG, reduceCtorEq, zH, zI, zJ, zK, zL, encVal_eq v, List.length_map, hb, hy]; all_goals fail_if_success guard_target =ₛ False) | (with_reducible first | ((first | refine seqVC_stepN rfl ?_ | refine seqVC_stepG rfl (by with_unfolding_all rfl) ?_ | refine AWP.seq ?_ | refine AWP.seqR (by kernel_rfl) ?_); intro K hK) | ((first | refine hK _ _ _ ?_ | refine hK _ _ ?_ | refine hK _ ?_); clear hK K) | refine seqVC_nil ?_ | refine AWP.block ?_ | (refine AWP.cond (by with_unfolding_all rfl) ?_ ?_ <;> intro h <;> (try simp only [zM, zN] at h) <;> try exact absurd h (by decide)) | refine AWP.skip ?_ | refine AWP.ret ?_ | refine AWP.exit ?_ | (refine ⟨fun h => ?_, fun h => ?_⟩ <;> (try simp only [zM, zN] at h) <;> try simp only [h]) | refine ⟨_, hix, ?_⟩ | refine ⟨by omega, encVal x, hx', ?_⟩ | refine Or.inl ?_) | (clear hK K))
      all_goals (rw [wrap_succ hlt hlen0])
      all_goals (refine ⟨(), ?_, Gh.to [] (by repeat (first | exact trivial | refine ⟨rfl, ?_⟩ | refine ⟨by (simp only [go_sem, zA, zB, zC, zD, zE, zF, zG, reduceCtorEq, zH, zI, zJ, zK, zL, List.length_append, List.length_map, List.length_cons, List.length_nil, Nat.zero_add]) <;> rfl, ?_⟩)) (by repeat (first | exact trivial | refine ⟨rfl, ?_⟩ | refine ⟨by (simp only [go_sem, zA, zB, zC, zD, zE, zF, zG, reduceCtorEq, zH, zI, zJ, zK, zL, List.length_append, List.length_map, List.length_cons, List.length_nil, Nat.zero_add]) <;> rfl, ?_⟩)) rfl rfl rfl⟩)
      all_goals exact hok
  intro s0 hb0 hok0
  simp only [go_sem, zA, zB, zC, zD, zE, zF, zG, reduceCtorEq, zH, zI, zJ, zK, zL]
  rw [all_end] at hok0
  repeat' (first | (simp only [go_sem, zA, zB, zC, zD, zE, zF, zG, reduceCtorEq, zH, zI, zJ, zK, zL, encVal_eq v, List.length_map, hb0]; all_goals fail_if_success guard_target =ₛ False) | (with_reducible first | ((first | refine seqVC_stepN rfl ?_ | refine seqVC_stepG rfl (by with_unfolding_all rfl) ?_ | refine AWP.seq ?_ | refine AWP.seqR (by kernel_rfl) ?_); intro K hK) | ((first | refine hK _ _ _ ?_ | refine hK _ _ ?_ | refine hK _ ?_); clear hK K) | refine seqVC_nil ?_ | refine AWP.block ?_ | (refine AWP.cond (by with_unfolding_all rfl) ?_ ?_ <;> intro h <;> (try simp only [zM, zN] at h) <;> try exact absurd h (by decide)) | refine AWP.skip ?_ | refine AWP.ret ?_ | refine AWP.exit ?_ | (refine ⟨fun h => ?_, fun h => ?_⟩ <;> (try simp only [zM, zN] at h) <;> try simp only [h]) | refine Or.inl ?_) | (clear hK K))
  refine AWP.lenB 1 5 rfl rfl fun hlen1 => ?_
  (try rw [List.length_map] at hlen1)
  refine AWP.range (S := Unit) (v.ents) encEnt (fun k s => (4, I .i64 (k : Nat)) :: []) (fun k s => []) [1] [1] (fun k s => v.ents.all treeE = (v.ents.drop k).all treeE) (()) (by simp only [go_sem, zA, zB, zC, zD, zE, zF, zG, reduceCtorEq, zH, zI, zJ, zK, zL, encVal_eq]; exact Gh.to [] (by repeat (first | exact trivial | refine ⟨rfl, ?_⟩ | refine ⟨by (simp only [go_sem, zA, zB, zC, zD, zE, zF, zG, reduceCtorEq, zH, zI, zJ, zK, zL, List.length_append, List.length_map, List.length_cons, List.length_nil, Nat.zero_add]) <;> rfl, ?_⟩)) (by repeat (first | exact trivial | refine ⟨rfl, ?_⟩ | refine ⟨by (simp only [go_sem, zA, zB, zC, zD, zE, zF, zG, reduceCtorEq, zH, zI, zJ, zK, zL, List.length_append, List.length_map, List.length_cons, List.length_nil, Nat.zero_add]) <;> rfl, ?_⟩)) rfl rfl rfl) ?_ ?_ ?_
  · rfl
  · intro k s x hlt hx hx' hb hok
    simp only [go_sem, zA, zB, zC, zD, zE, zF, zG, reduceCtorEq, zH, zI, zJ, zK, zL]
    rw [all_step hx] at hok
    have hem := List.mem_of_getElem? hx
    have hia := iha x hem
    have hir := ihr x hem
    rw [encVal_eq] at hir
    repeat' (first | (simp only [go_sem, zA, zB, zC, zD, zE, zF, zG, reduceCtorEq, zH, zI, zJ, zK, zL, encVal_eq v, encEnt_eq, List.length_map, hb]; all_goals fail_if_success guard_target =ₛ False) | (with_reducible first | ((first | refine seqVC_stepN rfl ?_ | refine seqVC_stepG rfl (by with_unfolding_all rfl) ?_ | refine AWP.seq ?_ | refine AWP.seqR (by kernel_rfl) ?_); intro K hK) | ((first | refine hK _ _ _ ?_ | refine hK _ _ ?_ | refine hK _ ?_); clear hK K) | refine seqVC_nil ?_ | refine AWP.block ?_ | (refine AWP.cond (by with_unfolding_all rfl) ?_ ?_ <;> intro h <;> (try simp only [zM, zN] at h) <;> try exact absurd h (by decide)) | refine AWP.skip ?_ | refine AWP.ret ?_ | refine AWP.exit ?_ | (refine ⟨fun h => ?_, fun h => ?_⟩ <;> (try simp only [zM, zN] at h) <;> try simp only [h]) | refine ⟨by omega, encEnt x, hx', ?_⟩ | refine Or.inl ?_) | (clear hK K))
    refine AWP.lenB 5 0 rfl rfl fun hlen2 => ?_
    (try rw [List.length_map] at hlen2)
    refine AWP.range (S := Unit) (x.1) encVal (fun k s => (6, I .i64 (k : Nat)) :: []) (fun k s => []) [1, 4, 5] [1, 5] (fun k s => x.1.all treeB = (x.1.drop k).all treeB) (()) (by simp only [go_sem, zA, zB, zC, zD, zE, zF, zG, reduceCtorEq, zH, zI, zJ, zK, zL, encVal_eq, encEnt_eq]; exact Gh.to [] (by repeat (first | exact trivial | refine ⟨rfl, ?_⟩ | refine ⟨by (simp only [go_sem, zA, zB, zC, zD, zE, zF, zG, reduceCtorEq, zH, zI, zJ, zK, zL, List.length_append, List.length_map, List.length_cons, List.length_nil, Nat.zero_add]) <;> rfl, ?_⟩)) (by repeat (first | exact trivial | refine ⟨rfl, ?_⟩ | refine ⟨by (simp only [go_sem, zA, zB, zC, zD, zE, zF, zG, reduceCtorEq, zH, zI, zJ, zK, zL, List.length_append, List.length_map, List.length_cons, List.length_nil, Nat.zero_add]) <;> rfl, ?_⟩)) rfl rfl rfl) ?_ ?_ ?_
    · rfl
    · intro i s y hlti hy hy' hbi hoki
      simp only [go_sem, zA, zB, zC, zD, zE, zF, zG, reduceCtorEq, zH, zI, zJ, zK, zL]
      have hiy := hia y (List.mem_of_getElem? hy)
      rw [all_step hy] at hoki
      cases hc : treeB y <;> simp only [hc, Bool.true_and, Bool.false_and] at hoki
      ·
        repeat' (first | (simp only [go_sem, zA, zB, zC, zD, zE, zF, zG, reduceCtorEq, zH, zI, zJ, zK, zL, encVal_eq v, encEnt_eq, List.length_map, hbi, hc]; all_goals fail_if_success guard_target =ₛ False) | (with_reducible first | ((first | refine seqVC_stepN rfl ?_ | refine seqVC_stepG rfl (by with_unfolding_all rfl) ?_ | refine AWP.seq ?_ | refine AWP.seqR (by kernel_rfl) ?_); intro K hK) | ((first | refine hK _ _ _ ?_ | refine hK _ _ ?_ | refine hK _ ?_); clear hK K) | refine seqVC_nil ?_ | refine AWP.block ?_ | (refine AWP.cond (by with_unfolding_all rfl) ?_ ?_ <;> intro h <;> (try simp only [zM, zN] at h) <;> try exact absurd h (by decide)) | refine AWP.skip ?_ | refine AWP.ret ?_ | refine AWP.exit ?_ | (refine ⟨fun h => ?_, fun h => ?_⟩ <;> (try simp only [zM, zN] at h) <;> try simp only [h]) | refine ⟨_, hiy, ?_⟩ | refine ⟨by omega, encVal y, hy', ?_⟩ | refine Or.inl ?_) | (clear hK K))
        all_goals (first | exact fun _ h => (by cases h) | (refine fin0 ?_; first | rfl | (simp only [hok, hz, hok0, treeE, hoki, Bool.and_true, Bool.and_false, Bool.true_and, Bool.false_and, Bool.or_true, Bool.or_false, Bool.true_or, Bool.false_or, Bool.not_true, Bool.not_false, cond_true, cond_false, decide_true, decide_false]; done) | (simp only [hok, hz, hok0, treeE, hoki, Bool.and_true, Bool.and_false, Bool.true_and, Bool.false_and, Bool.or_true, Bool.or_false, Bool.true_or, Bool.false_or, Bool.not_true, Bool.not_false, cond_true, cond_false, decide_true, decide_false]; rfl)))
      ·
        repeat' (first | (simp only [go_sem, zA, zB, zC, zD, zE, zF, zG, reduceCtorEq, zH, zI, zJ, zK, zL, encVal_eq v, encEnt_eq, List.length_map, hbi, hc]; all_goals fail_if_success guard_target =ₛ False) | (with_reducible first | ((first | refine seqVC_stepN rfl ?_ | refine seqVC_stepG rfl (by with_unfolding_all rfl) ?_ | refine AWP.seq ?_ | refine AWP.seqR (by kernel_rfl) ?_); intro K hK) | ((first | refine hK _ _ _ ?_ | refine hK _ _ ?_ | refine hK _ ?_); clear hK K) | refine seqVC_nil ?_ | refine AWP.block ?_ | (refine AWP.cond (by with_unfolding_all rfl) ?_ ?_ <;> intro h <;> (try simp only [zM, zN] at h) <;> try exact absurd h (by decide)) | refine AWP.skip ?_ | refine AWP.ret ?_ | refine AWP.exit ?_ | (refine ⟨fun h => ?_, fun h => ?_⟩ <;> (try simp only [zM, zN] at h) <;> try simp only [h]) | refine ⟨_, hiy, ?_⟩ | refine ⟨by omega, encVal y, hy', ?_⟩ | refine Or.inl ?_) | (clear hK K))
        all_goals (rw [wrap_succ hlti hlen2])
        all_goals (refine ⟨(), ?_, Gh.to [] (by repeat (first | exact trivial | refine ⟨rfl, ?_⟩ | refine ⟨by (simp only [go_sem, zA, zB, zC, zD, zE, zF, zG, reduceCtorEq, zH, zI, zJ, zK, zL, List.length_append, List.length_map, List.length_cons, List.length_nil, Nat.zero_add]) <;> rfl, ?_⟩)) (by repeat (first | exact trivial | refine ⟨rfl, ?_⟩ | refine ⟨by (simp only [go_sem, zA, zB, zC, zD, zE, zF, zG, reduceCtorEq, zH, zI, zJ, zK, zL, List.length_append, List.length_map, List.length_cons, List.length_nil, Nat.zero_add]) <;> rfl, ?_⟩)) rfl rfl rfl⟩)
        all_goals exact hoki
    intro s2 hb2 hok2
    simp only [go_sem, zA, zB, zC, zD, zE, zF, zG, reduceCtorEq, zH, zI, zJ, zK, zL]
    rw [all_end] at hok2
    cases hf : x.2.1 <;> cases hr : treeB x.2.2
    all_goals (simp only [treeE, hok2, hf, hr, Bool.true_and, Bool.false_and, Bool.true_or, Bool.false_or] at hok)
    all_goals
      repeat' (first | (simp only [go_sem, zA, zB, zC, zD, zE, zF, zG, reduceCtorEq, zH, zI, zJ, zK, zL, encVal_eq, encEnt_eq, List.length_map, hb2, hf, hr]; all_goals fail_if_success guard_target =ₛ False) | (with_reducible first | ((first | refine seqVC_stepN rfl ?_ | refine seqVC_stepG rfl (by with_unfolding_all rfl) ?_ | refine AWP.seq ?_ | refine AWP.seqR (by kernel_rfl) ?_); intro K hK) | ((first | refine hK _ _ _ ?_ | refine hK _ _ ?_ | refine hK _ ?_); clear hK K) | refine seqVC_nil ?_ | refine AWP.block ?_ | (refine AWP.cond (by with_unfolding_all rfl) ?_ ?_ <;> intro h <;> (try simp only [zM, zN] at h) <;> try exact absurd h (by decide)) | refine AWP.skip ?_ | refine AWP.ret ?_ | refine AWP.exit ?_ | (refine ⟨fun h => ?_, fun h => ?_⟩ <;> (try simp only [zM, zN] at h) <;> try simp only [h]) | refine ⟨_, hir, ?_⟩ | refine Or.inl ?_) | (clear hK K))
    any_goals (first | exact fun _ h => (by cases h) | (refine fin0 ?_; simp only [hok, hok0, hz, Bool.and_false, Bool.true_and, Bool.and_true]; done))
    all_goals (rw [wrap_succ hlt hlen1])
    all_goals (refine ⟨(), ?_, Gh.to [] (by repeat (first | exact trivial | refine ⟨rfl, ?_⟩ | refine ⟨by (simp only [go_sem, zA, zB, zC, zD, zE, zF, zG, reduceCtorEq, zH, zI, zJ, zK, zL, List.length_append, List.length_map, List.length_cons, List.length_nil, Nat.zero_add]) <;> rfl, ?_⟩)) (by repeat (first | exact trivial | refine ⟨rfl, ?_⟩ | refine ⟨by (simp only [go_sem, zA, zB, zC, zD, zE, zF, zG, reduceCtorEq, zH, zI, zJ, zK, zL, List.length_append, List.length_map, List.length_cons, List.length_nil, Nat.zero_add]) <;> rfl, ?_⟩)) rfl rfl rfl⟩)
    all_goals exact hok
  intro s1 hb1 hok1
  simp only [go_sem, zA, zB, zC, zD, zE, zF, zG, reduceCtorEq, zH, zI, zJ, zK, zL]
  rw [all_end] at hok1
  repeat' (first | (simp only [go_sem, zA, zB, zC, zD, zE, zF, zG, reduceCtorEq, zH, zI, zJ, zK, zL, encVal_eq v, List.length_map, hb1]; all_goals fail_if_success guard_target =ₛ False) | (with_reducible first | ((first | refine seqVC_stepN rfl ?_ | refine seqVC_stepG rfl (by with_unfolding_all rfl) ?_ | refine AWP.seq ?_ | refine AWP.seqR (by kernel_rfl) ?_); intro K hK) | ((first | refine hK _ _ _ ?_ | refine hK _ _ ?_ | refine hK _ ?_); clear hK K) | refine seqVC_nil ?_ | refine AWP.block ?_ | (refine AWP.cond (by with_unfolding_all rfl) ?_ ?_ <;> intro h <;> (try simp only [zM, zN] at h) <;> try exact absurd h (by decide)) | refine AWP.skip ?_ | refine AWP.ret ?_ | refine AWP.exit ?_ | (refine ⟨fun h => ?_, fun h => ?_⟩ <;> (try simp only [zM, zN] at h) <;> try simp only [h]) | refine Or.inl ?_) | (clear hK K))
  all_goals (first | exact fun _ h => (by cases h) | (refine fin0 ?_; first | rfl | (simp only [hok1, hok0, hz, Bool.and_true, Bool.and_false, Bool.true_and, Bool.false_and, Bool.or_true, Bool.or_false, Bool.true_or, Bool.false_or, Bool.not_true, Bool.not_false, cond_true, cond_false, decide_true, decide_false]; done) | (simp only [hok1, hok0, hz, Bool.and_true, Bool.and_false, Bool.true_and, Bool.false_and, Bool.or_true, Bool.or_false, Bool.true_or, Bool.false_or, Bool.not_true, Bool.not_false, cond_true, cond_false, decide_true, decide_false]; rfl)))
termination_by bulkV v
decreasing_by
  · exact bulk_kid hp
  · exact bulk_arg he hp
  · exact bulk_res he
end Go.Proofs.YtmpfdejckbceiaaGreat
namespace Go.Proofs.YtmpfdejckbceiaaGreat
open Go Go.Sx
abbrev In64 (a : Int) : Prop := -9223372036854775808 ≤ a ∧ a ≤ 9223372036854775807
theorem wrap64 (x : Int) : ∃ k : Int, IntKind.i64.wrap x = x + k * 18446744073709551616 ∧ In64 (IntKind.i64.wrap x) := by
  have h : IntKind.i64.wrap x = Int.bmod x 18446744073709551616 := by
    unfold IntKind.wrap
    simp [IntKind.signed, IntKind.bits]
    rw [Int.bmod_def]
    split <;> split <;> omega
  rw [h]
  refine ⟨-((x + 9223372036854775808) / 18446744073709551616), ?_, ?_⟩
  · rw [Int.bmod_def]; split <;> omega
  · rw [Int.bmod_def]; split <;> (constructor <;> omega)
theorem wrap_mod (x : Int) (a k : Int) (h : In64 a) (hx : x = a + k * 18446744073709551616) : IntKind.i64.wrap x = a := by
  obtain ⟨j, h1, h2⟩ := wrap64 x
  omega
theorem back (a b : Int) (ha : In64 a) : IntKind.i64.wrap (IntKind.i64.wrap (a.tdiv b * b) + a.tmod b) = a := by
  obtain ⟨j, h1, h2⟩ := wrap64 (a.tdiv b * b)
  refine wrap_mod _ a j ha ?_
  have := Int.mul_tdiv_add_tmod a b
  rw [Int.mul_comm] at this
  omega
theorem bound (a b : Int) (h0 : b ≠ 0) : a.tmod b < (if b < 0 then -b else b) ∧ -(if b < 0 then -b else b) < a.tmod b := by
  have h := Int.natAbs_tmod a b
  have : (a.tmod b).natAbs < b.natAbs := by
    rw [h]; exact Nat.mod_lt _ (by omega)
  split <;> omega
end Go.Proofs.YtmpfdejckbceiaaGreat

set_option linter.unusedSimpArgs false
set_option linter.unusedVariables false
set_option maxRecDepth 20000
namespace Go.Proofs.YtmpfdejckbceiaaGreat
open Go Go.Sx
/-- what a datum without code shows -/
def Bare (d : Dat) : Prop := d.mod = [] ∧ d.version = 0 ∧ d.routine = 0 ∧ d.wrapped = false ∧ d.nodes = [] ∧ d.root = 0 ∧ d.inner = [] ∧ d.outer = []
inductive Good : Dat → Prop
  | mk (d : Dat) (hn : In64 d.num) (h1 : d.kids.length ≤ 1000) (h2 : d.keys.length ≤ 1000) (hf : d.kind ≠ 9 → Bare d) (hk : ∀ k ∈ d.kids, Good k) : Good d
theorem Good.num {d : Dat} (h : Good d) : In64 d.num := by cases h; assumption
theorem Good.kids {d : Dat} (h : Good d) : d.kids.length ≤ 1000 := by cases h; assumption
theorem Good.keys {d : Dat} (h : Good d) : d.keys.length ≤ 1000 := by cases h; assumption
theorem Good.kid {d : Dat} (h : Good d) : ∀ k ∈ d.kids, Good k := by cases h; assumption
theorem Good.small {d : Dat} (h : Good d) : Small d := by
  induction h with
  | mk d hn h1 h2 hf hk ih => exact .mk d (by omega) (by omega) ih
theorem keyC_zero {a b : KeyD} : keyC a b = 0 ↔ a = b := by
  unfold keyC
  rw [chainC_zero, cmpI_zero, cmpB_zero]
  cases a; cases b; simp
theorem firstC_zero {α : Type} (f : α → α → Int) : ∀ (a b : List α), (∀ x ∈ a, ∀ y, f x y = 0 ↔ x = y) → a.length = b.length → (firstC f a b = 0 ↔ a = b)
  | [], [], _, _ => by simp [firstC]
  | [], _ :: _, _, h => by simp at h
  | _ :: _, [], _, h => by simp at h
  | x :: a, y :: b, hf, h => by
    have ih := firstC_zero f a b (fun x hx => hf x (by simp [hx])) (by simpa using h)
    have h0 := hf x (by simp) y
    simp only [firstC, List.cons.injEq]
    by_cases hz : f x y = 0
    · rw [hz]; simp only [decide_true, cond_true, ih, h0.1 hz, true_and]
    · simp only [decide_eq_false hz, cond_false]
      have : ¬ x = y := fun e => hz (h0.2 e)
      simp [hz, this]
theorem listCmp_zero {α : Type} (f : α → α → Int) (a b : List α) (hf : ∀ x ∈ a, ∀ y, f x y = 0 ↔ x = y) : listCmp f a b = 0 ↔ a = b := by
  unfold listCmp
  by_cases hl : a.length = b.length
  · have : cmpI a.length b.length = 0 := cmpI_zero.2 (by omega)
    simp only [this, decide_true, cond_true]
    exact firstC_zero f a b hf hl
  · have : ¬ cmpI a.length b.length = 0 := fun h => hl (by have := cmpI_zero.1 h; omega)
    rw [decide_eq_false this, cond_false]
    exact ⟨fun h => absurd h this, fun e => absurd (by rw [e]) hl⟩
theorem valC_zero : ∀ (a b : Val), valC a b = 0 ↔ a = b := by
  intro a
  induction a using WellFounded.induction (r := InvImage (· < ·) (SizeOf.sizeOf (α := Val))) (InvImage.wf _ Nat.lt_wfRel.wf) with
  | _ a ih =>
  intro b
  rw [valC_eq]
  have hk : ∀ x ∈ a.kids, ∀ y, valC x y = 0 ↔ x = y := fun x hx y => ih x (by
    show SizeOf.sizeOf x < SizeOf.sizeOf a
    cases a; simp only at hx; have := List.sizeOf_lt_of_mem hx; simp; omega) y
  have he : ∀ x ∈ a.ents, ∀ y, entC x y = 0 ↔ x = y := by
    intro x hx y
    have hsz : SizeOf.sizeOf x < SizeOf.sizeOf a := by
      cases a; simp only at hx; have := List.sizeOf_lt_of_mem hx; simp; omega
    rw [entC_eq, chainC_zero]
    obtain ⟨l, f, r⟩ := x
    obtain ⟨l', f', r'⟩ := y
    simp only at *
    have hl : ∀ x ∈ l, ∀ y, valC x y = 0 ↔ x = y := fun x hx y => ih x (by
      show SizeOf.sizeOf x < SizeOf.sizeOf a
      have := List.sizeOf_lt_of_mem hx; simp at hsz; omega) y
    have hr := ih r (by show SizeOf.sizeOf r < SizeOf.sizeOf a; simp at hsz; omega) r'
    rw [listCmp_zero valC l l' hl]
    cases f <;> cases f' <;> simp [hr]
  rw [chainC_zero, chainC_zero, chainC_zero, chainC_zero, chainC_zero, chainC_zero, cmpI_zero, cmpI_zero, cmpB_zero, listCmp_zero keyC _ _ (fun _ _ _ => keyC_zero), listCmp_zero valC _ _ hk, listCmp_zero entC _ _ he, listCmp_zero Lib.compareBytes _ _ (fun _ _ _ => cmpB_zero)]
  cases a; cases b
  simp only [Val.mk.injEq]
  constructor
  · rintro ⟨h1, h2, h3, h4, h5, h6, h7⟩; exact ⟨h1, h2, h3, h5, h4, h6, h7⟩
  · rintro ⟨h1, h2, h3, h4, h5, h6, h7⟩; exact ⟨h1, h2, h3, h5, h4, h6, h7⟩
theorem noNodes_leaf (d : Dat) (h : d.nodes = []) (hk : d.kids = []) : NoNodes d := .mk d h (by rw [hk]; simp)
theorem zero_nn : NoNodes zeroDat := noNodes_leaf _ rfl rfl
theorem good_leaf (d : Dat) (hn : In64 d.num) (hk : d.kids = []) (hy : d.keys = []) (hb : d.kind ≠ 9 → Bare d) : Good d := .mk d hn (by simp [hk]) (by simp [hy]) hb (by simp [hk])
theorem in64_small {n : Int} (h : -1000 ≤ n ∧ n ≤ 1000) : In64 n := by unfold In64; omega
theorem good_zero : Good zeroDat := good_leaf _ (by show In64 0; decide) rfl rfl fun _ => ⟨rfl, rfl, rfl, rfl, rfl, rfl, rfl, rfl⟩
theorem good_atom (s : List UInt8) : Good (atomDat s) := good_leaf _ (by show In64 0; decide) rfl rfl fun _ => ⟨rfl, rfl, rfl, rfl, rfl, rfl, rfl, rfl⟩
theorem good_int {n : Int} (h : In64 n) : Good (intDat n) := good_leaf _ h rfl rfl fun _ => ⟨rfl, rfl, rfl, rfl, rfl, rfl, rfl, rfl⟩
theorem numV_in (s : Src) : In64 (numV s) := by
  have h := nextV_in s (n := 10) (by omega)
  unfold numV
  have h2 : ∀ n : Nat, n < 10 → In64 (numL.getD n 0) := by decide
  exact h2 _ (by omega)
theorem good_base (k : Int) (s : Src) : Good (madeBase k s).1 := by
  have v4 := nextV_in s (n := 4) (by omega)
  have v3 := nextV_in s (n := 3) (by omega)
  have v5 := nextV_in s (n := 5) (by omega)
  unfold madeBase
  cases decide (k = 1) <;> cases decide (k = 2) <;> cases decide (k = 3) <;> cases decide (k = 4) <;> cases decide (k = 5) <;> cases decide (k = 6) <;> simp only [cond_true, cond_false]
  all_goals first
    | exact good_atom _
    | exact good_int (in64_small (by omega))
    | exact good_int (numV_in s)
    | (refine good_leaf _ (in64_small (by simp only [zeroDat]; omega)) rfl rfl fun _ => ⟨rfl, rfl, rfl, rfl, rfl, rfl, rfl, rfl⟩)
    | (refine good_leaf _ (in64_small (by simp only [zeroDat, funDat]; omega)) rfl rfl fun h => absurd rfl h)
theorem good_made0 (s : Src) : Good (made0 s).1 := good_base _ _
theorem good_cons {a b : Dat} (ha : Good a) (hb : Good b) : Good (consDat a b) := .mk _ (in64_small (by simp only [consDat, zeroDat]; omega)) (by simp [consDat]) (by simp [consDat, zeroDat]) (fun _ => ⟨rfl, rfl, rfl, rfl, rfl, rfl, rfl, rfl⟩)
  (by intro k hk; simp only [consDat, List.mem_cons, List.not_mem_nil, or_false] at hk; rcases hk with rfl | rfl <;> assumption)
theorem good_madeN {f : Src → Dat × Src} (hf : ∀ s, Good (f s).1) : ∀ (n : Nat) (s : Src) (acc : List Dat), (∀ d ∈ acc, Good d) → ∀ d ∈ (madeN f n s acc).1, Good d
  | 0, s, acc, h => h
  | n + 1, s, acc, h => good_madeN hf n _ _ (by
    intro d hd
    rcases List.mem_append.1 hd with hd | hd
    · exact h d hd
    · simp only [List.mem_singleton] at hd; subst hd; exact hf s)
theorem good_listN {f : Src → Dat × Src} (hf : ∀ s, Good (f s).1) : ∀ (n : Nat) (s : Src) (t : Dat), Good t → Good (listN f n s t).1
  | 0, s, t, h => h
  | n + 1, s, t, h => good_listN hf n _ _ (good_cons (hf s) h)
structure GoodA (n : Nat) (a : PutA) : Prop where
  k : a.keys.length ≤ n
  d : a.kids.length ≤ n
  g : ∀ d ∈ a.kids, Good d
theorem GoodA.snoc {n : Nat} {a : PutA} (h : GoodA n a) (k : KeyD) {d : Dat} (hd : Good d) (p : Bool) : GoodA (n + 1) ⟨a.keys ++ [k], a.kids ++ [d], p⟩ :=
  ⟨by have := h.k; simp; omega, by have := h.d; simp; omega, by
    intro x hx
    rcases List.mem_append.1 hx with hx | hx
    · exact h.g x hx
    · simp only [List.mem_singleton] at hx; subst hx; exact hd⟩
theorem GoodA.le {n m : Nat} {a : PutA} (h : GoodA n a) (hm : n ≤ m) : GoodA m a := ⟨by have := h.k; omega, by have := h.d; omega, h.g⟩
def placedN (a : PutA) : Nat := bif a.placed then 1 else 0
theorem good_putStep (k : KeyD) {d : Dat} (hd : Good d) {n : Nat} {a : PutA} (h : GoodA (n + placedN a) a) (x : KeyD × Dat) (hx : Good x.2) : GoodA (n + 1 + placedN (putStep k d a x)) (putStep k d a x) := by
  unfold putStep
  obtain ⟨ak, ad, ap⟩ := a
  cases decide (keyCmp k x.1 ≤ 0) <;> cases decide (keyCmp k x.1 = 0) <;> cases ap <;>
    simp only [Bool.not_true, Bool.not_false, Bool.and_true, Bool.and_false, Bool.true_and, Bool.false_and, cond_true, cond_false, placedN] at h ⊢
  all_goals first
    | exact GoodA.le h (by omega)
    | exact GoodA.le (GoodA.snoc h _ hx _) (by omega)
    | exact GoodA.le (GoodA.snoc h _ hd _) (by omega)
    | exact GoodA.le (GoodA.snoc (GoodA.snoc h _ hd true) _ hx _) (by omega)
theorem good_foldl (k : KeyD) {d : Dat} (hd : Good d) : ∀ (l : List (KeyD × Dat)) (n : Nat) (a : PutA), (∀ x ∈ l, Good x.2) → GoodA (n + placedN a) a → GoodA (n + l.length + placedN (l.foldl (putStep k d) a)) (l.foldl (putStep k d) a)
  | [], n, a, _, h => by simpa using h
  | x :: l, n, a, hl, h => by
    have := good_foldl k hd l (n + 1) _ (fun y hy => hl y (by simp [hy])) (good_putStep k hd h x (hl x (by simp)))
    simp only [List.foldl_cons, List.length_cons]
    rwa [show n + 1 + l.length = n + (l.length + 1) by omega] at this
theorem good_put {m d : Dat} (k : KeyD) (hm : Good m) (hd : Good d) {n : Nat} (hn : n < 1000) (h1 : m.kids.length ≤ n) : Good (putR m k d).1 ∧ (putR m k d).1.kids.length ≤ n + 1 := by
  unfold putR
  cases putBad m k with
  | true => exact ⟨good_zero, by simp [zeroDat]⟩
  | false =>
    simp only [cond_false]
    have hz : ∀ x ∈ m.keys.zip m.kids, Good x.2 := fun x hx => hm.kid _ (List.of_mem_zip hx).2
    have h := good_foldl k hd (m.keys.zip m.kids) 0 ⟨[], [], false⟩ hz ⟨by simp, by simp, by simp⟩
    have hle : (m.keys.zip m.kids).length ≤ n := by simp; omega
    generalize (m.keys.zip m.kids).foldl (putStep k d) ⟨[], [], false⟩ = a at *
    have h2 : GoodA (n + 1) (putEnd k d a) := by
      unfold putEnd
      obtain ⟨ak, ad, ap⟩ := a
      cases ap <;> simp only [Bool.not_true, Bool.not_false, cond_true, cond_false, placedN] at h ⊢
      · exact GoodA.le (GoodA.snoc h _ hd _) (by omega)
      · exact GoodA.le h (by omega)
    refine ⟨.mk _ (in64_small (by simp only [mapDat, zeroDat]; omega)) (by have := h2.d; simp only [mapDat]; omega) (by have := h2.k; simp only [mapDat]; omega) (fun _ => ⟨rfl, rfl, rfl, rfl, rfl, rfl, rfl, rfl⟩) h2.g, h2.d⟩
theorem good_mapN {f : Src → Dat × Src} (hf : ∀ s, Good (f s).1) : ∀ (n : Nat) (s : Src) (m : Dat) (j : Nat), j + n < 1000 → m.kids.length ≤ j → Good m → Good (mapN f n s m).1
  | 0, s, m, _, _, _, h => h
  | n + 1, s, m, j, hj, hm, h => by
    have := good_put (keyV s).1 h (hf (keyV s).2) (n := j) (by omega) hm
    exact good_mapN hf n _ _ (j + 1) (by omega) this.2 this.1
theorem good_made : ∀ (d : Nat) (s : Src), Good (made d s).1
  | 0, s => good_made0 s
  | d + 1, s => by
    have hf := fun s => good_made d s
    have v4 := nextV_in (nextS s 12) (n := 4) (by omega)
    have v3 := nextV_in (nextS s 12) (n := 3) (by omega)
    unfold made
    cases decide (nextV s 12 ≤ 6) with
    | true => exact good_base _ _
    | false =>
    simp only [cond_false]
    cases decide (nextV s 12 = 7) with
    | true =>
      simp only [cond_true]
      cases h9 : decide ((made0 (nextS s 12)).1.kind = 9) with
      | false => exact good_made0 _
      | true =>
        have hnum := made0_fun (nextS s 12) (by simpa using h9)
        refine .mk _ (in64_small (by simp only [cond_true, wrapD]; omega)) (by simp [wrapD]) (by simp [wrapD, zeroDat]) (fun h => absurd rfl h) ?_
        intro k hk
        simp only [cond_true, wrapD, List.mem_singleton] at hk
        subst hk; exact good_made0 _
    | false =>
    simp only [cond_false]
    cases decide (nextV s 12 ≤ 9) with
    | true =>
      simp only [cond_true]
      refine .mk _ (in64_small (by simp only [zeroDat]; omega)) ?_ (by simp [zeroDat]) (fun _ => ⟨rfl, rfl, rfl, rfl, rfl, rfl, rfl, rfl⟩) ?_
      · simp only [madeN_len, List.length_nil]; omega
      · exact good_madeN hf _ _ _ (by simp)
    | false =>
    simp only [cond_false]
    cases decide (nextV s 12 = 10) with
    | true => exact good_listN hf _ _ _ (good_leaf _ (in64_small (by simp only [zeroDat]; omega)) rfl rfl fun _ => ⟨rfl, rfl, rfl, rfl, rfl, rfl, rfl, rfl⟩)
    | false => exact good_mapN hf _ _ _ 0 (by omega) (by simp [zeroDat]) (good_leaf _ (in64_small (by simp only [zeroDat]; omega)) rfl rfl fun _ => ⟨rfl, rfl, rfl, rfl, rfl, rfl, rfl, rfl⟩)
end Go.Proofs.YtmpfdejckbceiaaGreat
set_option linter.unusedSimpArgs false
set_option linter.unusedVariables false
set_option maxRecDepth 20000
set_option maxHeartbeats 4000000
namespace Go.Proofs.YtmpfdejckbceiaaGreat
open Go Go.Sx
open Nat renaming reduceBEq → zA, reduceBNe → zB, reduceAdd → zC, reduceSub → zD, reduceMul → zE, reduceLeDiff → zF, reduceLT → zG, reduceEqDiff → zH
open Int renaming reduceToNat → zI, reduceLE → zJ, reduceLT → zK, reduceEq → zL
open Bool renaming not_eq_true' → zM, not_eq_false' → zN
mutual
def ofV : Val → Dat
  | ⟨kind, num, text, kids, keys, _, _⟩ => bif decide (kind = 9) then zeroDat else ⟨kind, num, text, ofVs kids, keys, [], 0, 0, false, [], 0, [], []⟩
def ofVs : List Val → List Dat
  | [] => []
  | v :: l => ofV v :: ofVs l
end
theorem ofVs_map : ∀ l : List Val, ofVs l = l.map ofV
  | [] => by simp only [ofVs, List.map_nil]
  | d :: l => by simp only [ofVs, List.map_cons, ofVs_map l]
theorem ofV_eq (v : Val) : ofV v = bif decide (v.kind = 9) then zeroDat else ⟨v.kind, v.num, v.text, v.kids.map ofV, v.keys, [], 0, 0, false, [], 0, [], []⟩ := by cases v; simp only [ofV, ofVs_map]
theorem cloneKeysL_c (l : List KeyD) (hl : l.length ≤ 100000000) : PC Tryz.prog 30 [.one (.dat (.sl 2 (l.map encKey)))] (.one (.dat (.sl 2 (l.map encKey)))) := by
  refine PCB.of_body Tryz.func30 rfl (by decide) Tryz.ntmps30 Tryz.results30 rfl rfl rfl ?_ rfl rfl
  refine AWP.ghQ ?_
  repeat' (first | ( refine AWP.nilR (e := 63) rfl (by decide) (by decide) rfl (fun hnil => ?_) ?_) | (simp only [go_sem, zA, zB, zC, zD, zE, zF, zG, reduceCtorEq, zH, zI, zJ, zK, zL, List.length_map]; all_goals fail_if_success guard_target =ₛ False) | (with_reducible first | ((first | refine seqVC_stepN rfl ?_ | refine AWP.seq ?_ | refine AWP.seqR (by kernel_rfl) ?_); intro K hK) | ((first | refine hK _ _ _ ?_ | refine hK _ _ ?_ | refine hK _ ?_); clear hK K) | refine seqVC_nil ?_ | refine AWP.block ?_ | (refine AWP.cond (by with_unfolding_all rfl) ?_ ?_ <;> intro h <;> (try simp only [zM, zN] at h) <;> try exact absurd h (by decide)) | refine AWP.skip ?_ | refine AWP.ret ?_ | refine AWP.exit ?_ | (refine Or.inr (show vBuildOwn _ 5 _ _ _ _ _ _ from ?_); unfold vBuildOwn; with_reducible refine Or.inr ?_; simp only [vBuildRow, go_sem, zA, zB, zC, zD, zE, zF, zG, reduceCtorEq, zH, zI, zJ, zK, zL, List.length_map]) | (refine ⟨(by first | omega | (simp only [List.length_append, List.length_map, List.length_take, List.length_drop, List.length_cons, List.length_nil, List.length_replicate]; omega) : _ ≤ _), ?_⟩) | refine ⟨by omega, by omega, ?_⟩ | refine Or.inl ?_) | (clear hK K))
  · refine ⟨_, Gh.refl _, ?_⟩
    simp only [go_sem, zA, zB, zC, zD, zE, zF, zG, reduceCtorEq, zH, zI, zJ, zK, zL]
    refine fin0 ?_
    rw [hnil]
  ·
    refine ⟨_, Gh.freeze 7 rfl rfl (by simp only [go_sem, zA, zB, zC, zD, zE, zF, zG, reduceCtorEq, zH, zI, zJ, zK, zL, List.length_map]) (by simp only [go_sem, zA, zB, zC, zD, zE, zF, zG, reduceCtorEq, zH, zI, zJ, zK, zL, List.length_map]), ?_⟩
    simp only [go_sem, zA, zB, zC, zD, zE, zF, zG, reduceCtorEq, zH, zI, zJ, zK, zL, List.length_map]
    all_goals (first | exact fun _ h => (by cases h) | refine fin0 ?_)
    all_goals rfl
abbrev ofBox (v : Val) (n : Nat) : Res := .cells [.dat (.int .i64 v.kind), .dat (.int .i64 v.num), .dat (.str v.text), .own 900 n, .dat (.sl 2 (v.keys.map encKey)), .dat (.str []), .dat (.int .i64 0), .dat (.int .i64 0), .dat (.bool false), .dat (.nil 8), .dat (.int .i64 0), .dat (.str []), .dat (.str [])]
theorem of_c (v : Val) (hv : Sm v) : PC Tryz.prog 26 [Vt v] (Dt (ofV v)) := by
  have ih : ∀ k ∈ v.kids, PC Tryz.prog 26 [Vt k] (Dt (ofV k)) := fun k hk => of_c k (hv.kid k hk)
  have hkk := hv.kids
  have hcl := cloneKeysL_c v.keys hv.keys
  refine PCB.of_body Tryz.func26 rfl (by decide) Tryz.ntmps26 Tryz.results26 rfl rfl rfl ?_ rfl rfl
  cases h9 : decide (v.kind = 9) with
  | true =>
    repeat' (first | (simp only [go_sem, zA, zB, zC, zD, zE, zF, zG, reduceCtorEq, zH, zI, zJ, zK, zL, encVal_eq, h9]; all_goals fail_if_success guard_target =ₛ False) | (with_reducible first | ((first | refine seqVC_stepN rfl ?_ | refine AWP.seq ?_ | refine AWP.seqR (by kernel_rfl) ?_ | refine parVC_stepN rfl ?_ | refine parEVC_stepN rfl ?_ | refine genVC_stepN rfl ?_); intro K hK) | ((first | refine hK _ _ _ ?_ | refine hK _ _ ?_ | refine hK _ ?_); clear hK K) | refine seqVC_nil ?_ | refine parVC_nil ?_ | refine parEVC_nil ?_ | refine genVC_nil ?_ | refine AWP.block ?_ | (refine AWP.cond (by with_unfolding_all rfl) ?_ ?_ <;> intro h <;> (try simp only [zM, zN] at h) <;> try exact absurd h (by decide)) | refine AWP.skip ?_ | refine AWP.ret ?_ | refine AWP.exit ?_ | (refine AWP.segP (id := 3) 10 mixed (by kernel_rfl) fun K hK => ?_; simp only [List.take_succ_cons, List.take_zero, List.drop_succ_cons, List.drop_zero]) | (refine AWP.segP (id := 7) 5 mixed (by kernel_rfl) fun K hK => ?_; simp only [List.take_succ_cons, List.take_zero, List.drop_succ_cons, List.drop_zero]) | refine AWP.parR mixed (by kernel_rfl) fun K hK => ?_ | refine ⟨(by kernel_rfl : depB _ _ _ = true), ?_⟩ | refine Or.inl ?_) | (clear hK K))
    all_goals (first | exact fun _ h => (by cases h) | refine fin0 ?_)
    all_goals (rw [ofV_eq, h9, Dt, encDat_eq]; rfl)
  | false =>
    repeat' (first | (simp only [go_sem, zA, zB, zC, zD, zE, zF, zG, reduceCtorEq, zH, zI, zJ, zK, zL, encVal_eq v, h9, List.length_map]; all_goals fail_if_success guard_target =ₛ False) | (with_reducible first | ((first | refine seqVC_stepN rfl ?_ | refine AWP.seq ?_ | refine AWP.seqR (by kernel_rfl) ?_ | refine parVC_stepN rfl ?_ | refine parEVC_stepN rfl ?_ | refine genVC_stepN rfl ?_); intro K hK) | ((first | refine hK _ _ _ ?_ | refine hK _ _ ?_ | refine hK _ ?_); clear hK K) | refine seqVC_nil ?_ | refine parVC_nil ?_ | refine parEVC_nil ?_ | refine genVC_nil ?_ | refine AWP.block ?_ | (refine AWP.cond (by with_unfolding_all rfl) ?_ ?_ <;> intro h <;> (try simp only [zM, zN] at h) <;> try exact absurd h (by decide)) | refine AWP.skip ?_ | refine AWP.ret ?_ | refine AWP.exit ?_ | refine ⟨_, hcl, ?_⟩ | (refine AWP.genR (id := 3) [10,11] [] mixed (by kernel_rfl) fun K hK => ?_; simp only [Bx.outs, Bx.drop, cond_true, cond_false, Nat.reduceBEq, go_sem]) | (refine AWP.segP (id := 7) 5 mixed (by kernel_rfl) fun K hK => ?_; simp only [List.take_succ_cons, List.take_zero, List.drop_succ_cons, List.drop_zero]) | refine AWP.parR mixed (by kernel_rfl) fun K hK => ?_ | refine ⟨(by kernel_rfl : depB _ _ _ = true), ?_⟩ | refine Or.inl ?_) | (clear hK K))
    refine AWP.gh (Gh.nilcell 3 3 900 rfl rfl rfl (by simp only [go_sem, zA, zB, zC, zD, zE, zF, zG, reduceCtorEq, zH, zI, zJ, zK, zL]) (by simp only [go_sem, zA, zB, zC, zD, zE, zF, zG, reduceCtorEq, zH, zI, zJ, zK, zL])) ?_
    refine AWP.len 21 rfl fun hlen0 => ?_
    (try rw [List.length_map] at hlen0)
    refine AWP.range (S := List Dat) (v.kids) encVal (fun k s => (23, I .i64 (k : Nat)) :: []) (fun k s => [(3, ofBox v s.length), (900, .row 13 (s.map encDat))]) [2, 3, 21, 22] [2] (fun k s => Is s ((v.kids.take k).map ofV) ∧ s.length = k) ([]) (by simp only [go_sem, zA, zB, zC, zD, zE, zF, zG, reduceCtorEq, zH, zI, zJ, zK, zL, encVal_eq v]; exact Gh.to [] (by repeat (first | exact trivial | refine ⟨rfl, ?_⟩ | refine ⟨by (simp only [go_sem, zA, zB, zC, zD, zE, zF, zG, reduceCtorEq, zH, zI, zJ, zK, zL, List.length_append, List.length_map, List.length_cons, List.length_nil, Nat.zero_add]) <;> rfl, ?_⟩)) (by repeat (first | exact trivial | refine ⟨rfl, ?_⟩ | refine ⟨by (simp only [go_sem, zA, zB, zC, zD, zE, zF, zG, reduceCtorEq, zH, zI, zJ, zK, zL, List.length_append, List.length_map, List.length_cons, List.length_nil, Nat.zero_add]) <;> rfl, ?_⟩)) rfl rfl rfl) ?_ ?_ ?_
    · exact ⟨rfl, rfl⟩
    · rintro k s x hlt hx hx' hb ⟨hok, hsl⟩
      simp only [go_sem, zA, zB, zC, zD, zE, zF, zG, reduceCtorEq, zH, zI, zJ, zK, zL]
      have hix := ih x (List.mem_of_getElem? hx)
      repeat' (first | (simp only [go_sem, zA, zB, zC, zD, zE, zF, zG, reduceCtorEq, zH, zI, zJ, zK, zL, List.length_map, hb, dat_snoc]; all_goals fail_if_success guard_target =ₛ False) | (with_reducible first | ((first | refine seqVC_stepN rfl ?_ | refine AWP.seq ?_ | refine AWP.seqR (by kernel_rfl) ?_ | refine parVC_stepN rfl ?_ | refine parEVC_stepN rfl ?_ | refine genVC_stepN rfl ?_); intro K hK) | ((first | refine hK _ _ _ ?_ | refine hK _ _ ?_ | refine hK _ ?_); clear hK K) | refine seqVC_nil ?_ | refine parVC_nil ?_ | refine parEVC_nil ?_ | refine genVC_nil ?_ | refine AWP.block ?_ | (refine AWP.cond (by with_unfolding_all rfl) ?_ ?_ <;> intro h <;> (try simp only [zM, zN] at h) <;> try exact absurd h (by decide)) | refine AWP.skip ?_ | refine AWP.ret ?_ | refine AWP.exit ?_ | refine ⟨_, hix, ?_⟩ | refine ⟨by omega, encVal x, hx', ?_⟩ | (refine ⟨(by first | omega | (simp only [List.length_append, List.length_map, List.length_take, List.length_drop, List.length_cons, List.length_nil, List.length_replicate]; omega) : _ ≤ _), ?_⟩) | refine ⟨by omega, by omega, ?_⟩ | (refine AWP.genR (id := 7) [1,5,7] [3,900] mixed (by kernel_rfl) fun K hK => ?_; simp only [Bx.outs, Bx.drop, cond_true, cond_false, Nat.reduceBEq, go_sem]) | (refine AWP.segP (id := 3) 10 mixed (by kernel_rfl) fun K hK => ?_; simp only [List.take_succ_cons, List.take_zero, List.drop_succ_cons, List.drop_zero]) | refine AWP.parR mixed (by kernel_rfl) fun K hK => ?_ | refine ⟨(by kernel_rfl : depB _ _ _ = true), ?_⟩ | refine Or.inl ?_) | (clear hK K))
      all_goals (rw [wrap_succ hlt hlen0])
      all_goals (refine ⟨s ++ [ofV x], ?_, Gh.to [(900, 32)] (by repeat (first | exact trivial | refine ⟨rfl, ?_⟩ | refine ⟨by (simp only [go_sem, zA, zB, zC, zD, zE, zF, zG, reduceCtorEq, zH, zI, zJ, zK, zL, List.length_append, List.length_map, List.length_cons, List.length_nil, Nat.zero_add]) <;> rfl, ?_⟩)) (by repeat (first | exact trivial | refine ⟨rfl, ?_⟩ | refine ⟨by (simp only [go_sem, zA, zB, zC, zD, zE, zF, zG, reduceCtorEq, zH, zI, zJ, zK, zL, List.length_append, List.length_map, List.length_cons, List.length_nil, Nat.zero_add]) <;> rfl, ?_⟩)) rfl rfl rfl⟩)
      all_goals (refine ⟨?_, by simp; omega⟩; rw [Is, List.take_add_one, List.map_append, hx, ← show s = _ from hok]; rfl)
    · rintro s hb ⟨hok, _⟩
      simp only [go_sem, zA, zB, zC, zD, zE, zF, zG, reduceCtorEq, zH, zI, zJ, zK, zL]
      rw [List.take_length] at hok
      refine AWP.gh (Gh.freeze 900 rfl rfl (by simp only [go_sem, zA, zB, zC, zD, zE, zF, zG, reduceCtorEq, zH, zI, zJ, zK, zL, List.length_map]) (by simp only [go_sem, zA, zB, zC, zD, zE, zF, zG, reduceCtorEq, zH, zI, zJ, zK, zL, List.length_map])) ?_
      simp only [go_sem, zA, zB, zC, zD, zE, zF, zG, reduceCtorEq, zH, zI, zJ, zK, zL, List.length_map]
      repeat' (first | (simp only [go_sem, zA, zB, zC, zD, zE, zF, zG, reduceCtorEq, zH, zI, zJ, zK, zL, List.length_map, hb]; all_goals fail_if_success guard_target =ₛ False) | (with_reducible first | ((first | refine seqVC_stepN rfl ?_ | refine AWP.seq ?_ | refine AWP.seqR (by kernel_rfl) ?_ | refine parVC_stepN rfl ?_ | refine parEVC_stepN rfl ?_ | refine genVC_stepN rfl ?_); intro K hK) | ((first | refine hK _ _ _ ?_ | refine hK _ _ ?_ | refine hK _ ?_); clear hK K) | refine seqVC_nil ?_ | refine parVC_nil ?_ | refine parEVC_nil ?_ | refine genVC_nil ?_ | refine AWP.block ?_ | (refine AWP.cond (by with_unfolding_all rfl) ?_ ?_ <;> intro h <;> (try simp only [zM, zN] at h) <;> try exact absurd h (by decide)) | refine AWP.skip ?_ | refine AWP.ret ?_ | refine AWP.exit ?_ | (refine AWP.segP (id := 3) 10 mixed (by kernel_rfl) fun K hK => ?_; simp only [List.take_succ_cons, List.take_zero, List.drop_succ_cons, List.drop_zero]) | (refine AWP.segP (id := 7) 5 mixed (by kernel_rfl) fun K hK => ?_; simp only [List.take_succ_cons, List.take_zero, List.drop_succ_cons, List.drop_zero]) | refine AWP.parR mixed (by kernel_rfl) fun K hK => ?_ | refine ⟨(by kernel_rfl : depB _ _ _ = true), ?_⟩ | refine Or.inl ?_) | (clear hK K))
      all_goals (first | exact fun _ h => (by cases h) | refine fin0 ?_)
      all_goals (rw [ofV_eq, h9, Dt, encDat_eq, show s = _ from hok]; rfl)
termination_by bulkV v
decreasing_by exact bulk_kid hk
theorem refOf_c0 (v : Val) (hv : Sm v) : PC Tryz.prog 28 [Vt v] (Dt (ofV v)) := by
  have ih : ∀ k ∈ v.kids, PC Tryz.prog 28 [Vt k] (Dt (ofV k)) := fun k hk => refOf_c0 k (hv.kid k hk)
  have hkk := hv.kids
  have hky := hv.keys
  refine PCB.of_body Tryz.func28 rfl (by decide) Tryz.ntmps28 Tryz.results28 rfl rfl rfl ?_ rfl rfl
  cases h9 : decide (v.kind = 9) with
  | true =>
    repeat' (first | (simp only [go_sem, zA, zB, zC, zD, zE, zF, zG, reduceCtorEq, zH, zI, zJ, zK, zL, encVal_eq, h9]; all_goals fail_if_success guard_target =ₛ False) | (with_reducible first | ((first | refine seqVC_stepN rfl ?_ | refine AWP.seq ?_ | refine AWP.seqR (by kernel_rfl) ?_ | refine parVC_stepN rfl ?_ | refine parEVC_stepN rfl ?_ | refine genVC_stepN rfl ?_); intro K hK) | ((first | refine hK _ _ _ ?_ | refine hK _ _ ?_ | refine hK _ ?_); clear hK K) | refine seqVC_nil ?_ | refine parVC_nil ?_ | refine parEVC_nil ?_ | refine genVC_nil ?_ | refine AWP.block ?_ | (refine AWP.cond (by with_unfolding_all rfl) ?_ ?_ <;> intro h <;> (try simp only [zM, zN] at h) <;> try exact absurd h (by decide)) | refine AWP.skip ?_ | refine AWP.ret ?_ | refine AWP.exit ?_ | (refine AWP.segP (id := 3) 8 mixed (by kernel_rfl) fun K hK => ?_; simp only [List.take_succ_cons, List.take_zero, List.drop_succ_cons, List.drop_zero]) | (refine AWP.segP (id := 7) 5 mixed (by kernel_rfl) fun K hK => ?_; simp only [List.take_succ_cons, List.take_zero, List.drop_succ_cons, List.drop_zero]) | refine AWP.parR mixed (by kernel_rfl) fun K hK => ?_ | refine ⟨(by kernel_rfl : depB _ _ _ = true), ?_⟩ | refine Or.inl ?_) | (clear hK K))
    all_goals (first | exact fun _ h => (by cases h) | refine fin0 ?_)
    all_goals (rw [ofV_eq, h9, Dt, encDat_eq]; rfl)
  | false =>
    repeat' (first | (simp only [go_sem, zA, zB, zC, zD, zE, zF, zG, reduceCtorEq, zH, zI, zJ, zK, zL, encVal_eq v, h9, List.length_map]; all_goals fail_if_success guard_target =ₛ False) | (with_reducible first | ((first | refine seqVC_stepN rfl ?_ | refine AWP.seq ?_ | refine AWP.seqR (by kernel_rfl) ?_ | refine parVC_stepN rfl ?_ | refine parEVC_stepN rfl ?_ | refine genVC_stepN rfl ?_ | refine genMVC_stepN rfl ?_); intro K hK) | ((first | refine hK _ _ _ ?_ | refine hK _ _ ?_ | refine hK _ ?_); clear hK K) | refine seqVC_nil ?_ | refine parVC_nil ?_ | refine parEVC_nil ?_ | refine genVC_nil ?_ | refine genMVC_nil ?_ | refine AWP.block ?_ | (refine AWP.cond (by with_unfolding_all rfl) ?_ ?_ <;> intro h <;> (try simp only [zM, zN] at h) <;> try exact absurd h (by decide)) | refine AWP.skip ?_ | refine AWP.ret ?_ | refine AWP.exit ?_ | (refine ⟨(by first | omega | (simp only [List.length_append, List.length_map, List.length_take, List.length_drop, List.length_cons, List.length_nil, List.length_replicate]; omega) : _ ≤ _), ?_⟩) | refine ⟨by omega, by omega, ?_⟩ | (refine AWP.genMS (id := 3) [8,10] 11 mixed (by kernel_rfl) fun K hK => ?_; simp only [List.take_succ_cons, List.take_zero, List.drop_succ_cons, List.drop_zero]) | (refine AWP.segP (id := 7) 5 mixed (by kernel_rfl) fun K hK => ?_; simp only [List.take_succ_cons, List.take_zero, List.drop_succ_cons, List.drop_zero]) | refine AWP.parR mixed (by kernel_rfl) fun K hK => ?_ | refine ⟨(by kernel_rfl : depB _ _ _ = true), ?_⟩ | refine Or.inl ?_) | (clear hK K))
    refine AWP.gh (Gh.freeze 18 rfl rfl (by simp only [go_sem, zA, zB, zC, zD, zE, zF, zG, reduceCtorEq, zH, zI, zJ, zK, zL, List.length_map]) (by simp only [go_sem, zA, zB, zC, zD, zE, zF, zG, reduceCtorEq, zH, zI, zJ, zK, zL, List.length_map])) ?_
    simp only [go_sem, zA, zB, zC, zD, zE, zF, zG, reduceCtorEq, zH, zI, zJ, zK, zL, List.length_map]
    refine AWP.gh (Gh.nilcell 3 3 900 rfl rfl rfl (by simp only [go_sem, zA, zB, zC, zD, zE, zF, zG, reduceCtorEq, zH, zI, zJ, zK, zL]) (by simp only [go_sem, zA, zB, zC, zD, zE, zF, zG, reduceCtorEq, zH, zI, zJ, zK, zL])) ?_
    refine AWP.len 21 rfl fun hlen0 => ?_
    (try rw [List.length_map] at hlen0)
    refine AWP.range (S := List Dat) (v.kids) encVal (fun k s => (23, I .i64 (k : Nat)) :: []) (fun k s => [(3, ofBox v s.length), (900, .row 13 (s.map encDat))]) [2, 3, 21, 22] [2] (fun k s => Is s ((v.kids.take k).map ofV) ∧ s.length = k) ([]) (by simp only [go_sem, zA, zB, zC, zD, zE, zF, zG, reduceCtorEq, zH, zI, zJ, zK, zL, encVal_eq v]; exact Gh.to [] (by repeat (first | exact trivial | refine ⟨rfl, ?_⟩ | refine ⟨by (simp only [go_sem, zA, zB, zC, zD, zE, zF, zG, reduceCtorEq, zH, zI, zJ, zK, zL, List.length_append, List.length_map, List.length_cons, List.length_nil, Nat.zero_add]) <;> rfl, ?_⟩)) (by repeat (first | exact trivial | refine ⟨rfl, ?_⟩ | refine ⟨by (simp only [go_sem, zA, zB, zC, zD, zE, zF, zG, reduceCtorEq, zH, zI, zJ, zK, zL, List.length_append, List.length_map, List.length_cons, List.length_nil, Nat.zero_add]) <;> rfl, ?_⟩)) rfl rfl rfl) ?_ ?_ ?_
    · exact ⟨rfl, rfl⟩
    · rintro k s x hlt hx hx' hb ⟨hok, hsl⟩
      simp only [go_sem, zA, zB, zC, zD, zE, zF, zG, reduceCtorEq, zH, zI, zJ, zK, zL]
      have hix := ih x (List.mem_of_getElem? hx)
      repeat' (first | (simp only [go_sem, zA, zB, zC, zD, zE, zF, zG, reduceCtorEq, zH, zI, zJ, zK, zL, List.length_map, hb, dat_snoc]; all_goals fail_if_success guard_target =ₛ False) | (with_reducible first | ((first | refine seqVC_stepN rfl ?_ | refine AWP.seq ?_ | refine AWP.seqR (by kernel_rfl) ?_ | refine parVC_stepN rfl ?_ | refine parEVC_stepN rfl ?_ | refine genVC_stepN rfl ?_); intro K hK) | ((first | refine hK _ _ _ ?_ | refine hK _ _ ?_ | refine hK _ ?_); clear hK K) | refine seqVC_nil ?_ | refine parVC_nil ?_ | refine parEVC_nil ?_ | refine genVC_nil ?_ | refine AWP.block ?_ | (refine AWP.cond (by with_unfolding_all rfl) ?_ ?_ <;> intro h <;> (try simp only [zM, zN] at h) <;> try exact absurd h (by decide)) | refine AWP.skip ?_ | refine AWP.ret ?_ | refine AWP.exit ?_ | refine ⟨_, hix, ?_⟩ | refine ⟨by omega, encVal x, hx', ?_⟩ | (refine ⟨(by first | omega | (simp only [List.length_append, List.length_map, List.length_take, List.length_drop, List.length_cons, List.length_nil, List.length_replicate]; omega) : _ ≤ _), ?_⟩) | refine ⟨by omega, by omega, ?_⟩ | (refine AWP.genR (id := 7) [1,5,7] [3,900] mixed (by kernel_rfl) fun K hK => ?_; simp only [Bx.outs, Bx.drop, cond_true, cond_false, Nat.reduceBEq, go_sem]) | (refine AWP.segP (id := 3) 8 mixed (by kernel_rfl) fun K hK => ?_; simp only [List.take_succ_cons, List.take_zero, List.drop_succ_cons, List.drop_zero]) | refine AWP.parR mixed (by kernel_rfl) fun K hK => ?_ | refine ⟨(by kernel_rfl : depB _ _ _ = true), ?_⟩ | refine Or.inl ?_) | (clear hK K))
      all_goals (rw [wrap_succ hlt hlen0])
      all_goals (refine ⟨s ++ [ofV x], ?_, Gh.to [(900, 32)] (by repeat (first | exact trivial | refine ⟨rfl, ?_⟩ | refine ⟨by (simp only [go_sem, zA, zB, zC, zD, zE, zF, zG, reduceCtorEq, zH, zI, zJ, zK, zL, List.length_append, List.length_map, List.length_cons, List.length_nil, Nat.zero_add]) <;> rfl, ?_⟩)) (by repeat (first | exact trivial | refine ⟨rfl, ?_⟩ | refine ⟨by (simp only [go_sem, zA, zB, zC, zD, zE, zF, zG, reduceCtorEq, zH, zI, zJ, zK, zL, List.length_append, List.length_map, List.length_cons, List.length_nil, Nat.zero_add]) <;> rfl, ?_⟩)) rfl rfl rfl⟩)
      all_goals (refine ⟨?_, by simp; omega⟩; rw [Is, List.take_add_one, List.map_append, hx, ← show s = _ from hok]; rfl)
    · rintro s hb ⟨hok, _⟩
      simp only [go_sem, zA, zB, zC, zD, zE, zF, zG, reduceCtorEq, zH, zI, zJ, zK, zL]
      rw [List.take_length] at hok
      refine AWP.gh (Gh.freeze 900 rfl rfl (by simp only [go_sem, zA, zB, zC, zD, zE, zF, zG, reduceCtorEq, zH, zI, zJ, zK, zL, List.length_map]) (by simp only [go_sem, zA, zB, zC, zD, zE, zF, zG, reduceCtorEq, zH, zI, zJ, zK, zL, List.length_map])) ?_
      simp only [go_sem, zA, zB, zC, zD, zE, zF, zG, reduceCtorEq, zH, zI, zJ, zK, zL, List.length_map]
      repeat' (first | (simp only [go_sem, zA, zB, zC, zD, zE, zF, zG, reduceCtorEq, zH, zI, zJ, zK, zL, List.length_map, hb]; all_goals fail_if_success guard_target =ₛ False) | (with_reducible first | ((first | refine seqVC_stepN rfl ?_ | refine AWP.seq ?_ | refine AWP.seqR (by kernel_rfl) ?_ | refine parVC_stepN rfl ?_ | refine parEVC_stepN rfl ?_ | refine genVC_stepN rfl ?_); intro K hK) | ((first | refine hK _ _ _ ?_ | refine hK _ _ ?_ | refine hK _ ?_); clear hK K) | refine seqVC_nil ?_ | refine parVC_nil ?_ | refine parEVC_nil ?_ | refine genVC_nil ?_ | refine AWP.block ?_ | (refine AWP.cond (by with_unfolding_all rfl) ?_ ?_ <;> intro h <;> (try simp only [zM, zN] at h) <;> try exact absurd h (by decide)) | refine AWP.skip ?_ | refine AWP.ret ?_ | refine AWP.exit ?_ | (refine AWP.segP (id := 3) 8 mixed (by kernel_rfl) fun K hK => ?_; simp only [List.take_succ_cons, List.take_zero, List.drop_succ_cons, List.drop_zero]) | (refine AWP.segP (id := 7) 5 mixed (by kernel_rfl) fun K hK => ?_; simp only [List.take_succ_cons, List.take_zero, List.drop_succ_cons, List.drop_zero]) | refine AWP.parR mixed (by kernel_rfl) fun K hK => ?_ | refine ⟨(by kernel_rfl : depB _ _ _ = true), ?_⟩ | refine Or.inl ?_) | (clear hK K))
      all_goals (first | exact fun _ h => (by cases h) | refine fin0 ?_)
      all_goals (rw [ofV_eq, h9, Dt, encDat_eq, show s = _ from hok]; rfl)
termination_by bulkV v
decreasing_by exact bulk_kid hk
/-- the datum of any value -/
def ofW (v : Val) : Dat := bif treeB v then ofV v else zeroDat
theorem zeroDt : Dt zeroDat = .st [.int .i64 0, .int .i64 0, .str [], .sl 13 [], .sl 2 [], .str [], .int .i64 0, .int .i64 0, .bool false, .sl 8 [], .int .i64 0, .str [], .str []] := by rw [Dt, encDat_eq]; rfl
theorem datumOf_c (v : Val) (hv : Sm v) : PC Tryz.prog 9 [Vt v] (Dt (ofW v)) := by
  have h1 := validate_c v hv
  have h2 := of_c v hv
  unfold ofW
  refine PCB.of_body Tryz.func9 rfl (by decide) Tryz.ntmps9 Tryz.results9 rfl rfl rfl ?_ rfl rfl
  cases hz : treeB v <;> rw [hz] at h1
  all_goals
    repeat' (first | (simp only [go_sem, zA, zB, zC, zD, zE, zF, zG, reduceCtorEq, zH, zI, zJ, zK, zL, hz]; all_goals fail_if_success guard_target =ₛ False) | (with_reducible first | ((first | refine seqVC_stepN rfl ?_ | refine AWP.seq ?_ | refine AWP.seqR (by kernel_rfl) ?_); intro K hK) | ((first | refine hK _ _ _ ?_ | refine hK _ _ ?_ | refine hK _ ?_); clear hK K) | refine seqVC_nil ?_ | refine AWP.block ?_ | (refine AWP.cond (by with_unfolding_all rfl) ?_ ?_ <;> intro h <;> (try simp only [zM, zN] at h) <;> try exact absurd h (by decide)) | refine AWP.skip ?_ | refine AWP.ret ?_ | refine AWP.exit ?_ | refine ⟨_, h1, ?_⟩ | refine ⟨_, h2, ?_⟩ | refine Or.inl ?_) | (clear hK K))
  all_goals (first | exact fun _ h => (by cases h) | refine fin0 ?_)
  all_goals (simp only [cond_true, cond_false, zeroDt]; try rfl)
theorem refOf_c (v : Val) (hv : Sm v) : PC Tryz.prog 10 [Vt v] (Dt (ofW v)) := by
  have h1 := valid_c v
  have h2 := refOf_c0 v hv
  unfold ofW
  refine PCB.of_body Tryz.func10 rfl (by decide) Tryz.ntmps10 Tryz.results10 rfl rfl rfl ?_ rfl rfl
  cases hz : treeB v <;> rw [hz] at h1
  all_goals
    repeat' (first | (simp only [go_sem, zA, zB, zC, zD, zE, zF, zG, reduceCtorEq, zH, zI, zJ, zK, zL, hz]; all_goals fail_if_success guard_target =ₛ False) | (with_reducible first | ((first | refine seqVC_stepN rfl ?_ | refine AWP.seq ?_ | refine AWP.seqR (by kernel_rfl) ?_); intro K hK) | ((first | refine hK _ _ _ ?_ | refine hK _ _ ?_ | refine hK _ ?_); clear hK K) | refine seqVC_nil ?_ | refine AWP.block ?_ | (refine AWP.cond (by with_unfolding_all rfl) ?_ ?_ <;> intro h <;> (try simp only [zM, zN] at h) <;> try exact absurd h (by decide)) | refine AWP.skip ?_ | refine AWP.ret ?_ | refine AWP.exit ?_ | refine ⟨_, h1, ?_⟩ | refine ⟨_, h2, ?_⟩ | refine Or.inl ?_) | (clear hK K))
  all_goals (first | exact fun _ h => (by cases h) | refine fin0 ?_)
  all_goals (simp only [cond_true, cond_false, zeroDt]; try rfl)
mutual
def cntV : Val → Nat
  | ⟨_, _, _, kids, _, ents, _⟩ => 1 + cntVs kids + cntEs ents
def cntVs : List Val → Nat
  | [] => 0
  | v :: l => cntV v + cntVs l
def cntE : List Val × Bool × Val → Nat
  | (a, f, r) => cntVs a + bif f then 0 else cntV r
def cntEs : List (List Val × Bool × Val) → Nat
  | [] => 0
  | e :: l => cntE e + cntEs l
end
theorem cntV_eq (v : Val) : cntV v = 1 + cntVs v.kids + cntEs v.ents := by cases v; simp only [cntV]
theorem cntE_eq (e : List Val × Bool × Val) : cntE e = cntVs e.1 + bif e.2.1 then 0 else cntV e.2.2 := by obtain ⟨a, f, r⟩ := e; simp only [cntE]
mutual
theorem cnt_bulk : ∀ v : Val, cntV v ≤ bulkV v
  | ⟨_, _, _, kids, keys, ents, labels⟩ => by
    have h1 := cnts_bulk kids; have h2 := cntEs_bulk ents
    simp only [cntV, bulkV]; omega
theorem cnts_bulk : ∀ l : List Val, cntVs l ≤ bulkVs l
  | [] => by simp [cntVs]
  | v :: l => by have h1 := cnt_bulk v; have h2 := cnts_bulk l; simp only [cntVs, bulkVs]; omega
theorem cntE_bulk : ∀ e : List Val × Bool × Val, cntE e ≤ bulkE e
  | (a, f, r) => by
    have h1 := cnts_bulk a; have h2 := cnt_bulk r
    simp only [cntE, bulkE]; cases f <;> simp only [cond_true, cond_false] <;> omega
theorem cntEs_bulk : ∀ l : List (List Val × Bool × Val), cntEs l ≤ bulkEs l
  | [] => by simp [cntEs]
  | e :: l => by have h1 := cntE_bulk e; have h2 := cntEs_bulk l; simp only [cntEs, bulkEs]; omega
end
theorem cntVs_take {l : List Val} {k : Nat} {x : Val} (hx : l[k]? = some x) : cntVs (l.take (k + 1)) = cntVs (l.take k) + cntV x := by
  induction l generalizing k with
  | nil => simp at hx
  | cons y l ih =>
    cases k with
    | zero => simp at hx; subst hx; simp [cntVs]
    | succ k => have := ih (k := k) (by simpa using hx); simp only [List.take_succ_cons, cntVs, this]; omega
theorem cntEs_take {l : List (List Val × Bool × Val)} {k : Nat} {x : List Val × Bool × Val} (hx : l[k]? = some x) : cntEs (l.take (k + 1)) = cntEs (l.take k) + cntE x := by
  induction l generalizing k with
  | nil => simp at hx
  | cons y l ih =>
    cases k with
    | zero => simp at hx; subst hx; simp [cntEs]
    | succ k => have := ih (k := k) (by simpa using hx); simp only [List.take_succ_cons, cntEs, this]; omega
theorem cntVs_le (l : List Val) (k : Nat) : cntVs (l.take k) ≤ cntVs l := by
  induction l generalizing k with
  | nil => simp
  | cons y l ih => cases k with
    | zero => simp [cntVs]
    | succ k => have := ih k; simp only [List.take_succ_cons, cntVs]; omega
theorem cntEs_le (l : List (List Val × Bool × Val)) (k : Nat) : cntEs (l.take k) ≤ cntEs l := by
  induction l generalizing k with
  | nil => simp
  | cons y l ih => cases k with
    | zero => simp [cntEs]
    | succ k => have := ih k; simp only [List.take_succ_cons, cntEs]; omega
theorem wrap_add {a b : Nat} (h : a + b ≤ 1000000000) : IntKind.i64.wrap ((a : Int) + (b : Int)) = ((a + b : Nat) : Int) := by rw [w64 (by omega)]; omega
theorem nodes_c (v : Val) (hv : Sm v) : PC Tryz.prog 4 [.st (encVal v)] (I .i64 (cntV v)) := by
  have hcb := cnt_bulk v
  have ihk : ∀ p ∈ v.kids, PC Tryz.prog 4 [.st (encVal p)] (I .i64 (cntV p)) := fun p hp => nodes_c p (hv.kid p hp)
  have iha : ∀ e ∈ v.ents, ∀ p ∈ e.1, PC Tryz.prog 4 [.st (encVal p)] (I .i64 (cntV p)) := fun e he p hp => nodes_c p (by have := bulk_arg he hp; unfold Sm at *; omega)
  have ihr : ∀ e ∈ v.ents, PC Tryz.prog 4 [.st (encVal e.2.2)] (I .i64 (cntV e.2.2)) := fun e he => nodes_c e.2.2 (by have := bulk_res he; unfold Sm at *; omega)
  unfold Sm at hv
  have hce := cntV_eq v
  refine PCB.of_body Tryz.func4 rfl (by decide) Tryz.ntmps4 Tryz.results4 rfl rfl rfl ?_ rfl rfl
  repeat' (first | (simp only [go_sem, zA, zB, zC, zD, zE, zF, zG, reduceCtorEq, zH, zI, zJ, zK, zL, encVal_eq v, List.length_map]; all_goals fail_if_success guard_target =ₛ False) | (with_reducible first | ((first | refine seqVC_stepN rfl ?_ | refine AWP.seq ?_ | refine AWP.seqR (by kernel_rfl) ?_); intro K hK) | ((first | refine hK _ _ _ ?_ | refine hK _ _ ?_ | refine hK _ ?_); clear hK K) | refine seqVC_nil ?_ | refine AWP.block ?_ | (refine AWP.cond (by with_unfolding_all rfl) ?_ ?_ <;> intro h <;> (try simp only [zM, zN] at h) <;> try exact absurd h (by decide)) | refine AWP.skip ?_ | refine AWP.ret ?_ | refine AWP.exit ?_ | refine Or.inl ?_) | (clear hK K))
  refine AWP.lenB 1 3 rfl rfl fun hlen0 => ?_
  (try rw [List.length_map] at hlen0)
  refine AWP.range (S := Nat) (v.kids) encVal (fun k s => (4, I .i64 (k : Nat)) :: [(3, I .i64 (s : Nat))]) (fun k s => []) [1] [1] (fun k s => Is s (1 + cntVs (v.kids.take k))) (1) (by simp only [go_sem, zA, zB, zC, zD, zE, zF, zG, reduceCtorEq, zH, zI, zJ, zK, zL, encVal_eq]; exact Gh.to [] (by repeat (first | exact trivial | refine ⟨rfl, ?_⟩ | refine ⟨by (simp only [go_sem, zA, zB, zC, zD, zE, zF, zG, reduceCtorEq, zH, zI, zJ, zK, zL, List.length_append, List.length_map, List.length_cons, List.length_nil, Nat.zero_add]) <;> rfl, ?_⟩)) (by repeat (first | exact trivial | refine ⟨rfl, ?_⟩ | refine ⟨by (simp only [go_sem, zA, zB, zC, zD, zE, zF, zG, reduceCtorEq, zH, zI, zJ, zK, zL, List.length_append, List.length_map, List.length_cons, List.length_nil, Nat.zero_add]) <;> rfl, ?_⟩)) rfl rfl rfl) ?_ ?_ ?_
  · simp [Is, cntVs]
  · intro k s x hlt hx hx' hb hok
    unfold Is at hok
    simp only [go_sem, zA, zB, zC, zD, zE, zF, zG, reduceCtorEq, zH, zI, zJ, zK, zL]
    have hix := ihk x (List.mem_of_getElem? hx)
    have hct := cntVs_take hx
    have hcl := cntVs_le v.kids (k + 1)
    have hw := wrap_add (a := s) (b := cntV x) (by omega)
    repeat' (first | (simp only [go_sem, zA, zB, zC, zD, zE, zF, zG, reduceCtorEq, zH, zI, zJ, zK, zL, encVal_eq v, List.length_map, hb, hw]; all_goals fail_if_success guard_target =ₛ False) | (with_reducible first | ((first | refine seqVC_stepN rfl ?_ | refine AWP.seq ?_ | refine AWP.seqR (by kernel_rfl) ?_); intro K hK) | ((first | refine hK _ _ _ ?_ | refine hK _ _ ?_ | refine hK _ ?_); clear hK K) | refine seqVC_nil ?_ | refine AWP.block ?_ | (refine AWP.cond (by with_unfolding_all rfl) ?_ ?_ <;> intro h <;> (try simp only [zM, zN] at h) <;> try exact absurd h (by decide)) | refine AWP.skip ?_ | refine AWP.ret ?_ | refine AWP.exit ?_ | refine ⟨_, hix, ?_⟩ | refine ⟨by omega, encVal x, hx', ?_⟩ | refine Or.inl ?_) | (clear hK K))
    all_goals (rw [wrap_succ hlt hlen0])
    all_goals (refine ⟨s + cntV x, ?_, Gh.to [] (by repeat (first | exact trivial | refine ⟨rfl, ?_⟩ | refine ⟨by (simp only [go_sem, zA, zB, zC, zD, zE, zF, zG, reduceCtorEq, zH, zI, zJ, zK, zL, List.length_append, List.length_map, List.length_cons, List.length_nil, Nat.zero_add]) <;> rfl, ?_⟩)) (by repeat (first | exact trivial | refine ⟨rfl, ?_⟩ | refine ⟨by (simp only [go_sem, zA, zB, zC, zD, zE, zF, zG, reduceCtorEq, zH, zI, zJ, zK, zL, List.length_append, List.length_map, List.length_cons, List.length_nil, Nat.zero_add]) <;> rfl, ?_⟩)) rfl rfl rfl⟩)
    all_goals (show _ = _; omega)
  intro s0 hb0 hok0
  simp only [go_sem, zA, zB, zC, zD, zE, zF, zG, reduceCtorEq, zH, zI, zJ, zK, zL]
  rw [Is, List.take_length] at hok0
  repeat' (first | (simp only [go_sem, zA, zB, zC, zD, zE, zF, zG, reduceCtorEq, zH, zI, zJ, zK, zL, encVal_eq v, List.length_map, hb0]; all_goals fail_if_success guard_target =ₛ False) | (with_reducible first | ((first | refine seqVC_stepN rfl ?_ | refine AWP.seq ?_ | refine AWP.seqR (by kernel_rfl) ?_); intro K hK) | ((first | refine hK _ _ _ ?_ | refine hK _ _ ?_ | refine hK _ ?_); clear hK K) | refine seqVC_nil ?_ | refine AWP.block ?_ | (refine AWP.cond (by with_unfolding_all rfl) ?_ ?_ <;> intro h <;> (try simp only [zM, zN] at h) <;> try exact absurd h (by decide)) | refine AWP.skip ?_ | refine AWP.ret ?_ | refine AWP.exit ?_ | refine Or.inl ?_) | (clear hK K))
  refine AWP.lenB 1 5 rfl rfl fun hlen1 => ?_
  (try rw [List.length_map] at hlen1)
  refine AWP.range (S := Nat) (v.ents) encEnt (fun k s => (5, I .i64 (k : Nat)) :: [(3, I .i64 (s : Nat))]) (fun k s => []) [1] [1] (fun k s => Is s (s0 + cntEs (v.ents.take k))) (s0) (by simp only [go_sem, zA, zB, zC, zD, zE, zF, zG, reduceCtorEq, zH, zI, zJ, zK, zL, encVal_eq]; exact Gh.to [] (by repeat (first | exact trivial | refine ⟨rfl, ?_⟩ | refine ⟨by (simp only [go_sem, zA, zB, zC, zD, zE, zF, zG, reduceCtorEq, zH, zI, zJ, zK, zL, List.length_append, List.length_map, List.length_cons, List.length_nil, Nat.zero_add]) <;> rfl, ?_⟩)) (by repeat (first | exact trivial | refine ⟨rfl, ?_⟩ | refine ⟨by (simp only [go_sem, zA, zB, zC, zD, zE, zF, zG, reduceCtorEq, zH, zI, zJ, zK, zL, List.length_append, List.length_map, List.length_cons, List.length_nil, Nat.zero_add]) <;> rfl, ?_⟩)) rfl rfl rfl) ?_ ?_ ?_
  · simp [Is, cntEs]
  · intro k s x hlt hx hx' hb hok
    unfold Is at hok
    simp only [go_sem, zA, zB, zC, zD, zE, zF, zG, reduceCtorEq, zH, zI, zJ, zK, zL]
    have hem := List.mem_of_getElem? hx
    have hia := iha x hem
    have hir := ihr x hem
    have hct := cntEs_take hx
    have hcl := cntEs_le v.ents (k + 1)
    have hxe := cntE_eq x
    rw [encVal_eq] at hir
    repeat' (first | (simp only [go_sem, zA, zB, zC, zD, zE, zF, zG, reduceCtorEq, zH, zI, zJ, zK, zL, encVal_eq v, encEnt_eq, List.length_map, hb]; all_goals fail_if_success guard_target =ₛ False) | (with_reducible first | ((first | refine seqVC_stepN rfl ?_ | refine AWP.seq ?_ | refine AWP.seqR (by kernel_rfl) ?_); intro K hK) | ((first | refine hK _ _ _ ?_ | refine hK _ _ ?_ | refine hK _ ?_); clear hK K) | refine seqVC_nil ?_ | refine AWP.block ?_ | (refine AWP.cond (by with_unfolding_all rfl) ?_ ?_ <;> intro h <;> (try simp only [zM, zN] at h) <;> try exact absurd h (by decide)) | refine AWP.skip ?_ | refine AWP.ret ?_ | refine AWP.exit ?_ | refine ⟨by omega, encEnt x, hx', ?_⟩ | refine Or.inl ?_) | (clear hK K))
    refine AWP.lenB 6 0 rfl rfl fun hlen2 => ?_
    (try rw [List.length_map] at hlen2)
    refine AWP.range (S := Nat) (x.1) encVal (fun k s => (7, I .i64 (k : Nat)) :: [(3, I .i64 (s : Nat))]) (fun k s => []) [1, 5, 6] [1, 6] (fun j r => Is r (s + cntVs (x.1.take j))) (s) (by simp only [go_sem, zA, zB, zC, zD, zE, zF, zG, reduceCtorEq, zH, zI, zJ, zK, zL, encVal_eq, encEnt_eq]; exact Gh.to [] (by repeat (first | exact trivial | refine ⟨rfl, ?_⟩ | refine ⟨by (simp only [go_sem, zA, zB, zC, zD, zE, zF, zG, reduceCtorEq, zH, zI, zJ, zK, zL, List.length_append, List.length_map, List.length_cons, List.length_nil, Nat.zero_add]) <;> rfl, ?_⟩)) (by repeat (first | exact trivial | refine ⟨rfl, ?_⟩ | refine ⟨by (simp only [go_sem, zA, zB, zC, zD, zE, zF, zG, reduceCtorEq, zH, zI, zJ, zK, zL, List.length_append, List.length_map, List.length_cons, List.length_nil, Nat.zero_add]) <;> rfl, ?_⟩)) rfl rfl rfl) ?_ ?_ ?_
    · simp [Is, cntVs]
    · intro i r y hlti hy hy' hbi hoki
      unfold Is at hoki
      simp only [go_sem, zA, zB, zC, zD, zE, zF, zG, reduceCtorEq, zH, zI, zJ, zK, zL]
      have hiy := hia y (List.mem_of_getElem? hy)
      have hct2 := cntVs_take hy
      have hcl2 := cntVs_le x.1 (i + 1)
      have hw := wrap_add (a := r) (b := cntV y) (by omega)
      repeat' (first | (simp only [go_sem, zA, zB, zC, zD, zE, zF, zG, reduceCtorEq, zH, zI, zJ, zK, zL, encVal_eq v, encEnt_eq, List.length_map, hbi, hw]; all_goals fail_if_success guard_target =ₛ False) | (with_reducible first | ((first | refine seqVC_stepN rfl ?_ | refine AWP.seq ?_ | refine AWP.seqR (by kernel_rfl) ?_); intro K hK) | ((first | refine hK _ _ _ ?_ | refine hK _ _ ?_ | refine hK _ ?_); clear hK K) | refine seqVC_nil ?_ | refine AWP.block ?_ | (refine AWP.cond (by with_unfolding_all rfl) ?_ ?_ <;> intro h <;> (try simp only [zM, zN] at h) <;> try exact absurd h (by decide)) | refine AWP.skip ?_ | refine AWP.ret ?_ | refine AWP.exit ?_ | refine ⟨_, hiy, ?_⟩ | refine ⟨by omega, encVal y, hy', ?_⟩ | refine Or.inl ?_) | (clear hK K))
      all_goals (rw [wrap_succ hlti hlen2])
      all_goals (refine ⟨r + cntV y, ?_, Gh.to [] (by repeat (first | exact trivial | refine ⟨rfl, ?_⟩ | refine ⟨by (simp only [go_sem, zA, zB, zC, zD, zE, zF, zG, reduceCtorEq, zH, zI, zJ, zK, zL, List.length_append, List.length_map, List.length_cons, List.length_nil, Nat.zero_add]) <;> rfl, ?_⟩)) (by repeat (first | exact trivial | refine ⟨rfl, ?_⟩ | refine ⟨by (simp only [go_sem, zA, zB, zC, zD, zE, zF, zG, reduceCtorEq, zH, zI, zJ, zK, zL, List.length_append, List.length_map, List.length_cons, List.length_nil, Nat.zero_add]) <;> rfl, ?_⟩)) rfl rfl rfl⟩)
      all_goals (show _ = _; omega)
    intro r hb2 hok2
    simp only [go_sem, zA, zB, zC, zD, zE, zF, zG, reduceCtorEq, zH, zI, zJ, zK, zL]
    rw [Is, List.take_length] at hok2
    cases hf : x.2.1 <;> simp only [hf, cond_true, cond_false] at hxe
    · have hw := wrap_add (a := r) (b := cntV x.2.2) (by omega)
      repeat' (first | (simp only [go_sem, zA, zB, zC, zD, zE, zF, zG, reduceCtorEq, zH, zI, zJ, zK, zL, encVal_eq, encEnt_eq, List.length_map, hb2, hf, hw]; all_goals fail_if_success guard_target =ₛ False) | (with_reducible first | ((first | refine seqVC_stepN rfl ?_ | refine AWP.seq ?_ | refine AWP.seqR (by kernel_rfl) ?_); intro K hK) | ((first | refine hK _ _ _ ?_ | refine hK _ _ ?_ | refine hK _ ?_); clear hK K) | refine seqVC_nil ?_ | refine AWP.block ?_ | (refine AWP.cond (by with_unfolding_all rfl) ?_ ?_ <;> intro h <;> (try simp only [zM, zN] at h) <;> try exact absurd h (by decide)) | refine AWP.skip ?_ | refine AWP.ret ?_ | refine AWP.exit ?_ | refine ⟨_, hir, ?_⟩ | refine Or.inl ?_) | (clear hK K))
      all_goals (rw [wrap_succ hlt hlen1])
      all_goals (refine ⟨r + cntV x.2.2, ?_, Gh.to [] (by repeat (first | exact trivial | refine ⟨rfl, ?_⟩ | refine ⟨by (simp only [go_sem, zA, zB, zC, zD, zE, zF, zG, reduceCtorEq, zH, zI, zJ, zK, zL, List.length_append, List.length_map, List.length_cons, List.length_nil, Nat.zero_add]) <;> rfl, ?_⟩)) (by repeat (first | exact trivial | refine ⟨rfl, ?_⟩ | refine ⟨by (simp only [go_sem, zA, zB, zC, zD, zE, zF, zG, reduceCtorEq, zH, zI, zJ, zK, zL, List.length_append, List.length_map, List.length_cons, List.length_nil, Nat.zero_add]) <;> rfl, ?_⟩)) rfl rfl rfl⟩)
      all_goals (show _ = _; omega)
    ·
      repeat' (first | (simp only [go_sem, zA, zB, zC, zD, zE, zF, zG, reduceCtorEq, zH, zI, zJ, zK, zL, encVal_eq, encEnt_eq, List.length_map, hb2, hf]; all_goals fail_if_success guard_target =ₛ False) | (with_reducible first | ((first | refine seqVC_stepN rfl ?_ | refine AWP.seq ?_ | refine AWP.seqR (by kernel_rfl) ?_); intro K hK) | ((first | refine hK _ _ _ ?_ | refine hK _ _ ?_ | refine hK _ ?_); clear hK K) | refine seqVC_nil ?_ | refine AWP.block ?_ | (refine AWP.cond (by with_unfolding_all rfl) ?_ ?_ <;> intro h <;> (try simp only [zM, zN] at h) <;> try exact absurd h (by decide)) | refine AWP.skip ?_ | refine AWP.ret ?_ | refine AWP.exit ?_ | refine Or.inl ?_) | (clear hK K))
      all_goals (rw [wrap_succ hlt hlen1])
      all_goals (refine ⟨r, ?_, Gh.to [] (by repeat (first | exact trivial | refine ⟨rfl, ?_⟩ | refine ⟨by (simp only [go_sem, zA, zB, zC, zD, zE, zF, zG, reduceCtorEq, zH, zI, zJ, zK, zL, List.length_append, List.length_map, List.length_cons, List.length_nil, Nat.zero_add]) <;> rfl, ?_⟩)) (by repeat (first | exact trivial | refine ⟨rfl, ?_⟩ | refine ⟨by (simp only [go_sem, zA, zB, zC, zD, zE, zF, zG, reduceCtorEq, zH, zI, zJ, zK, zL, List.length_append, List.length_map, List.length_cons, List.length_nil, Nat.zero_add]) <;> rfl, ?_⟩)) rfl rfl rfl⟩)
      all_goals (show _ = _; omega)
  intro s1 hb1 hok1
  simp only [go_sem, zA, zB, zC, zD, zE, zF, zG, reduceCtorEq, zH, zI, zJ, zK, zL]
  rw [Is, List.take_length] at hok1
  repeat' (first | (simp only [go_sem, zA, zB, zC, zD, zE, zF, zG, reduceCtorEq, zH, zI, zJ, zK, zL, encVal_eq v, List.length_map, hb1]; all_goals fail_if_success guard_target =ₛ False) | (with_reducible first | ((first | refine seqVC_stepN rfl ?_ | refine AWP.seq ?_ | refine AWP.seqR (by kernel_rfl) ?_); intro K hK) | ((first | refine hK _ _ _ ?_ | refine hK _ _ ?_ | refine hK _ ?_); clear hK K) | refine seqVC_nil ?_ | refine AWP.block ?_ | (refine AWP.cond (by with_unfolding_all rfl) ?_ ?_ <;> intro h <;> (try simp only [zM, zN] at h) <;> try exact absurd h (by decide)) | refine AWP.skip ?_ | refine AWP.ret ?_ | refine AWP.exit ?_ | refine Or.inl ?_) | (clear hK K))
  all_goals (refine fin0 ?_; rw [show cntV v = s1 by omega])
termination_by bulkV v
decreasing_by
  · exact bulk_kid hp
  · exact bulk_arg he hp
  · exact bulk_res he
abbrev eraBox (d : Dat) (n : Nat) : Res := .cells [.dat (.int .i64 d.kind), .dat (.int .i64 d.num), .dat (.str d.text), .own 900 n, .dat (.sl 2 (d.keys.map encKey)), .dat (.nil 9), .dat (.nil 1)]
theorem refErase_c (d : Dat) (hd : Small d) : PC Tryz.prog 13 [.st (encDat d)] (Vt (eraseV d)) := by
  have ih : ∀ k ∈ d.kids, PC Tryz.prog 13 [.st (encDat k)] (Vt (eraseV k)) := fun k hk => refErase_c k (hd.kid k hk)
  have hkk := hd.kids
  have hky := hd.keys
  refine PCB.of_body Tryz.func13 rfl (by decide) Tryz.ntmps13 Tryz.results13 rfl rfl rfl ?_ rfl rfl
  cases h9 : decide (d.kind = 9) with
  | true =>
    repeat' (first | (simp only [go_sem, zA, zB, zC, zD, zE, zF, zG, reduceCtorEq, zH, zI, zJ, zK, zL, encDat_eq, h9]; all_goals fail_if_success guard_target =ₛ False) | (with_reducible first | ((first | refine seqVC_stepN rfl ?_ | refine AWP.seq ?_ | refine AWP.seqR (by kernel_rfl) ?_ | refine parVC_stepN rfl ?_ | refine parEVC_stepN rfl ?_ | refine genVC_stepN rfl ?_); intro K hK) | ((first | refine hK _ _ _ ?_ | refine hK _ _ ?_ | refine hK _ ?_); clear hK K) | refine seqVC_nil ?_ | refine parVC_nil ?_ | refine parEVC_nil ?_ | refine genVC_nil ?_ | refine AWP.block ?_ | (refine AWP.cond (by with_unfolding_all rfl) ?_ ?_ <;> intro h <;> (try simp only [zM, zN] at h) <;> try exact absurd h (by decide)) | refine AWP.skip ?_ | refine AWP.ret ?_ | refine AWP.exit ?_ | (refine AWP.segP (id := 3) 8 mixed (by kernel_rfl) fun K hK => ?_; simp only [List.take_succ_cons, List.take_zero, List.drop_succ_cons, List.drop_zero]) | (refine AWP.segP (id := 7) 5 mixed (by kernel_rfl) fun K hK => ?_; simp only [List.take_succ_cons, List.take_zero, List.drop_succ_cons, List.drop_zero]) | refine AWP.parR mixed (by kernel_rfl) fun K hK => ?_ | refine ⟨(by kernel_rfl : depB _ _ _ = true), ?_⟩ | refine Or.inl ?_) | (clear hK K))
    all_goals (first | exact fun _ h => (by cases h) | refine fin0 ?_)
    all_goals (rw [eraseV_eq, h9, Vt, encVal_eq]; rfl)
  | false =>
    repeat' (first | (simp only [go_sem, zA, zB, zC, zD, zE, zF, zG, reduceCtorEq, zH, zI, zJ, zK, zL, encDat_eq d, h9, List.length_map]; all_goals fail_if_success guard_target =ₛ False) | (with_reducible first | ((first | refine seqVC_stepN rfl ?_ | refine AWP.seq ?_ | refine AWP.seqR (by kernel_rfl) ?_ | refine parVC_stepN rfl ?_ | refine parEVC_stepN rfl ?_ | refine genVC_stepN rfl ?_ | refine genMVC_stepN rfl ?_); intro K hK) | ((first | refine hK _ _ _ ?_ | refine hK _ _ ?_ | refine hK _ ?_); clear hK K) | refine seqVC_nil ?_ | refine parVC_nil ?_ | refine parEVC_nil ?_ | refine genVC_nil ?_ | refine genMVC_nil ?_ | refine AWP.block ?_ | (refine AWP.cond (by with_unfolding_all rfl) ?_ ?_ <;> intro h <;> (try simp only [zM, zN] at h) <;> try exact absurd h (by decide)) | refine AWP.skip ?_ | refine AWP.ret ?_ | refine AWP.exit ?_ | (refine ⟨(by first | omega | (simp only [List.length_append, List.length_map, List.length_take, List.length_drop, List.length_cons, List.length_nil, List.length_replicate]; omega) : _ ≤ _), ?_⟩) | refine ⟨by omega, by omega, ?_⟩ | (refine AWP.genMS (id := 3) [8,10] 11 mixed (by kernel_rfl) fun K hK => ?_; simp only [List.take_succ_cons, List.take_zero, List.drop_succ_cons, List.drop_zero]) | (refine AWP.segP (id := 7) 5 mixed (by kernel_rfl) fun K hK => ?_; simp only [List.take_succ_cons, List.take_zero, List.drop_succ_cons, List.drop_zero]) | refine AWP.parR mixed (by kernel_rfl) fun K hK => ?_ | refine ⟨(by kernel_rfl : depB _ _ _ = true), ?_⟩ | refine Or.inl ?_) | (clear hK K))
    refine AWP.gh (Gh.freeze 20 rfl rfl (by simp only [go_sem, zA, zB, zC, zD, zE, zF, zG, reduceCtorEq, zH, zI, zJ, zK, zL, List.length_map]) (by simp only [go_sem, zA, zB, zC, zD, zE, zF, zG, reduceCtorEq, zH, zI, zJ, zK, zL, List.length_map])) ?_
    simp only [go_sem, zA, zB, zC, zD, zE, zF, zG, reduceCtorEq, zH, zI, zJ, zK, zL, List.length_map]
    refine AWP.gh (Gh.nilcell 3 3 900 rfl rfl rfl (by simp only [go_sem, zA, zB, zC, zD, zE, zF, zG, reduceCtorEq, zH, zI, zJ, zK, zL]) (by simp only [go_sem, zA, zB, zC, zD, zE, zF, zG, reduceCtorEq, zH, zI, zJ, zK, zL])) ?_
    refine AWP.len 23 rfl fun hlen0 => ?_
    (try rw [List.length_map] at hlen0)
    refine AWP.range (S := List Val) (d.kids) encDat (fun k s => (25, I .i64 (k : Nat)) :: []) (fun k s => [(3, eraBox d s.length), (900, .row 7 (s.map encVal))]) [2, 3, 23, 24] [2] (fun k s => Is s ((d.kids.take k).map eraseV) ∧ s.length = k) ([]) (by simp only [go_sem, zA, zB, zC, zD, zE, zF, zG, reduceCtorEq, zH, zI, zJ, zK, zL, encDat_eq d]; exact Gh.to [] (by repeat (first | exact trivial | refine ⟨rfl, ?_⟩ | refine ⟨by (simp only [go_sem, zA, zB, zC, zD, zE, zF, zG, reduceCtorEq, zH, zI, zJ, zK, zL, List.length_append, List.length_map, List.length_cons, List.length_nil, Nat.zero_add]) <;> rfl, ?_⟩)) (by repeat (first | exact trivial | refine ⟨rfl, ?_⟩ | refine ⟨by (simp only [go_sem, zA, zB, zC, zD, zE, zF, zG, reduceCtorEq, zH, zI, zJ, zK, zL, List.length_append, List.length_map, List.length_cons, List.length_nil, Nat.zero_add]) <;> rfl, ?_⟩)) rfl rfl rfl) ?_ ?_ ?_
    · exact ⟨rfl, rfl⟩
    · rintro k s x hlt hx hx' hb ⟨hok, hsl⟩
      simp only [go_sem, zA, zB, zC, zD, zE, zF, zG, reduceCtorEq, zH, zI, zJ, zK, zL]
      have hix := ih x (List.mem_of_getElem? hx)
      repeat' (first | (simp only [go_sem, zA, zB, zC, zD, zE, zF, zG, reduceCtorEq, zH, zI, zJ, zK, zL, List.length_map, hb, val_snoc]; all_goals fail_if_success guard_target =ₛ False) | (with_reducible first | ((first | refine seqVC_stepN rfl ?_ | refine AWP.seq ?_ | refine AWP.seqR (by kernel_rfl) ?_ | refine parVC_stepN rfl ?_ | refine parEVC_stepN rfl ?_ | refine genVC_stepN rfl ?_); intro K hK) | ((first | refine hK _ _ _ ?_ | refine hK _ _ ?_ | refine hK _ ?_); clear hK K) | refine seqVC_nil ?_ | refine parVC_nil ?_ | refine parEVC_nil ?_ | refine genVC_nil ?_ | refine AWP.block ?_ | (refine AWP.cond (by with_unfolding_all rfl) ?_ ?_ <;> intro h <;> (try simp only [zM, zN] at h) <;> try exact absurd h (by decide)) | refine AWP.skip ?_ | refine AWP.ret ?_ | refine AWP.exit ?_ | refine ⟨_, hix, ?_⟩ | refine ⟨by omega, encDat x, hx', ?_⟩ | (refine ⟨(by first | omega | (simp only [List.length_append, List.length_map, List.length_take, List.length_drop, List.length_cons, List.length_nil, List.length_replicate]; omega) : _ ≤ _), ?_⟩) | refine ⟨by omega, by omega, ?_⟩ | (refine AWP.genR (id := 7) [1,5,7] [3,900] mixed (by kernel_rfl) fun K hK => ?_; simp only [Bx.outs, Bx.drop, cond_true, cond_false, Nat.reduceBEq, go_sem]) | (refine AWP.segP (id := 3) 8 mixed (by kernel_rfl) fun K hK => ?_; simp only [List.take_succ_cons, List.take_zero, List.drop_succ_cons, List.drop_zero]) | refine AWP.parR mixed (by kernel_rfl) fun K hK => ?_ | refine ⟨(by kernel_rfl : depB _ _ _ = true), ?_⟩ | refine Or.inl ?_) | (clear hK K))
      all_goals (rw [wrap_succ hlt hlen0])
      all_goals (refine ⟨s ++ [eraseV x], ?_, Gh.to [(900, 34)] (by repeat (first | exact trivial | refine ⟨rfl, ?_⟩ | refine ⟨by (simp only [go_sem, zA, zB, zC, zD, zE, zF, zG, reduceCtorEq, zH, zI, zJ, zK, zL, List.length_append, List.length_map, List.length_cons, List.length_nil, Nat.zero_add]) <;> rfl, ?_⟩)) (by repeat (first | exact trivial | refine ⟨rfl, ?_⟩ | refine ⟨by (simp only [go_sem, zA, zB, zC, zD, zE, zF, zG, reduceCtorEq, zH, zI, zJ, zK, zL, List.length_append, List.length_map, List.length_cons, List.length_nil, Nat.zero_add]) <;> rfl, ?_⟩)) rfl rfl rfl⟩)
      all_goals (refine ⟨?_, by simp; omega⟩; rw [Is, List.take_add_one, List.map_append, hx, ← show s = _ from hok]; rfl)
    · rintro s hb ⟨hok, _⟩
      simp only [go_sem, zA, zB, zC, zD, zE, zF, zG, reduceCtorEq, zH, zI, zJ, zK, zL]
      rw [List.take_length] at hok
      refine AWP.gh (Gh.freeze 900 rfl rfl (by simp only [go_sem, zA, zB, zC, zD, zE, zF, zG, reduceCtorEq, zH, zI, zJ, zK, zL, List.length_map]) (by simp only [go_sem, zA, zB, zC, zD, zE, zF, zG, reduceCtorEq, zH, zI, zJ, zK, zL, List.length_map])) ?_
      simp only [go_sem, zA, zB, zC, zD, zE, zF, zG, reduceCtorEq, zH, zI, zJ, zK, zL, List.length_map]
      repeat' (first | (simp only [go_sem, zA, zB, zC, zD, zE, zF, zG, reduceCtorEq, zH, zI, zJ, zK, zL, List.length_map, hb]; all_goals fail_if_success guard_target =ₛ False) | (with_reducible first | ((first | refine seqVC_stepN rfl ?_ | refine AWP.seq ?_ | refine AWP.seqR (by kernel_rfl) ?_ | refine parVC_stepN rfl ?_ | refine parEVC_stepN rfl ?_ | refine genVC_stepN rfl ?_); intro K hK) | ((first | refine hK _ _ _ ?_ | refine hK _ _ ?_ | refine hK _ ?_); clear hK K) | refine seqVC_nil ?_ | refine parVC_nil ?_ | refine parEVC_nil ?_ | refine genVC_nil ?_ | refine AWP.block ?_ | (refine AWP.cond (by with_unfolding_all rfl) ?_ ?_ <;> intro h <;> (try simp only [zM, zN] at h) <;> try exact absurd h (by decide)) | refine AWP.skip ?_ | refine AWP.ret ?_ | refine AWP.exit ?_ | (refine AWP.segP (id := 3) 8 mixed (by kernel_rfl) fun K hK => ?_; simp only [List.take_succ_cons, List.take_zero, List.drop_succ_cons, List.drop_zero]) | (refine AWP.segP (id := 7) 5 mixed (by kernel_rfl) fun K hK => ?_; simp only [List.take_succ_cons, List.take_zero, List.drop_succ_cons, List.drop_zero]) | refine AWP.parR mixed (by kernel_rfl) fun K hK => ?_ | refine ⟨(by kernel_rfl : depB _ _ _ = true), ?_⟩ | refine Or.inl ?_) | (clear hK K))
      all_goals (first | exact fun _ h => (by cases h) | refine fin0 ?_)
      all_goals (rw [eraseV_eq, h9, Vt, encVal_eq, show s = _ from hok]; rfl)
termination_by SizeOf.sizeOf d
decreasing_by
  cases d; simp only at hk; have := List.sizeOf_lt_of_mem hk; simp; omega
end Go.Proofs.YtmpfdejckbceiaaGreat
set_option linter.unusedSimpArgs false
set_option linter.unusedVariables false
set_option maxRecDepth 20000
set_option maxHeartbeats 1000000
namespace Go.Proofs.YtmpfdejckbceiaaGreat
open Go Go.Sx
open Nat renaming reduceBEq → zA, reduceBNe → zB, reduceAdd → zC, reduceSub → zD, reduceMul → zE, reduceLeDiff → zF, reduceLT → zG, reduceEqDiff → zH
open Int renaming reduceToNat → zI, reduceLE → zJ, reduceLT → zK, reduceEq → zL
open Bool renaming not_eq_true' → zM, not_eq_false' → zN
theorem bulkEs_append : ∀ a b : List Ent, bulkEs (a ++ b) = bulkEs a + bulkEs b
  | [], b => by simp [bulkEs]
  | v :: a, b => by simp only [List.cons_append, bulkEs, bulkEs_append a b]; omega
theorem bulkVs_put (k : Nat) (v : Val) (l : List Val) : bulkVs (putAt k v l) = bulkVs l + bulkV v := by
  have h := bulkVs_append (l.take k) (l.drop k)
  rw [List.take_append_drop] at h
  unfold putAt
  simp only [bulkVs_append, bulkVs]
  omega
theorem bulkEs_put (k : Nat) (v : Ent) (l : List Ent) : bulkEs (putAt k v l) = bulkEs l + bulkE v := by
  have h := bulkEs_append (l.take k) (l.drop k)
  rw [List.take_append_drop] at h
  unfold putAt
  simp only [bulkEs_append, bulkEs]
  omega
theorem bulkVs_le {B : Nat} : ∀ {l : List Val}, (∀ x ∈ l, bulkV x ≤ B) → bulkVs l ≤ l.length * B
  | [], _ => by simp [bulkVs]
  | x :: l, h => by
    have h1 := h x (by simp)
    have h2 := bulkVs_le (B := B) (fun y hy => h y (List.mem_cons_of_mem _ hy))
    simp only [bulkVs, List.length_cons, Nat.add_mul]
    omega
theorem bulkEs_le {B : Nat} : ∀ {l : List Ent}, (∀ x ∈ l, bulkE x ≤ B) → bulkEs l ≤ l.length * B
  | [], _ => by simp [bulkEs]
  | x :: l, h => by
    have h1 := h x (by simp)
    have h2 := bulkEs_le (B := B) (fun y hy => h y (List.mem_cons_of_mem _ hy))
    simp only [bulkEs, List.length_cons, Nat.add_mul]
    omega
theorem sorted_len (l : List (List UInt8)) : (sortedV l).length ≤ l.length := by
  have h : ∀ (l acc : List (List UInt8)), (l.foldl insS acc).length ≤ acc.length + l.length := by
    intro l
    induction l with
    | nil => intro acc; simp
    | cons x l ih =>
      intro acc
      have h1 := ih (insS acc x)
      have h2 := insS_len acc x
      simp only [List.foldl_cons, List.length_cons]
      omega
  have := h l []
  simpa [sortedV] using this
theorem labels_len (s : Src) : (labelsV s).1.length ≤ 2 := by
  unfold labelsV
  cases decide (nextV s 3 = 1) <;> simp only [cond_true, cond_false]
  · simp
  · cases decide (nextV (nextS (nextS s 3) 3) 2 = 1) <;> simp only [cond_true, cond_false]
    · have := sorted_len [labelV (nextS s 3)]; simp at this; omega
    · have := sorted_len [labelV (nextS s 3), labelV (nextS (nextS (nextS s 3) 3) 2)]; simp at this; omega
theorem bulk_lab (r : Val × Src) : bulkV (lab r).1 ≤ bulkV r.1 + 2 := by
  have := labels_len r.2
  rw [bulkV_eq, bulkV_eq r.1]
  simp only [lab]
  omega
theorem bulk_zero : bulkV zeroVal = 1 := by rw [bulkV_eq]; simp [zeroVal, bulkVs, bulkEs]
theorem bulk_leafK (k : Int) (s : Src) : bulkV (leafK k s).1 ≤ 1 := by
  unfold leafK
  cases decide (k = 0) <;> cases decide (k = 1) <;> cases decide (k = 2) <;> cases decide (k = 3) <;> cases decide (k = 4) <;>
    (simp only [cond_true, cond_false]; rw [bulkV_eq]; simp [intVal, atomVal, strVal, pidVal, nilVal, tupVal, bulkVs, bulkEs])
theorem bulk_mapGo : ∀ (r : List (KeyD × Val)) (ks : List KeyD) (vs : List Val), bulkV (mapGo r ks vs).1 ≤ 1 + bulkVs vs + ks.length + bulkVs (r.map (·.2)) + r.length
  | [], ks, vs => by rw [mapGo, bulkV_eq]; simp [mapVal, bulkVs, bulkEs]
  | (x, v) :: r, ks, vs => by
    rw [mapGo]
    cases decide (ks[kPos ks x]? = some x) <;> simp only [cond_true, cond_false]
    · have := bulk_mapGo r (putAt (kPos ks x) x ks) (putAt (kPos ks x) v vs)
      rw [bulkVs_put, putAt_len] at this
      simp only [List.map_cons, bulkVs, List.length_cons]
      omega
    · rw [bulk_zero]; omega
theorem bulk_mapV (ks : List KeyD) (l : List Val) : bulkV (mapV ks l).1 ≤ 1 + bulkVs l + l.length := by
  unfold mapV
  cases hl : decide ((ks.length : Int) = (l.length : Int)) <;> simp only [cond_true, cond_false]
  · rw [bulk_zero]; omega
  · have hl2 : ks.length = l.length := by have := of_decide_eq_true hl; omega
    cases ks.all validKeyB <;> simp only [cond_true, cond_false]
    · rw [bulk_zero]; omega
    · have := bulk_mapGo (ks.zip l) [] []
      have e : (ks.zip l).map (·.2) = l := by rw [List.map_snd_zip]; omega
      rw [e] at this
      simp only [bulkVs, List.length_nil, List.length_zip] at this
      omega
theorem bulk_entries (l : List Ent) : bulkEs (entriesV l) ≤ bulkEs l := by
  have h : ∀ (l acc : List Ent), bulkEs (l.foldl insE acc) ≤ bulkEs acc + bulkEs l := by
    intro l
    induction l with
    | nil => intro acc; simp [bulkEs]
    | cons x l ih =>
      intro acc
      have h1 := ih (insE acc x)
      have h2 : bulkEs (insE acc x) ≤ bulkEs acc + bulkE x := by
        unfold insE
        generalize eqAtE _ _ _ = b
        cases b <;> simp only [cond_true, cond_false]
        · rw [bulkEs_put]; omega
        · omega
      simp only [List.foldl_cons, bulkEs]
      omega
  have := h l []
  simpa [entriesV, bulkEs] using this
theorem bulk_fnV (n : Int) (l : List Ent) : bulkV (fnV n l).1 ≤ 1 + bulkEs l := by
  unfold fnV
  have := bulk_entries l
  generalize (decide (n < 0) || decide (4 < n)) = b
  cases b <;> simp only [cond_true, cond_false]
  · generalize (l.all fun e => entB e n) = c
    cases c <;> simp only [cond_true, cond_false]
    · rw [bulk_zero]; omega
    · rw [bulkV_eq]; simp only [funVal, bulkVs, List.length_nil]; omega
  · rw [bulk_zero]; omega
theorem listM_bulk {f : Src → Val × Src} {B : Nat} (hf : ∀ s : Src, bulkV (f s).1 ≤ B) (n : Nat) (s : Src) : bulkVs (listM f n s).1 ≤ n * B := by
  have h := bulkVs_le (l := (listM f n s).1) (fun x hx => listM_mem (p := fun v => bulkV v ≤ B) hf n s x hx)
  rwa [listM_len] at h
theorem pairM_mem {f : Src → Val × Src} {p : Val → Prop} (hf : ∀ s : Src, p (f s).1) : ∀ (n : Nat) (s : Src), ∀ x ∈ (pairM f n s).1.2, p x
  | 0, s, x, h => by simp [pairM] at h
  | n + 1, s, x, h => by
    simp only [pairM, List.mem_cons] at h
    rcases h with rfl | h
    · exact hf _
    · exact pairM_mem hf n _ x h
theorem pairM_bulk {f : Src → Val × Src} {B : Nat} (hf : ∀ s : Src, bulkV (f s).1 ≤ B) (n : Nat) (s : Src) : bulkVs (pairM f n s).1.2 ≤ n * B := by
  have h := bulkVs_le (l := (pairM f n s).1.2) (fun x hx => pairM_mem (p := fun v => bulkV v ≤ B) hf n s x hx)
  rwa [(pairM_len f n s).2] at h
theorem entry_bulk {f : Src → Val × Src} {B : Nat} (hB : 1 ≤ B) (hf : ∀ s : Src, bulkV (f s).1 ≤ B) (n : Nat) (s : Src) : bulkE (entryV f n s).1 ≤ 1 + n * B + B := by
  have h := listM_bulk hf n s
  unfold entryV
  cases decide (nextV (listM f n s).2 4 = 1) <;> simp only [cond_true, cond_false] <;> rw [bulkE_eq]
  · have := hf (nextS (listM f n s).2 4); simp only; omega
  · simp only; rw [bulk_zero]; omega
theorem tail_bulk {f0 : Src → Val × Src} {B : Nat} (hf : ∀ s : Src, bulkV (f0 s).1 ≤ B) (big : Bool) (s : Src) : bulkV (tailV f0 big s).1 ≤ B + 2 := by
  have hn : bulkV nilVal = 1 := by rw [bulkV_eq]; simp [nilVal, bulkVs, bulkEs]
  unfold tailV
  cases big <;> cases decide (nextV s 2 = 1) <;> simp only [cond_true, cond_false]
  · omega
  · omega
  · omega
  · have := hf (nextS s 2)
    rw [bulkV_eq]; simp only [consVal, bulkVs, bulkEs, List.length_nil, hn]; omega
theorem bulk_valueK {f1 f0 : Src → Val × Src} {B1 B0 : Nat} (h1B : 1 ≤ B1) (h1 : ∀ s : Src, bulkV (f1 s).1 ≤ B1) (h0 : ∀ s : Src, bulkV (f0 s).1 ≤ B0) (big : Bool) (k : Int) (s : Src) : bulkV (valueK f1 f0 big k s).1 ≤ 8 * B1 + 8 * B0 + 20 := by
  have v4 := nextV_in s (n := 4) (by omega)
  have v3 := nextV_in s (n := 3) (by omega)
  have v33 := nextV_in (nextS s 3) (n := 3) (by omega)
  have hleaf : ∀ t, bulkV (leafV t).1 ≤ 1 := fun t => bulk_leafK _ _
  have m4 : ∀ m : Nat, m ≤ 3 → m * B1 ≤ 3 * B1 := fun m hm => Nat.mul_le_mul_right _ hm
  unfold valueK
  cases decide (k = 1) <;> simp only [cond_true, cond_false]
  · cases decide (k = 2) <;> simp only [cond_true, cond_false]
    · cases decide (k = 3) <;> simp only [cond_true, cond_false]
      · cases decide (k = 4) <;> simp only [cond_true, cond_false]
        · have := hleaf s; omega
        · generalize hn : (nextV s 3).toNat = n
          generalize hc : (nextV (nextS s 3) 3).toNat = c
          have hE : bulkEs (listM (entryV f1 n) c (nextS (nextS s 3) 3)).1 ≤ 2 * (1 + 3 * B1) := by
            have hb := bulkEs_le (l := (listM (entryV f1 n) c (nextS (nextS s 3) 3)).1) (B := 1 + 3 * B1) (fun x hx => listM_mem (p := fun e => bulkE e ≤ 1 + 3 * B1) (fun t => by
              have := entry_bulk h1B h1 n t
              have := Nat.mul_le_mul_right B1 (show n ≤ 2 by omega)
              omega) c _ x hx)
            rw [listM_len] at hb
            exact Nat.le_trans hb (Nat.mul_le_mul_right _ (by omega))
          have hF := bulk_fnV (nextV s 3) (listM (entryV f1 n) c (nextS (nextS s 3) 3)).1
          generalize decide ((fnV _ _).2 = 0) = b
          cases b <;> simp only [cond_true, cond_false]
          · have := hleaf (listM (entryV f1 n) c (nextS (nextS s 3) 3)).2; omega
          · omega
      · generalize hn : (nextV s 3).toNat = n
        have hP := pairM_bulk h1 n (nextS s 3)
        have hPl := pairM_len f1 n (nextS s 3)
        have hM := bulk_mapV (pairM f1 n (nextS s 3)).1.1 (pairM f1 n (nextS s 3)).1.2
        have := m4 n (by omega)
        generalize decide ((mapV _ _).2 = 0) = b
        cases b <;> simp only [cond_true, cond_false]
        · have := hleaf (pairM f1 n (nextS s 3)).2; omega
        · omega
    · have ht := tail_bulk h0 big s
      have hl := bulk_lab (tailV f0 big s)
      have hh := h1 (lab (tailV f0 big s)).2
      rw [bulkV_eq]; simp only [consVal, bulkVs, bulkEs, List.length_nil]
      omega
  · generalize hn : (nextV s 4).toNat = n
    have hP := listM_bulk h1 n (nextS s 4)
    have := m4 n (by omega)
    rw [bulkV_eq]; simp only [tupVal, bulkEs, List.length_nil]
    omega
def bnd : Nat → Nat
  | 0 => 1
  | 1 => 1
  | h + 2 => 8 * (bnd (h + 1) + 2) + 8 * (bnd h + 2) + 20
theorem bulk_valueF : ∀ (h : Nat) (s : Src), bulkV (valueF h s).1 ≤ bnd h
  | 0, s => bulk_leafK _ _
  | 1, s => bulk_leafK _ _
  | h + 2, s => bulk_valueK (by omega) (fun s => Nat.le_trans (bulk_lab _) (by have := bulk_valueF (h + 1) s; omega)) (fun s => Nat.le_trans (bulk_lab _) (by have := bulk_valueF h s; omega)) _ _ _
theorem bulk_full (h : Nat) (s : Src) : bulkV (fullV h s).1 ≤ bnd h + 2 := by
  have h1 := bulk_lab (valueF h s)
  have h2 := bulk_valueF h s
  unfold fullV
  omega
end Go.Proofs.YtmpfdejckbceiaaGreat
set_option linter.unusedSimpArgs false
set_option linter.unusedVariables false
set_option maxRecDepth 20000
namespace Go.Proofs.YtmpfdejckbceiaaGreat
open Go Go.Sx
open Nat renaming reduceBEq → zA, reduceBNe → zB, reduceAdd → zC, reduceSub → zD, reduceMul → zE, reduceLeDiff → zF, reduceLT → zG, reduceEqDiff → zH
open Int renaming reduceToNat → zI, reduceLE → zJ, reduceLT → zK, reduceEq → zL
open Bool renaming not_eq_true' → zM, not_eq_false' → zN
def intC (a : Int) : List C := [.int .i64 1, .int .i64 a, .str [], .sl 13 [], .sl 2 [], .str [], .int .i64 0, .int .i64 0, .bool false, .sl 8 [], .int .i64 0, .str [], .str []]
theorem encInt_eq (a : Int) : encDat (intDat a) = intC a := by rw [encDat_eq]; rfl
abbrev ints (a b : Int) : T := .one (.dat (.sl 13 [encDat (intDat a), encDat (intDat b)]))
abbrev IsOp (op : List UInt8) : Prop := op = [43] ∨ op = [45] ∨ op = [100, 105, 118] ∨ op = [114, 101, 109]
theorem operInt_c (op : List UInt8) (hop : IsOp op) (a b : Int) :
    PC Tryz.prog 16 [S op, ints a b] (.tup [Dt (intRes op a b).1, I .i64 0, S (intRes op a b).2]) := by
  have hk : ∀ a : Int, (intDat a).kind = 1 := fun _ => rfl
  have hn : ∀ a : Int, (intDat a).num = a := fun _ => rfl
  rcases hop with h | h | h | h
  all_goals subst h
  all_goals (refine PCB.of_body Tryz.func16 rfl (by decide) Tryz.ntmps16 Tryz.results16 rfl rfl rfl ?_ rfl rfl)
  repeat' (first | (simp only [go_sem, zA, zB, zC, zD, zE, zF, zG, reduceCtorEq, zH, zI, zJ, zK, zL, hk, hn]; all_goals fail_if_success guard_target =ₛ False) | (with_reducible first | ((first | refine seqVC_stepN rfl ?_ | refine seqVC_stepG rfl (by with_unfolding_all rfl) ?_ | refine AWP.seq ?_ | refine AWP.seqR (by kernel_rfl) ?_ | refine parVC_stepN rfl ?_ | refine parVC_stepG rfl (by with_unfolding_all rfl) ?_ | refine parEVC_stepN rfl ?_ | refine parEVC_stepG rfl (by with_unfolding_all rfl) ?_ | refine genVC_stepN rfl ?_ | refine genVC_stepG rfl (by with_unfolding_all rfl) ?_); intro K hK) | ((first | refine hK _ _ _ ?_ | refine hK _ _ ?_ | refine hK _ ?_); clear hK K) | refine seqVC_nil ?_ | refine parVC_nil ?_ | refine parEVC_nil ?_ | refine genVC_nil ?_ | refine AWP.block ?_ | (refine AWP.cond (by with_unfolding_all rfl) ?_ ?_ <;> intro h <;> (try simp only [zM, zN] at h) <;> try exact absurd h (by decide)) | refine AWP.skip ?_ | refine AWP.ret ?_ | refine AWP.exit ?_ | (refine ⟨fun h => ?_, fun h => ?_⟩ <;> (try simp only [zM, zN] at h) <;> try simp only [h]) | refine ⟨_, integers_c _ _ _, ?_⟩ | (refine AWP.parE1 4 mixed (by kernel_rfl) fun K hK => ?_; simp only [Bx.drop, cond_true, cond_false, Nat.reduceBEq]) | refine AWP.parR mixed (by kernel_rfl) fun K hK => ?_ | refine ⟨(by kernel_rfl : depB _ _ _ = true), ?_⟩ | refine Or.inl ?_) | (clear hK K))
  all_goals exact fun _ h => by cases h
theorem ints_lit (a b : Int) : (T.one (.dat (.sl 13 [[.int .i64 1, .int .i64 a, .str [], .sl 13 [], .sl 2 [], .str [], .int .i64 0, .int .i64 0, .bool false, .sl 8 [], .int .i64 0, .str [], .str []],
    [.int .i64 1, .int .i64 b, .str [], .sl 13 [], .sl 2 [], .str [], .int .i64 0, .int .i64 0, .bool false, .sl 8 [], .int .i64 0, .str [], .str []]])) : T) = ints a b := by
  show _ = T.one (.dat (.sl 13 [encDat (intDat a), encDat (intDat b)]))
  rw [encInt_eq, encInt_eq]; rfl
theorem r1 : intRes [100, 105, 118] (-7) 2 = (intDat (-3), []) := by rfl
theorem r2 : intRes [114, 101, 109] (-7) 2 = (intDat (-1), []) := by rfl
theorem r3 : (intDat (-3)).num = -3 := rfl
theorem r4 : (intDat (-1)).num = -1 := rfl
theorem awake_c : PC Tryz.prog 5 [] (Bo true) := by
  refine PCB.of_body Tryz.func5 rfl (by decide) Tryz.ntmps5 Tryz.results5 rfl rfl rfl ?_ rfl rfl
  repeat' (first | (simp only [go_sem, zA, zB, zC, zD, zE, zF, zG, reduceCtorEq, zH, zI, zJ, zK, zL, ints_lit, r1, r2, r3, r4]; all_goals fail_if_success guard_target =ₛ False) | (with_reducible first | ((first | refine seqVC_stepN rfl ?_ | refine seqVC_stepG rfl (by with_unfolding_all rfl) ?_ | refine AWP.seq ?_ | refine AWP.seqR (by kernel_rfl) ?_); intro K hK) | ((first | refine hK _ _ _ ?_ | refine hK _ _ ?_ | refine hK _ ?_); clear hK K) | refine seqVC_nil ?_ | refine AWP.block ?_ | (refine AWP.cond (by with_unfolding_all rfl) ?_ ?_ <;> intro h <;> (try simp only [zM, zN] at h) <;> try exact absurd h (by decide)) | refine AWP.skip ?_ | refine AWP.ret ?_ | refine AWP.exit ?_ | (refine ⟨fun h => ?_, fun h => ?_⟩ <;> (try simp only [zM, zN] at h) <;> try simp only [h]) | refine ⟨_, operInt_c _ (by decide) _ _, ?_⟩) | (refine ⟨_, hasFunction_c ⟨9, 0, [], [], [], [], 0, 0, false, [], 0, [], []⟩, ?_⟩) | (with_reducible first | refine Or.inl ?_) | (clear hK K))
  all_goals exact ⟨rfl, fun _ h => by cases h⟩
end Go.Proofs.YtmpfdejckbceiaaGreat
set_option linter.unusedSimpArgs false
set_option linter.unusedVariables false
set_option maxRecDepth 20000
set_option maxHeartbeats 4000000
namespace Go.Proofs.YtmpfdejckbceiaaGreat
open Go Go.Sx
open Nat renaming reduceBEq → zA, reduceBNe → zB, reduceAdd → zC, reduceSub → zD, reduceMul → zE, reduceLeDiff → zF, reduceLT → zG, reduceEqDiff → zH
open Int renaming reduceToNat → zI, reduceLE → zJ, reduceLT → zK, reduceEq → zL
open Bool renaming not_eq_true' → zM, not_eq_false' → zN
theorem made_k (k : Nat) (d : Nat) (hd : d ≤ 1000) (s : Src) (hs : s.ok) : PCBk Tryz.prog 7 [Sp k, I .i64 d] k (srcB s) (Dt (made d s).1) (srcB (made d s).2) := (made_c d hd).k k s hs
theorem cut_eq {α : Type} (f : α → List C) (l : List α) (k : Nat) : (List.take (if ((k : Nat) : Int) < (l.length : Int) then ((k : Nat) : Int) else (l.length : Int)).toNat (List.map f l)) = (l.take k).map f := by
  rw [List.map_take]
  split
  · rfl
  · rw [Int.toNat_natCast, List.take_of_length_le (by simp), List.take_of_length_le (by simp; omega)]
theorem cut60 {α : Type} (f : α → List C) (l : List α) : (List.take (if (60 : Int) < (l.length : Int) then (60 : Int) else (l.length : Int)).toNat (List.map f l)) = (l.take 60).map f := cut_eq f l 60
theorem ofV_nn : ∀ v : Val, NoNodes (ofV v) := by
  intro v
  induction v using WellFounded.induction (r := InvImage (· < ·) bulkV) (InvImage.wf _ Nat.lt_wfRel.wf) with
  | _ v ih =>
  rw [ofV_eq]
  cases decide (v.kind = 9) <;> simp only [cond_true, cond_false]
  · refine .mk _ rfl fun k hk => ?_
    obtain ⟨x, hx, rfl⟩ := List.mem_map.1 hk
    exact ih x (bulk_kid hx)
  · exact zero_nn
theorem ofW_nn (v : Val) : NoNodes (ofW v) := by
  unfold ofW
  cases treeB v
  · exact zero_nn
  · exact ofV_nn v
theorem of_law (l : List Int) (hl : ∀ x ∈ l, In64 x) (raw : Val) (hraw : Sm raw) : PC Tryz.prog 3 [.one (.dat (.sl 1 (l.map encInt))), Vt raw] (Bo true) := by
  have hs0 : (Src.mk (l.take 60) 0).ok := ⟨fun x hx => hl x (List.mem_of_mem_take hx), by simp; omega⟩
  have hbk := bulk_full 3 ⟨l.take 60, 0⟩
  have hbn : bnd 3 ≤ 5428 := by decide
  have hval := sourceValue_c 3 (by omega) ⟨l.take 60, 0⟩ hs0
  have hs1 := ok_full 3 ⟨l.take 60, 0⟩ hs0
  generalize hv : (fullV 3 ⟨l.take 60, 0⟩).1 = v at *
  generalize (fullV 3 ⟨l.take 60, 0⟩).2 = s' at *
  have hsm : Sm v := by unfold Sm; omega
  have hval' : PCBk Tryz.prog 6 [Sp 18, I .i64 (3 : Nat)] 18 (srcB ⟨l.take 60, 0⟩) (Vt v) (srcB s') := PCBk.mk 18 hval
  have hmade := made_k 18 3 (by omega) s' hs1
  have hgood := good_made 3 s'
  generalize (made 3 s').1 = d at *
  generalize (made 3 s').2 = s2 at *
  have same : ∀ x, NoNodes x → PC Tryz.prog 8 [.st (encDat x), .st (encDat x)] (Bo true) := fun x hx => by
    have h := sameDatum_c x x hx hx
    rwa [sameB_true.2 rfl] at h
  have s1 := same _ (ofW_nn v)
  have s2 := same _ (ofW_nn raw)
  have a1 := datumOf_c v hsm
  have a2 := refOf_c v hsm
  have b1 := datumOf_c raw hraw
  have b2 := refOf_c raw hraw
  have e1 := erase_c d hgood.small
  have e2 := refErase_c d hgood.small
  have eq : PC Tryz.prog 11 [.st (encVal (eraseV d)), .st (encVal (eraseV d))] (Bo true) := by
    have h := refEqual_c (eraseV d) (eraseV d)
    rwa [show decide (valC (eraseV d) (eraseV d) = 0) = true by rw [decide_eq_true_eq, valC_zero]] at h
  have f1 := hasFunction_c d
  have f2 := refHasFunction_c d
  have hn := nodes_c raw hraw
  generalize hasFun d = hf at *
  refine PCB.of_body Tryz.func3 rfl (by decide) Tryz.ntmps3 Tryz.results3 rfl rfl rfl ?_ rfl rfl
  cases hz : decide ((60 : Int) < (cntV raw : Int))
  ·
    repeat' (first | (simp only [go_sem, zA, zB, zC, zD, zE, zF, zG, reduceCtorEq, zH, zI, zJ, zK, zL, List.length_map, List.drop_zero, cut60, hz, beq_self_eq_true]; all_goals fail_if_success guard_target =ₛ False) | (with_reducible first | ((first | refine seqVC_stepN rfl ?_ | refine seqVC_stepG rfl (by with_unfolding_all rfl) ?_ | refine AWP.seq ?_ | refine AWP.seqR (by kernel_rfl) ?_ | refine parVC_stepN rfl ?_ | refine parVC_stepG rfl (by with_unfolding_all rfl) ?_ | refine parEVC_stepN rfl ?_ | refine parEVC_stepG rfl (by with_unfolding_all rfl) ?_ | refine genVC_stepN rfl ?_ | refine genVC_stepG rfl (by with_unfolding_all rfl) ?_); intro K hK) | ((first | refine hK _ _ _ ?_ | refine hK _ _ ?_ | refine hK _ ?_); clear hK K) | refine seqVC_nil ?_ | refine parVC_nil ?_ | refine parEVC_nil ?_ | refine genVC_nil ?_ | refine AWP.block ?_ | (refine AWP.cond (by with_unfolding_all rfl) ?_ ?_ <;> intro h <;> (try simp only [zM, zN] at h) <;> try exact absurd h (by decide)) | refine AWP.skip ?_ | refine AWP.ret ?_ | refine AWP.exit ?_ | (refine ⟨fun h => ?_, fun h => ?_⟩ <;> (try simp only [zM, zN] at h) <;> try simp only [h]) | (refine ⟨by split <;> omega, by split <;> omega, ?_⟩) | refine ⟨_, hn, ?_⟩ | refine ⟨_, a1, ?_⟩ | refine ⟨_, a2, ?_⟩ | refine ⟨_, s1, ?_⟩ | refine ⟨_, b1, ?_⟩ | refine ⟨_, b2, ?_⟩ | refine ⟨_, s2, ?_⟩ | refine ⟨_, e1, ?_⟩ | refine ⟨_, e2, ?_⟩ | refine ⟨_, eq, ?_⟩ | refine ⟨_, f1, ?_⟩ | refine ⟨_, f2, ?_⟩ | refine ⟨_, awake_c, ?_⟩) | (refine ⟨18, _, _, _, hval', rfl, ?_⟩) | (refine ⟨18, _, _, _, hmade, rfl, ?_⟩) | (with_reducible first | refine AWP.parR mixed (by kernel_rfl) fun K hK => ?_ | refine ⟨(by kernel_rfl : depB _ _ _ = true), ?_⟩ | refine Or.inl ?_) | (clear hK K))
    all_goals (first | exact fun _ h => (by cases h) | refine fin0 ?_)
    all_goals rfl
  ·
    repeat' (first | (simp only [go_sem, zA, zB, zC, zD, zE, zF, zG, reduceCtorEq, zH, zI, zJ, zK, zL, hz]; all_goals fail_if_success guard_target =ₛ False) | (with_reducible first | ((first | refine seqVC_stepN rfl ?_ | refine seqVC_stepG rfl (by with_unfolding_all rfl) ?_ | refine AWP.seq ?_ | refine AWP.seqR (by kernel_rfl) ?_ | refine parVC_stepN rfl ?_ | refine parVC_stepG rfl (by with_unfolding_all rfl) ?_ | refine parEVC_stepN rfl ?_ | refine parEVC_stepG rfl (by with_unfolding_all rfl) ?_ | refine genVC_stepN rfl ?_ | refine genVC_stepG rfl (by with_unfolding_all rfl) ?_); intro K hK) | ((first | refine hK _ _ _ ?_ | refine hK _ _ ?_ | refine hK _ ?_); clear hK K) | refine seqVC_nil ?_ | refine parVC_nil ?_ | refine parEVC_nil ?_ | refine genVC_nil ?_ | refine AWP.block ?_ | (refine AWP.cond (by with_unfolding_all rfl) ?_ ?_ <;> intro h <;> (try simp only [zM, zN] at h) <;> try exact absurd h (by decide)) | refine AWP.skip ?_ | refine AWP.ret ?_ | refine AWP.exit ?_ | (refine ⟨fun h => ?_, fun h => ?_⟩ <;> (try simp only [zM, zN] at h) <;> try simp only [h]) | refine ⟨_, hn, ?_⟩ | refine ⟨_, awake_c, ?_⟩ | refine AWP.parR mixed (by kernel_rfl) fun K hK => ?_ | refine ⟨(by kernel_rfl : depB _ _ _ = true), ?_⟩ | refine Or.inl ?_) | (clear hK K))
    all_goals (first | exact fun _ h => (by cases h) | refine fin0 ?_)
    all_goals rfl
end Go.Proofs.YtmpfdejckbceiaaGreat
