/- Lemmas of the proof. -/
import Derived.Test.YthbcdhfiibpeaaaGreatTy22
import Derived.Test.YthbcdhfiibpeaaaGreatTy23
import Derived.Test.YthbcdhfiibpeaaaGreatTy24
import Derived.Test.YthbcdhfiibpeaaaGreatTy25
import Derived.Test.YthbcdhfiibpeaaaGreatTy26
open List renaming length_map → lB
open Nat renaming reduceBEq → zA, reduceBNe → zB, reduceAdd → zC, reduceSub → zD, reduceMul → zE, reduceLeDiff → zF, reduceLT → zG, reduceEqDiff → zH
open Int renaming reduceToNat → zI, reduceLE → zJ, reduceLT → zK, reduceEq → zL
open Bool renaming not_eq_true' → zM, not_eq_false' → zN
set_option linter.unusedSimpArgs false
set_option linter.unusedVariables false
set_option maxRecDepth 20000
set_option maxHeartbeats 64000000
namespace Go.Proofs.YthbcdhfiibpeaaaGreat
open Go Go.Sx
theorem node_c (v : Val) : PC Tryz.prog 88 [.st (encVal v)] (Bo (nodeB v)) := by
  rcases kinds v.kind with h | h | h | h | h | h | h | h | h | h
  · exact node_1 v h
  · exact node_2 v h
  · exact node_3 v h
  · exact node_4 v h
  · exact node_5 v h
  · exact node_6 v h
  · exact node_7 v h
  · exact node_8 v h
  · exact node_9 v h
  · exact node_0 v h
theorem bulk_kid {v p : Val} (h : p ∈ v.kids) : bulkV p < bulkV v := bulk_part (List.mem_append_left _ h)
theorem bulk_arg {v p : Val} {e : List Val × Bool × Val} (he : e ∈ v.ents) (h : p ∈ e.1) : bulkV p < bulkV v := by
  have h1 := bulkV_eq v; have h2 := bulkEs_mem he; have h3 := bulkE_eq e; have h4 := bulkVs_mem h; omega
theorem bulk_res {v : Val} {e : List Val × Bool × Val} (he : e ∈ v.ents) : bulkV e.2.2 < bulkV v := by
  have h1 := bulkV_eq v; have h2 := bulkEs_mem he; have h3 := bulkE_eq e; omega
theorem valid_c (v : Val) : PC Tryz.prog 51 [.st (encVal v)] (Bo (treeB v)) := by
 have ihk : ∀ p ∈ v.kids, PC Tryz.prog 51 [.st (encVal p)] (Bo (treeB p)) := fun p hp => valid_c p
 have iha : ∀ e ∈ v.ents, ∀ p ∈ e.1, PC Tryz.prog 51 [.st (encVal p)] (Bo (treeB p)) := fun e he p hp => valid_c p
 have ihr : ∀ e ∈ v.ents, PC Tryz.prog 51 [.st (encVal e.2.2)] (Bo (treeB e.2.2)) := fun e he => valid_c e.2.2
 have hn := node_c v
 rw [encVal_eq] at hn
 rw [treeB_kids]
 refine PCB.ob Tryz.func51 Tryz.ntmps51 Tryz.results51 ?_
 cases hz : nodeB v
 ·
  repeat' (first | (simp only [go_sem, zA, zB, zC, zD, zE, zF, zG, reduceCtorEq, zH, zI, zJ, zK, zL, hz, encVal_eq v]; all_goals refine nf ?_) | (refine stp ?_; intro K hK) | (apply hK; clear hK K) | refine stn ?_ | (with_reducible refine ⟨_, hn, ?_⟩) | refine stq ?_ | (clear hK K))
  all_goals (first | exact lf | (refine fin0 ?_; simp only [hz, zb, cond_true, cond_false, decide_true, decide_false] <;> rfl))
 repeat' (first | (simp only [go_sem, zA, zB, zC, zD, zE, zF, zG, reduceCtorEq, zH, zI, zJ, zK, zL, hz, encVal_eq v, lB]; all_goals refine nf ?_) | (refine stp ?_; intro K hK) | (apply hK; clear hK K) | refine stn ?_ | (with_reducible refine ⟨_, hn, ?_⟩) | refine stq ?_ | fail)
 refine AWP.lenB 1 3 rfl rfl fun hlen0 => ?_
 (try rw [lB] at hlen0)
 refine AWP.range (S := Unit) (v.kids) encVal (fun k s => (3, I .i64 (k : Nat)) :: []) (fun k s => []) [1] [1] (fun k s => v.kids.all treeB = (v.kids.drop k).all treeB) (()) (by simp only [go_sem, zA, zB, zC, zD, zE, zF, zG, reduceCtorEq, zH, zI, zJ, zK, zL, encVal_eq]; exact Gh.tt []) ?_ ?_ ?_
 ·rfl
 ·intro k s x hlt hx hx' hb hok
  refine sts ?_
  have hix := ihk x (List.mem_of_getElem? hx)
  rw [all_step hx] at hok
  cases hy : treeB x <;> simp only [hy, Bool.true_and, Bool.false_and] at hok
  ·
   repeat' (first | (simp only [go_sem, zA, zB, zC, zD, zE, zF, zG, reduceCtorEq, zH, zI, zJ, zK, zL, encVal_eq v, lB, hb, hy]; all_goals refine nf ?_) | (refine stp ?_; intro K hK) | (apply hK; clear hK K) | refine stn ?_ | (with_reducible first | refine ⟨_, hix, ?_⟩ | refine ⟨by omega, encVal x, hx', ?_⟩) | refine stq ?_ | (clear hK K))
   all_goals (first | exact lf | (refine fin0 ?_; simp only [hok, hz, zb, cond_true, cond_false, decide_true, decide_false] <;> rfl))
  ·
   repeat' (first | (simp only [go_sem, zA, zB, zC, zD, zE, zF, zG, reduceCtorEq, zH, zI, zJ, zK, zL, encVal_eq v, lB, hb, hy]; all_goals refine nf ?_) | (refine stp ?_; intro K hK) | (apply hK; clear hK K) | refine stn ?_ | (with_reducible first | refine ⟨_, hix, ?_⟩ | refine ⟨by omega, encVal x, hx', ?_⟩) | refine stq ?_ | (clear hK K))
   all_goals (rw [wrap_succ hlt hlen0])
   all_goals (refine ⟨(), ?_, Gh.tt []⟩)
   all_goals exact hok
 intro s0 hb0 hok0
 refine sts ?_
 rw [all_end] at hok0
 repeat' (first | (simp only [go_sem, zA, zB, zC, zD, zE, zF, zG, reduceCtorEq, zH, zI, zJ, zK, zL, encVal_eq v, lB, hb0]; all_goals refine nf ?_) | (refine stp ?_; intro K hK) | (apply hK; clear hK K) | refine stn ?_ | (clear hK K))
 refine AWP.lenB 1 5 rfl rfl fun hlen1 => ?_
 (try rw [lB] at hlen1)
 refine AWP.range (S := Unit) (v.ents) encEnt (fun k s => (4, I .i64 (k : Nat)) :: []) (fun k s => []) [1] [1] (fun k s => v.ents.all treeE = (v.ents.drop k).all treeE) (()) (by simp only [go_sem, zA, zB, zC, zD, zE, zF, zG, reduceCtorEq, zH, zI, zJ, zK, zL, encVal_eq]; exact Gh.tt []) ?_ ?_ ?_
 ·rfl
 ·intro k s x hlt hx hx' hb hok
  refine sts ?_
  rw [all_step hx] at hok
  have hem := List.mem_of_getElem? hx
  have hia := iha x hem
  have hir := ihr x hem
  rw [encVal_eq] at hir
  repeat' (first | (simp only [go_sem, zA, zB, zC, zD, zE, zF, zG, reduceCtorEq, zH, zI, zJ, zK, zL, encVal_eq v, encEnt_eq, lB, hb]; all_goals refine nf ?_) | (refine stp ?_; intro K hK) | (apply hK; clear hK K) | refine stn ?_ | (with_reducible refine ⟨by omega, encEnt x, hx', ?_⟩) | fail)
  refine AWP.lenB 5 0 rfl rfl fun hlen2 => ?_
  (try rw [lB] at hlen2)
  refine AWP.range (S := Unit) (x.1) encVal (fun k s => (6, I .i64 (k : Nat)) :: []) (fun k s => []) [1, 4, 5] [1, 5] (fun k s => x.1.all treeB = (x.1.drop k).all treeB) (()) (by simp only [go_sem, zA, zB, zC, zD, zE, zF, zG, reduceCtorEq, zH, zI, zJ, zK, zL, encVal_eq, encEnt_eq]; exact Gh.tt []) ?_ ?_ ?_
  ·rfl
  ·intro i s y hlti hy hy' hbi hoki
   refine sts ?_
   have hiy := hia y (List.mem_of_getElem? hy)
   rw [all_step hy] at hoki
   cases hc : treeB y <;> simp only [hc, Bool.true_and, Bool.false_and] at hoki
   ·
    repeat' (first | (simp only [go_sem, zA, zB, zC, zD, zE, zF, zG, reduceCtorEq, zH, zI, zJ, zK, zL, encVal_eq v, encEnt_eq, lB, hbi, hc]; all_goals refine nf ?_) | (refine stp ?_; intro K hK) | (apply hK; clear hK K) | refine stn ?_ | (with_reducible first | refine ⟨_, hiy, ?_⟩ | refine ⟨by omega, encVal y, hy', ?_⟩) | refine stq ?_ | (clear hK K))
    all_goals (first | exact lf | (refine fin0 ?_; simp only [hok, hz, hok0, treeE, hoki, zb, cond_true, cond_false, decide_true, decide_false] <;> rfl))
   ·
    repeat' (first | (simp only [go_sem, zA, zB, zC, zD, zE, zF, zG, reduceCtorEq, zH, zI, zJ, zK, zL, encVal_eq v, encEnt_eq, lB, hbi, hc]; all_goals refine nf ?_) | (refine stp ?_; intro K hK) | (apply hK; clear hK K) | refine stn ?_ | (with_reducible first | refine ⟨_, hiy, ?_⟩ | refine ⟨by omega, encVal y, hy', ?_⟩) | refine stq ?_ | (clear hK K))
    all_goals (rw [wrap_succ hlti hlen2])
    all_goals (refine ⟨(), ?_, Gh.tt []⟩)
    all_goals exact hoki
  intro s2 hb2 hok2
  refine sts ?_
  rw [all_end] at hok2
  cases hf : x.2.1 <;> cases hr : treeB x.2.2
  all_goals (simp only [treeE, hok2, hf, hr, Bool.true_and, Bool.false_and, Bool.true_or, Bool.false_or] at hok)
  all_goals
   repeat' (first | (simp only [go_sem, zA, zB, zC, zD, zE, zF, zG, reduceCtorEq, zH, zI, zJ, zK, zL, encVal_eq, encEnt_eq, lB, hb2, hf, hr]; all_goals refine nf ?_) | (refine stp ?_; intro K hK) | (apply hK; clear hK K) | refine stn ?_ | (with_reducible refine ⟨_, hir, ?_⟩) | refine stq ?_ | (clear hK K))
  any_goals (first | exact fun _ h => absurd h List.not_mem_nil | (refine fin0 ?_; simp only [hok, hok0, hz, Bool.and_false, Bool.true_and, Bool.and_true]; done))
  all_goals (rw [wrap_succ hlt hlen1])
  all_goals (refine ⟨(), ?_, Gh.tt []⟩)
  all_goals exact hok
 intro s1 hb1 hok1
 refine sts ?_
 rw [all_end] at hok1
 repeat' (first | (simp only [go_sem, zA, zB, zC, zD, zE, zF, zG, reduceCtorEq, zH, zI, zJ, zK, zL, encVal_eq v, lB, hb1]; all_goals refine nf ?_) | (refine stp ?_; intro K hK) | (apply hK; clear hK K) | refine stn ?_ | (clear hK K))
 all_goals (first | exact lf | (refine fin0 ?_; simp only [hok1, hok0, hz, zb, cond_true, cond_false, decide_true, decide_false] <;> rfl))
termination_by bulkV v
decreasing_by
  · exact bulk_kid hp
  · exact bulk_arg he hp
  · exact bulk_res he
def sameK (x y : KeyD) : Bool := decide (x.kind = y.kind) && (decide (x.text = y.text) && true)
@[go_sem] theorem eqKeyE (x y : KeyD) : eqStT Tryz.prog 6 117 (encKey x) (encKey y) = some (sameK x y) := by kernel_rfl
end Go.Proofs.YthbcdhfiibpeaaaGreat



