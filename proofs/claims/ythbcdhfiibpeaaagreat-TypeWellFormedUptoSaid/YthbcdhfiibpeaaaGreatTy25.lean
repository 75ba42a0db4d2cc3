/- Lemmas of the proof. -/
import Derived.Test.YthbcdhfiibpeaaaGreatTy21
open List renaming length_map → lB
open Nat renaming reduceBEq → zA, reduceBNe → zB, reduceAdd → zC, reduceSub → zD, reduceMul → zE, reduceLeDiff → zF, reduceLT → zG, reduceEqDiff → zH
open Int renaming reduceToNat → zI, reduceLE → zJ, reduceLT → zK, reduceEq → zL
open Bool renaming not_eq_true' → zM, not_eq_false' → zN
set_option linter.unusedSimpArgs false
set_option linter.unusedVariables false
set_option maxRecDepth 20000
set_option maxHeartbeats 64000000
namespace Go.Proofs.YthbcdhfiibpeaaaGreat
open Go Go.Sx
theorem node_9 (v : Val) (hk : v.kind = 9) : PC Tryz.prog 88 [.st (encVal v)] (Bo (nodeB v)) := by
 have hlab : labelsB v.labels = goB Lib.compareBytes isVarB none v.labels := by rw [goB_none]; rfl
 refine PCB.ob Tryz.func88 Tryz.ntmps88 Tryz.results88 ?_
 repeat' (first | (simp only [go_sem, zA, zB, zC, zD, zE, zF, zG, reduceCtorEq, zH, zI, zJ, zK, zL, encVal_eq, hk]; all_goals refine nf ?_) | (refine stp ?_; intro K hK) | (apply hK; clear hK K) | refine stn ?_ | fail)
 refine AWP.lenB 1 6 rfl rfl fun hlen0 => ?_
 (try rw [lB] at hlen0)
 refine AWP.range (S := Unit) (v.labels) Sx.encStr (fun k s => (3, I .i64 (k : Nat)) :: []) (fun k s => []) [1] [1] (fun k s => goB Lib.compareBytes isVarB none v.labels = goB Lib.compareBytes isVarB (prevAt v.labels k) (v.labels.drop k)) (()) (by simp only [go_sem, zA, zB, zC, zD, zE, zF, zG, reduceCtorEq, zH, zI, zJ, zK, zL, encVal_eq]; exact Gh.tt []) ?_ ?_ ?_
 ·rfl
 ·intro k s x hlt hx hx' hb hok
  refine sts ?_
  rcases Nat.eq_zero_or_eq_succ_pred k with hk0 | hk0
  ·rw [goB_zero hk0 hx] at hok
   have hp0 : decide ((0 : Int) < (k : Int)) = false := by rw [hk0]; rfl
   cases hz : isVarB x <;> simp only [hz, Bool.true_and, Bool.false_and] at hok
   ·
    repeat' (first | (simp only [go_sem, zA, zB, zC, zD, zE, zF, zG, reduceCtorEq, zH, zI, zJ, zK, zL, encVal_eq, Sx.encStr, hk, lB, hb, hz, hp0]; all_goals refine nf ?_) | (refine stp ?_; intro K hK) | (apply hK; clear hK K) | refine stn ?_ | (with_reducible first | refine ⟨_, refIsVariable_c x, ?_⟩ | refine ⟨by omega, Sx.encStr x, hx', ?_⟩) | (refine stp' ?_; intro K hK) | (clear hK K))
    all_goals (first | exact lf | (refine fin0 ?_; simp only [nodeB, hlab, hok, zb, cond_true, cond_false, decide_true, decide_false] <;> rfl))
   ·
    repeat' (first | (simp only [go_sem, zA, zB, zC, zD, zE, zF, zG, reduceCtorEq, zH, zI, zJ, zK, zL, encVal_eq, Sx.encStr, hk, lB, hb, hz, hp0]; all_goals refine nf ?_) | (refine stp ?_; intro K hK) | (apply hK; clear hK K) | refine stn ?_ | (with_reducible first | refine ⟨_, refIsVariable_c x, ?_⟩ | refine ⟨by omega, Sx.encStr x, hx', ?_⟩) | (refine stp' ?_; intro K hK) | (clear hK K))
    all_goals (rw [wrap_succ hlt hlen0])
    all_goals (refine ⟨(), ?_, Gh.tt []⟩)
    all_goals exact hok
  ·obtain ⟨j, rfl⟩ : ∃ j, k = j + 1 := ⟨_, hk0⟩
   obtain ⟨y, hy, hy', _, _⟩ := at_lt (enc := Sx.encStr) (show j < v.labels.length by omega)
   rw [goB_succ hy hx] at hok
   have hw : IntKind.i64.wrap (((j + 1 : Nat) : Int) - 1) = (j : Int) := by rw [w64 (by omega)]; omega
   have hp0 : decide ((0 : Int) < ((j + 1 : Nat) : Int)) = true := by simp only [decide_eq_true_eq]; omega
   cases hz : isVarB x <;> cases hc : decide (Lib.compareBytes y x < 0) <;> simp only [hz, hc, Bool.true_and, Bool.false_and] at hok
   all_goals
    have hcg : decide (0 ≤ Lib.compareBytes y x) = !decide (Lib.compareBytes y x < 0) := by rw [← Bool.coe_iff_coe]; simp
    rw [hc] at hcg
   all_goals (have hl := less_dec y x; rw [hc] at hl)
   all_goals
    repeat' (first | (simp only [go_sem, zA, zB, zC, zD, zE, zF, zG, reduceCtorEq, zH, zI, zJ, zK, zL, encVal_eq, Sx.encStr, hk, lB, hb, hz, hp0, hw, hcg, hl]; all_goals refine nf ?_) | (refine stp ?_; intro K hK) | (apply hK; clear hK K) | refine stn ?_ | (with_reducible first | refine ⟨_, refIsVariable_c x, ?_⟩ | refine ⟨by omega, Sx.encStr x, hx', ?_⟩ | refine ⟨by omega, Sx.encStr y, hy', ?_⟩) | (refine stp' ?_; intro K hK) | (clear hK K))
   any_goals (first | exact fun _ h => absurd h List.not_mem_nil | (refine fin0 ?_; first | (simp only [nodeB, hlab, hok, Bool.and_true, Bool.and_false, Bool.true_and, Bool.false_and, Bool.or_true, Bool.or_false, Bool.true_or, Bool.false_or, Bool.not_true, Bool.not_false, cond_true, cond_false, decide_true, decide_false]; done) | (simp only [nodeB, hlab, hok, Bool.and_true, Bool.and_false, Bool.true_and, Bool.false_and, Bool.or_true, Bool.or_false, Bool.true_or, Bool.false_or, Bool.not_true, Bool.not_false, cond_true, cond_false, decide_true, decide_false]; rfl)))
   all_goals (rw [wrap_succ hlt hlen0])
   all_goals (refine ⟨(), ?_, Gh.tt []⟩)
   all_goals exact hok
 intro s0 hb0 hok0
 refine sts ?_
 rw [goB_end] at hok0
 rw [hok0] at hlab
 have hfun : funB v = (!(decide (v.num < 0) || decide (4 < v.num)) && goB entC (fun e => entB e v.num) none v.ents) := by
  rw [goB_none, funB]
  cases decide (v.num < 0) <;> cases decide (4 < v.num) <;> cases ascB entC v.ents <;> rfl
 have hze := zeroVal_lit
 repeat' (first | (simp only [go_sem, zA, zB, zC, zD, zE, zF, zG, reduceCtorEq, zH, zI, zJ, zK, zL, encVal_eq, hk, hb0, lB]; all_goals refine nf ?_) | (refine stp ?_; intro K hK) | (apply hK; clear hK K) | refine stn ?_ | (refine AWP.cnd ?_ ?_ <;> intro h <;> (try simp only [zM, zN] at h)) | (refine ⟨fun h => ?_, fun h => ?_⟩ <;> (try simp only [zM, zN] at h) <;> try simp only [h]) | (clear hK K))
 any_goals (first | exact fun _ h => absurd h List.not_mem_nil | (refine fin0 ?_; simp only [nodeB, badFields, bodyB, kNum, kText, kKids, kKeys, kEnts, kKnown, hk, Int.reduceEq, Int.reduceLE, hlab, *, Bool.and_true, Bool.and_false, Bool.true_and, Bool.false_and, Bool.or_true, Bool.or_false, Bool.true_or, Bool.false_or, Bool.not_true, Bool.not_false, cond_true, cond_false, decide_true, decide_false]; done))
 refine AWP.lenB 1 5 rfl rfl fun hlen2 => ?_
 (try rw [lB] at hlen2)
 refine AWP.range (S := Unit) (v.ents) encEnt (fun k s => (8, I .i64 (k : Nat)) :: []) (fun k s => []) [1] [1] (fun k s => goB entC (fun e => entB e v.num) none v.ents = goB entC (fun e => entB e v.num) (prevAt v.ents k) (v.ents.drop k)) (()) (by simp only [go_sem, zA, zB, zC, zD, zE, zF, zG, reduceCtorEq, zH, zI, zJ, zK, zL, encVal_eq]; exact Gh.tt []) ?_ ?_ ?_
 ·rfl
 ·intro k s x hlt hx hx' hb hok
  refine sts ?_
  have heq := refEqual_c x.2.2 zeroVal
  rw [zeroVal_lit, encVal_eq] at heq
  rcases Nat.eq_zero_or_eq_succ_pred k with hk0 | hk0
  ·rw [goB_zero hk0 hx] at hok
   rw [show entB x v.num = (decide ((x.1.length : Int) = v.num) && (!x.2.1 || isZeroB x.2.2)) from rfl] at hok
   have hp0 : decide ((0 : Int) < (k : Int)) = false := by rw [hk0]; rfl
   cases hl : decide ((x.1.length : Int) = v.num) <;> cases hf : x.2.1 <;> cases hz : decide (valC x.2.2 zeroVal = 0)
   all_goals (simp only [isZeroB, hl, hf, hz, Bool.and_true, Bool.and_false, Bool.true_and, Bool.false_and, Bool.or_true, Bool.or_false, Bool.true_or, Bool.false_or, Bool.not_true, Bool.not_false, cond_true, cond_false, decide_true, decide_false] at hok)
   all_goals
    repeat' (first | (simp only [go_sem, zA, zB, zC, zD, zE, zF, zG, reduceCtorEq, zH, zI, zJ, zK, zL, encVal_eq, encEnt_eq x, hk, lB, hb, hz, hl, hf, hp0]; all_goals refine nf ?_) | (refine stp ?_; intro K hK) | (apply hK; clear hK K) | refine stn ?_ | (with_reducible first | refine ⟨_, heq, ?_⟩ | refine ⟨by omega, encEnt x, hx', ?_⟩) | (refine stp' ?_; intro K hK) | (clear hK K))
   any_goals (first | exact fun _ h => absurd h List.not_mem_nil | (refine fin0 ?_; first | (simp only [nodeB, badFields, bodyB, kNum, kText, kKids, kKeys, kEnts, kKnown, hk, Int.reduceEq, Int.reduceLE, hfun, hlab, *, hok, Bool.and_true, Bool.and_false, Bool.true_and, Bool.false_and, Bool.or_true, Bool.or_false, Bool.true_or, Bool.false_or, Bool.not_true, Bool.not_false, cond_true, cond_false, decide_true, decide_false]; done) | (simp only [nodeB, badFields, bodyB, kNum, kText, kKids, kKeys, kEnts, kKnown, hk, Int.reduceEq, Int.reduceLE, hfun, hlab, *, hok, Bool.and_true, Bool.and_false, Bool.true_and, Bool.false_and, Bool.or_true, Bool.or_false, Bool.true_or, Bool.false_or, Bool.not_true, Bool.not_false, cond_true, cond_false, decide_true, decide_false]; rfl)))
   all_goals (rw [wrap_succ hlt hlen2])
   all_goals (refine ⟨(), ?_, Gh.tt []⟩)
   all_goals exact hok
  ·obtain ⟨j, rfl⟩ : ∃ j, k = j + 1 := ⟨_, hk0⟩
   obtain ⟨y, hy, hy', _, _⟩ := at_lt (enc := encEnt) (show j < v.ents.length by omega)
   rw [goB_succ hy hx] at hok
   rw [show entB x v.num = (decide ((x.1.length : Int) = v.num) && (!x.2.1 || isZeroB x.2.2)) from rfl] at hok
   have hw : IntKind.i64.wrap (((j + 1 : Nat) : Int) - 1) = (j : Int) := by rw [w64 (by omega)]; omega
   have hp0 : decide ((0 : Int) < ((j + 1 : Nat) : Int)) = true := by simp only [decide_eq_true_eq]; omega
   have hcc := refEntries_c y x (fun a _ b => refCompare_c a b) (fun b => refCompare_c _ b)
   rw [encEnt_eq x] at hcc
   cases hl : decide ((x.1.length : Int) = v.num) <;> cases hf : x.2.1 <;> cases hz : decide (valC x.2.2 zeroVal = 0) <;> cases hc : decide (entC y x < 0)
   all_goals (simp only [isZeroB, hl, hf, hz, hc, Bool.and_true, Bool.and_false, Bool.true_and, Bool.false_and, Bool.or_true, Bool.or_false, Bool.true_or, Bool.false_or, Bool.not_true, Bool.not_false, cond_true, cond_false, decide_true, decide_false] at hok)
   all_goals (try rw [hf] at hcc)
   all_goals
    have hcg : decide (0 ≤ entC y x) = !decide (entC y x < 0) := by rw [← Bool.coe_iff_coe]; simp
    rw [hc] at hcg
   all_goals
    repeat' (first | (simp only [go_sem, zA, zB, zC, zD, zE, zF, zG, reduceCtorEq, zH, zI, zJ, zK, zL, encVal_eq, encEnt_eq x, hk, lB, hb, hz, hl, hf, hp0, hw, hcg]; all_goals refine nf ?_) | (refine stp ?_; intro K hK) | (apply hK; clear hK K) | refine stn ?_ | (with_reducible first | refine ⟨_, heq, ?_⟩ | refine ⟨_, hcc, ?_⟩ | refine ⟨by omega, encEnt x, hx', ?_⟩ | refine ⟨by omega, encEnt y, hy', ?_⟩) | (refine stp' ?_; intro K hK) | (clear hK K))
   any_goals (first | exact fun _ h => absurd h List.not_mem_nil | (refine fin0 ?_; first | (simp only [nodeB, badFields, bodyB, kNum, kText, kKids, kKeys, kEnts, kKnown, hk, Int.reduceEq, Int.reduceLE, hfun, hlab, *, hok, Bool.and_true, Bool.and_false, Bool.true_and, Bool.false_and, Bool.or_true, Bool.or_false, Bool.true_or, Bool.false_or, Bool.not_true, Bool.not_false, cond_true, cond_false, decide_true, decide_false]; done) | (simp only [nodeB, badFields, bodyB, kNum, kText, kKids, kKeys, kEnts, kKnown, hk, Int.reduceEq, Int.reduceLE, hfun, hlab, *, hok, Bool.and_true, Bool.and_false, Bool.true_and, Bool.false_and, Bool.or_true, Bool.or_false, Bool.true_or, Bool.false_or, Bool.not_true, Bool.not_false, cond_true, cond_false, decide_true, decide_false]; rfl)))
   all_goals (rw [wrap_succ hlt hlen2])
   all_goals (refine ⟨(), ?_, Gh.tt []⟩)
   all_goals exact hok
 intro s1 hb1 hok1
 refine sts ?_
 rw [goB_end] at hok1
 rw [hok1] at hfun
 repeat' (first | (simp only [go_sem, zA, zB, zC, zD, zE, zF, zG, reduceCtorEq, zH, zI, zJ, zK, zL, encVal_eq, hk, hb1, lB]; all_goals refine nf ?_) | (refine stp ?_; intro K hK) | (apply hK; clear hK K) | refine stn ?_ | (clear hK K))
 all_goals (first | exact lf | (refine fin0 ?_; simp only [nodeB, badFields, bodyB, kNum, kText, kKids, kKeys, kEnts, kKnown, hk, Int.reduceEq, Int.reduceLE, hlab, hfun, *, zb, cond_true, cond_false, decide_true, decide_false] <;> rfl))
end Go.Proofs.YthbcdhfiibpeaaaGreat

