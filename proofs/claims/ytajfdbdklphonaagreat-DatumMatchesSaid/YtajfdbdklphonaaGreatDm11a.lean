/- Lemmas; conditions: as each states. -/
import Derived.Test.YtajfdbdklphonaaGreatDm11o
open Go.Proofs.Tryz renaming prog → zP
open List renaming length_map → lB
open Go.Sx.AWP renaming range → xC, lenB → xE
open Nat renaming reduceBEq → D, reduceBNe → E, reduceAdd → H, reduceSub → J, reduceMul → N, reduceLeDiff → O, reduceLT → U, reduceEqDiff → V
open Int renaming reduceToNat → W, reduceLE → Y, reduceLT → Z, reduceEq → zL
open Bool renaming not_eq_true' → zM, not_eq_false' → zN
set_option linter.unusedVariables false
set_option linter.unusedSimpArgs false
set_option maxRecDepth 20000
set_option maxHeartbeats 4000000
namespace Go.Proofs.YtajfdbdklphonaaGreat
open Go Go.Sx
theorem node_9 (v : Val) (hk : v.kind = 9) : PC zP 125 [.st (encVal v)] (Bo (nodeB v)) := by
 have hlab : labelsB v.labels = goB Lib.compareBytes isVarB none v.labels := by rw [goB_none]; rfl
 refine PCB.ob Tryz.func125 Tryz.ntmps125 Tryz.results125 ?_
 repeat' (first | (simp only [go_sem, D, E, H, J, N, O, U, reduceCtorEq, V, W, Y, Z, zL, encVal_eq, hk] <;> refine nf ?_) | (refine stp ?_; intro K hK) | (apply hK; clear hK K) | refine stn ?_ | fail)
 refine xE 1 6 rfl rfl fun hlen0 => ?_
 (try rw [lB] at hlen0)
 refine xC (S := Unit) (v.labels) encStr (fun k s => (3, I .i64 (k : Nat)) :: []) (fun k s => []) [1] [1] (fun k s => goB Lib.compareBytes isVarB none v.labels = goB Lib.compareBytes isVarB (prevAt v.labels k) (v.labels.drop k)) (()) (by simp only [go_sem, D, E, H, J, N, O, U, reduceCtorEq, V, W, Y, Z, zL, encVal_eq]; exact Gh.ts []) ?_ ?_ ?_
 ·rfl
 ·intro k s x hlt hx hx' hb hok
  refine st ?_
  rcases Nat.eq_zero_or_eq_succ_pred k with hk0 | hk0
  ·rw [goB_zero hk0 hx] at hok
   have hp0 : decide ((0 : Int) < (k : Int)) = false := by rw [hk0]; rfl
   cases hz : isVarB x <;> simp only [hz, Bool.true_and, Bool.false_and] at hok
   ·
    repeat' (first | (simp only [go_sem, D, E, H, J, N, O, U, reduceCtorEq, V, W, Y, Z, zL, encVal_eq, encStr, hk, lB, hb, hz, hp0] <;> refine nf ?_) | (refine stp ?_; intro K hK) | (apply hK; clear hK K) | refine stn ?_ | (with_reducible first | refine ⟨_, refIsVariable_c x, ?_⟩ | refine ⟨by omega, encStr x, hx', ?_⟩) | (refine stp' ?_; intro K hK) | (clear hK K))
    all_goals (first | exact lf | (refine fin0 ?_; simp only [nodeB, hlab, hok, zb, cT, cF, dT, dF] <;> rfl))
   ·
    repeat' (first | (simp only [go_sem, D, E, H, J, N, O, U, reduceCtorEq, V, W, Y, Z, zL, encVal_eq, encStr, hk, lB, hb, hz, hp0] <;> refine nf ?_) | (refine stp ?_; intro K hK) | (apply hK; clear hK K) | refine stn ?_ | (with_reducible first | refine ⟨_, refIsVariable_c x, ?_⟩ | refine ⟨by omega, encStr x, hx', ?_⟩) | (refine stp' ?_; intro K hK) | (clear hK K))
    all_goals (rw [wrap_succ hlt hlen0])
    all_goals (refine ⟨(), ?_, Gh.ts []⟩)
    all_goals exact hok
  ·obtain ⟨j, rfl⟩ : ∃ j, k = j + 1 := ⟨_, hk0⟩
   obtain ⟨y, hy, hy', _, _⟩ := at_lt (enc := encStr) (show j < v.labels.length by omega)
   rw [goB_succ hy hx] at hok
   have hw : IntKind.i64.wrap (((j + 1 : Nat) : Int) - 1) = (j : Int) := by rw [w64 (by omega)]; omega
   have hp0 : decide ((0 : Int) < ((j + 1 : Nat) : Int)) = true := by simp only [decide_eq_true_eq]; omega
   cases hz : isVarB x <;> cases hc : decide (Lib.compareBytes y x < 0) <;> simp only [hz, hc, Bool.true_and, Bool.false_and] at hok
   all_goals
    have hcg : decide (0 ≤ Lib.compareBytes y x) = !decide (Lib.compareBytes y x < 0) := by rw [← Bool.coe_iff_coe]; simp
    rw [hc] at hcg
   all_goals (have hl := less_dec y x; rw [hc] at hl)
   all_goals
    repeat' (first | (simp only [go_sem, D, E, H, J, N, O, U, reduceCtorEq, V, W, Y, Z, zL, encVal_eq, encStr, hk, lB, hb, hz, hp0, hw, hcg, hl] <;> refine nf ?_) | (refine stp ?_; intro K hK) | (apply hK; clear hK K) | refine stn ?_ | (with_reducible first | refine ⟨_, refIsVariable_c x, ?_⟩ | refine ⟨by omega, encStr x, hx', ?_⟩ | refine ⟨by omega, encStr y, hy', ?_⟩) | (refine stp' ?_; intro K hK) | (clear hK K))
   any_goals (first | exact nn | (refine fin0 ?_; first | (simp only [nodeB, hlab, hok, Bool.and_true, Bool.and_false, Bool.true_and, Bool.false_and, Bool.or_true, Bool.or_false, Bool.true_or, Bool.false_or, Bool.not_true, Bool.not_false, cT, cF, dT, dF]; done) | (simp only [nodeB, hlab, hok, Bool.and_true, Bool.and_false, Bool.true_and, Bool.false_and, Bool.or_true, Bool.or_false, Bool.true_or, Bool.false_or, Bool.not_true, Bool.not_false, cT, cF, dT, dF]; rfl)))
   all_goals (rw [wrap_succ hlt hlen0])
   all_goals (refine ⟨(), ?_, Gh.ts []⟩)
   all_goals exact hok
 intro s0 hb0 hok0
 refine st ?_
 rw [goB_end] at hok0
 rw [hok0] at hlab
 have hfun : funB v = (!(decide (v.num < 0) || decide (4 < v.num)) && goB entC (fun e => entB e v.num) none v.ents) := by
  rw [goB_none, funB]
  cases decide (v.num < 0) <;> cases decide (4 < v.num) <;> cases ascB entC v.ents <;> rfl
 have hze := zeroVal_lit
 repeat' (first | (simp only [go_sem, D, E, H, J, N, O, U, reduceCtorEq, V, W, Y, Z, zL, encVal_eq, hk, hb0, lB] <;> refine nf ?_) | (refine stp ?_; intro K hK) | (apply hK; clear hK K) | refine stn ?_ | (refine AWP.cnd ?_ ?_ <;> intro h <;> (try simp only [zM, zN] at h)) | (refine ⟨fun h => ?_, fun h => ?_⟩ <;> (try simp only [zM, zN] at h) <;> try simp only [h]) | (clear hK K))
 any_goals (first | exact nn | (refine fin0 ?_; simp only [nodeB, badFields, bodyB, kNum, kText, kKids, kKeys, kEnts, kKnown, hk, Int.reduceEq, Int.reduceLE, hlab, *, Bool.and_true, Bool.and_false, Bool.true_and, Bool.false_and, Bool.or_true, Bool.or_false, Bool.true_or, Bool.false_or, Bool.not_true, Bool.not_false, cT, cF, dT, dF]; done))
 refine xE 1 5 rfl rfl fun hlen2 => ?_
 (try rw [lB] at hlen2)
 refine xC (S := Unit) (v.ents) encEnt (fun k s => (8, I .i64 (k : Nat)) :: []) (fun k s => []) [1] [1] (fun k s => goB entC (fun e => entB e v.num) none v.ents = goB entC (fun e => entB e v.num) (prevAt v.ents k) (v.ents.drop k)) (()) (by simp only [go_sem, D, E, H, J, N, O, U, reduceCtorEq, V, W, Y, Z, zL, encVal_eq]; exact Gh.ts []) ?_ ?_ ?_
 ·rfl
 ·intro k s x hlt hx hx' hb hok
  refine st ?_
  have heq := refEqual_c x.2.2 zeroVal
  rw [zeroVal_lit, encVal_eq] at heq
  rcases Nat.eq_zero_or_eq_succ_pred k with hk0 | hk0
  ·rw [goB_zero hk0 hx] at hok
   rw [show entB x v.num = (decide ((x.1.length : Int) = v.num) && (!x.2.1 || isZeroB x.2.2)) from rfl] at hok
   have hp0 : decide ((0 : Int) < (k : Int)) = false := by rw [hk0]; rfl
   cases hl : decide ((x.1.length : Int) = v.num) <;> cases hf : x.2.1 <;> cases hz : decide (valC x.2.2 zeroVal = 0)
   all_goals (simp only [isZeroB, hl, hf, hz, Bool.and_true, Bool.and_false, Bool.true_and, Bool.false_and, Bool.or_true, Bool.or_false, Bool.true_or, Bool.false_or, Bool.not_true, Bool.not_false, cT, cF, dT, dF] at hok)
   all_goals
    repeat' (first | (simp only [go_sem, D, E, H, J, N, O, U, reduceCtorEq, V, W, Y, Z, zL, encVal_eq, encEnt_eq x, hk, lB, hb, hz, hl, hf, hp0] <;> refine nf ?_) | (refine stp ?_; intro K hK) | (apply hK; clear hK K) | refine stn ?_ | (with_reducible first | refine ⟨_, heq, ?_⟩ | refine ⟨by omega, encEnt x, hx', ?_⟩) | (refine stp' ?_; intro K hK) | (clear hK K))
   any_goals (first | exact nn | (refine fin0 ?_; first | (simp only [nodeB, badFields, bodyB, kNum, kText, kKids, kKeys, kEnts, kKnown, hk, Int.reduceEq, Int.reduceLE, hfun, hlab, *, hok, Bool.and_true, Bool.and_false, Bool.true_and, Bool.false_and, Bool.or_true, Bool.or_false, Bool.true_or, Bool.false_or, Bool.not_true, Bool.not_false, cT, cF, dT, dF]; done) | (simp only [nodeB, badFields, bodyB, kNum, kText, kKids, kKeys, kEnts, kKnown, hk, Int.reduceEq, Int.reduceLE, hfun, hlab, *, hok, Bool.and_true, Bool.and_false, Bool.true_and, Bool.false_and, Bool.or_true, Bool.or_false, Bool.true_or, Bool.false_or, Bool.not_true, Bool.not_false, cT, cF, dT, dF]; rfl)))
   all_goals (rw [wrap_succ hlt hlen2])
   all_goals (refine ⟨(), ?_, Gh.ts []⟩)
   all_goals exact hok
  ·obtain ⟨j, rfl⟩ : ∃ j, k = j + 1 := ⟨_, hk0⟩
   obtain ⟨y, hy, hy', _, _⟩ := at_lt (enc := encEnt) (show j < v.ents.length by omega)
   rw [goB_succ hy hx] at hok
   rw [show entB x v.num = (decide ((x.1.length : Int) = v.num) && (!x.2.1 || isZeroB x.2.2)) from rfl] at hok
   have hw : IntKind.i64.wrap (((j + 1 : Nat) : Int) - 1) = (j : Int) := by rw [w64 (by omega)]; omega
   have hp0 : decide ((0 : Int) < ((j + 1 : Nat) : Int)) = true := by simp only [decide_eq_true_eq]; omega
   have hcc := refEntries_c y x (fun a _ b => refCompare_c a b) (fun b => refCompare_c _ b)
   rw [encEnt_eq x] at hcc
   cases hl : decide ((x.1.length : Int) = v.num) <;> cases hf : x.2.1 <;> cases hz : decide (valC x.2.2 zeroVal = 0) <;> cases hc : decide (entC y x < 0)
   all_goals (simp only [isZeroB, hl, hf, hz, hc, Bool.and_true, Bool.and_false, Bool.true_and, Bool.false_and, Bool.or_true, Bool.or_false, Bool.true_or, Bool.false_or, Bool.not_true, Bool.not_false, cT, cF, dT, dF] at hok)
   all_goals (try rw [hf] at hcc)
   all_goals
    have hcg : decide (0 ≤ entC y x) = !decide (entC y x < 0) := by rw [← Bool.coe_iff_coe]; simp
    rw [hc] at hcg
   all_goals
    repeat' (first | (simp only [go_sem, D, E, H, J, N, O, U, reduceCtorEq, V, W, Y, Z, zL, encVal_eq, encEnt_eq x, hk, lB, hb, hz, hl, hf, hp0, hw, hcg] <;> refine nf ?_) | (refine stp ?_; intro K hK) | (apply hK; clear hK K) | refine stn ?_ | (with_reducible first | refine ⟨_, heq, ?_⟩ | refine ⟨_, hcc, ?_⟩ | refine ⟨by omega, encEnt x, hx', ?_⟩ | refine ⟨by omega, encEnt y, hy', ?_⟩) | (refine stp' ?_; intro K hK) | (clear hK K))
   any_goals (first | exact nn | (refine fin0 ?_; first | (simp only [nodeB, badFields, bodyB, kNum, kText, kKids, kKeys, kEnts, kKnown, hk, Int.reduceEq, Int.reduceLE, hfun, hlab, *, hok, Bool.and_true, Bool.and_false, Bool.true_and, Bool.false_and, Bool.or_true, Bool.or_false, Bool.true_or, Bool.false_or, Bool.not_true, Bool.not_false, cT, cF, dT, dF]; done) | (simp only [nodeB, badFields, bodyB, kNum, kText, kKids, kKeys, kEnts, kKnown, hk, Int.reduceEq, Int.reduceLE, hfun, hlab, *, hok, Bool.and_true, Bool.and_false, Bool.true_and, Bool.false_and, Bool.or_true, Bool.or_false, Bool.true_or, Bool.false_or, Bool.not_true, Bool.not_false, cT, cF, dT, dF]; rfl)))
   all_goals (rw [wrap_succ hlt hlen2])
   all_goals (refine ⟨(), ?_, Gh.ts []⟩)
   all_goals exact hok
 intro s1 hb1 hok1
 refine st ?_
 rw [goB_end] at hok1
 rw [hok1] at hfun
 repeat' (first | (simp only [go_sem, D, E, H, J, N, O, U, reduceCtorEq, V, W, Y, Z, zL, encVal_eq, hk, hb1, lB] <;> refine nf ?_) | (refine stp ?_; intro K hK) | (apply hK; clear hK K) | refine stn ?_ | (clear hK K))
 all_goals (first | exact lf | (refine fin0 ?_; simp only [nodeB, badFields, bodyB, kNum, kText, kKids, kKeys, kEnts, kKnown, hk, Int.reduceEq, Int.reduceLE, hlab, hfun, *, zb, cT, cF, dT, dF] <;> rfl))
end Go.Proofs.YtajfdbdklphonaaGreat