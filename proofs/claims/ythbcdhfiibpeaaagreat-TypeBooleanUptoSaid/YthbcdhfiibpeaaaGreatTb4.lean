/- Lemmas of the proof. -/
import Derived.Test.YthbcdhfiibpeaaaGreatTb1
import Derived.Test.YthbcdhfiibpeaaaGreatTb2
import Derived.Test.YthbcdhfiibpeaaaGreatTb3
open Go.Proofs.Tryz renaming prog → zP
open List renaming length_map → lB
open Nat renaming reduceBEq → zA, reduceBNe → zB, reduceAdd → zC, reduceSub → zD, reduceMul → zE, reduceLeDiff → zF, reduceLT → zG, reduceEqDiff → zH
open Int renaming reduceToNat → zI, reduceLE → zJ, reduceLT → zK, reduceEq → zL
open Bool renaming not_eq_true' → zM, not_eq_false' → zN
set_option linter.unusedSimpArgs false
set_option linter.unusedVariables false
set_option maxRecDepth 20000
set_option maxHeartbeats 64000000
namespace Go.Proofs.YthbcdhfiibpeaaaGreat
open Go Go.Sx
theorem boolean_good (l m n : List Int) (raw : List NodeD) (q : Int) (S T : List NodeD) (v w : Val) (X1 X2 X3 X4 X5 X6 X7 X8 : TyD) (wq : Int) (Av Bv Aw Bw : Bool) (H : BoolW l m n raw q S T v w X1 X2 X3 X4 X5 X6 X7 X8 wq Av Bv Aw Bw) (hwq : decide (wq = 0) = true) :
  PC zP 5 [.one (.dat (.sl 1 (l.map encInt))), .one (.dat (.sl 1 (m.map encInt))), .one (.dat (.sl 1 (n.map encInt))), Tt raw q] (Bo true) := by
 obtain ⟨g1, g2, g3, hS, d1, d2, cw, cz, c1, c2, c3, c4, c5, c6, c7, c8, v1, v2, v3, v4, v5, v6, v7, v8, v9b, w1, w2, w3, w4, w5, w6, w7, w8, w9b⟩ := H
 have b1 : (true == false) = false := rfl
 have b2 : (false == true) = false := rfl
 have b3 : (true == true) = true := rfl
 have b4 : (false == false) = true := rfl
 refine PCB.ob Tryz.func5 Tryz.ntmps5 Tryz.results5 ?_
 repeat' (first | (simp only [go_sem, zA, zB, zC, zD, zE, zF, zG, reduceCtorEq, zH, zI, zJ, zK, zL, lB, g1, g2, g3, hwq]; all_goals refine nf ?_) | (refine stp ?_; intro K hK) | (apply hK; clear hK K) | refine stn ?_ | (with_reducible first | refine ⟨_, hS, ?_⟩ | refine ⟨_, d1, ?_⟩ | refine ⟨_, d2, ?_⟩ | refine ⟨_, cw, ?_⟩) | refine stq ?_ | fail)
 refine AWP.loopF (X := Nat) (fun i => [(14, I .i64 i)]) (fun i => []) [7, 9, 10, 11, 12, 13] [7, 9, 10, 11, 12] (fun i => i ≤ 2) (fun i => 2 - i) (0) (by refine sts ?_; exact Gh.tt []) ?_ ?_
 ·exact Nat.zero_le _
 rintro i hi
 have hi3 : i = 0 ∨ i = 1 ∨ i = 2 := by omega
 rcases hi3 with rfl | rfl | rfl
 ·
  refine sts ?_
  cases Av <;> cases Bv
  all_goals
   repeat' (first | (simp only [go_sem, zA, zB, zC, zD, zE, zF, zG, reduceCtorEq, zH, zI, zJ, zK, zL, hwq, b1, b2, b3, b4]; all_goals refine nf ?_) | (refine stp ?_; intro K hK) | (apply hK; clear hK K) | refine stn ?_ | (with_reducible first | refine ⟨_, v1, ?_⟩ | refine ⟨_, v2, ?_⟩ | refine ⟨_, v3, ?_⟩ | refine ⟨_, v4, ?_⟩ | refine ⟨_, v5, ?_⟩ | refine ⟨_, v6, ?_⟩ | refine ⟨_, v7, ?_⟩ | refine ⟨_, v8, ?_⟩ | refine ⟨_, c1, ?_⟩ | refine ⟨_, c2, ?_⟩ | refine ⟨_, c3, ?_⟩ | refine ⟨_, c4, ?_⟩ | refine ⟨_, c5, ?_⟩ | refine ⟨_, c6, ?_⟩) | (refine stp' ?_; intro K hK) | (clear hK K))
  all_goals (refine ⟨1, by omega, by omega, Gh.tt []⟩)
 ·
  refine sts ?_
  cases Aw <;> cases Bw
  all_goals
   repeat' (first | (simp only [go_sem, zA, zB, zC, zD, zE, zF, zG, reduceCtorEq, zH, zI, zJ, zK, zL, hwq, b1, b2, b3, b4]; all_goals refine nf ?_) | (refine stp ?_; intro K hK) | (apply hK; clear hK K) | refine stn ?_ | (with_reducible first | refine ⟨_, w1, ?_⟩ | refine ⟨_, w2, ?_⟩ | refine ⟨_, w3, ?_⟩ | refine ⟨_, w4, ?_⟩ | refine ⟨_, w5, ?_⟩ | refine ⟨_, w6, ?_⟩ | refine ⟨_, w7, ?_⟩ | refine ⟨_, w8, ?_⟩ | refine ⟨_, c1, ?_⟩ | refine ⟨_, c2, ?_⟩ | refine ⟨_, c3, ?_⟩ | refine ⟨_, c4, ?_⟩ | refine ⟨_, c5, ?_⟩ | refine ⟨_, c6, ?_⟩) | (refine stp' ?_; intro K hK) | (clear hK K))
  all_goals (refine ⟨2, by omega, by omega, Gh.tt []⟩)
 ·
  refine sts ?_
  repeat' (first | (simp only [go_sem, zA, zB, zC, zD, zE, zF, zG, reduceCtorEq, zH, zI, zJ, zK, zL, hwq]; all_goals refine nf ?_) | (refine stp ?_; intro K hK) | (apply hK; clear hK K) | refine stn ?_ | (with_reducible first | refine ⟨_, c8, ?_⟩ | refine ⟨_, cz, ?_⟩ | refine ⟨_, awake7_c, ?_⟩) | refine stq ?_ | (clear hK K))
  all_goals (first | exact fun _ h => absurd h List.not_mem_nil | (refine fin0 ?_; rfl))
theorem boolean_law (l m n : List Int) (hl : ∀ x ∈ l, -9223372036854775808 ≤ x ∧ x ≤ 9223372036854775807) (hm : ∀ x ∈ m, -9223372036854775808 ≤ x ∧ x ≤ 9223372036854775807) (hn : ∀ x ∈ n, -9223372036854775808 ≤ x ∧ x ≤ 9223372036854775807) (raw : List NodeD) (q : Int) (hraw : BdT raw) :
  PC zP 5 [.one (.dat (.sl 1 (l.map encInt))), .one (.dat (.sl 1 (m.map encInt))), .one (.dat (.sl 1 (n.map encInt))), Tt raw q] (Bo true) := by
 have hS := small_c raw q hraw
 cases g1 : decide ((80 : Int) < (l.length : Int))
 case true =>
  refine PCB.ob Tryz.func5 Tryz.ntmps5 Tryz.results5 ?_
  repeat' (first | (simp only [go_sem, zA, zB, zC, zD, zE, zF, zG, reduceCtorEq, zH, zI, zJ, zK, zL, lB, g1]; all_goals refine nf ?_) | (refine stp ?_; intro K hK) | (apply hK; clear hK K) | refine stn ?_ | (with_reducible refine ⟨_, awake7_c, ?_⟩) | refine stq ?_ | (clear hK K))
  all_goals (first | exact fun _ h => absurd h List.not_mem_nil | (refine fin0 ?_; rfl))
 cases g2 : decide ((80 : Int) < (m.length : Int))
 case true =>
  refine PCB.ob Tryz.func5 Tryz.ntmps5 Tryz.results5 ?_
  repeat' (first | (simp only [go_sem, zA, zB, zC, zD, zE, zF, zG, reduceCtorEq, zH, zI, zJ, zK, zL, lB, g1, g2]; all_goals refine nf ?_) | (refine stp ?_; intro K hK) | (apply hK; clear hK K) | refine stn ?_ | (with_reducible refine ⟨_, awake7_c, ?_⟩) | refine stq ?_ | (clear hK K))
  all_goals (first | exact fun _ h => absurd h List.not_mem_nil | (refine fin0 ?_; rfl))
 cases g3 : decide ((80 : Int) < (n.length : Int))
 case true =>
  refine PCB.ob Tryz.func5 Tryz.ntmps5 Tryz.results5 ?_
  repeat' (first | (simp only [go_sem, zA, zB, zC, zD, zE, zF, zG, reduceCtorEq, zH, zI, zJ, zK, zL, lB, g1, g2, g3]; all_goals refine nf ?_) | (refine stp ?_; intro K hK) | (apply hK; clear hK K) | refine stn ?_ | (with_reducible refine ⟨_, awake7_c, ?_⟩) | refine stq ?_ | (clear hK K))
  all_goals (first | exact fun _ h => absurd h List.not_mem_nil | (refine fin0 ?_; rfl))
 cases hs : smallB raw
 ·
  refine PCB.ob Tryz.func5 Tryz.ntmps5 Tryz.results5 ?_
  repeat' (first | (simp only [go_sem, zA, zB, zC, zD, zE, zF, zG, reduceCtorEq, zH, zI, zJ, zK, zL, lB, g1, g2, g3, hs]; all_goals refine nf ?_) | (refine stp ?_; intro K hK) | (apply hK; clear hK K) | refine stn ?_ | (with_reducible first | refine ⟨_, hS, ?_⟩ | refine ⟨_, awake7_c, ?_⟩) | refine stq ?_ | (clear hK K))
  all_goals (first | exact fun _ h => absurd h List.not_mem_nil | (refine fin0 ?_; rfl))
 rw [hs] at hS
 have sl := src_of hl (of_decide_eq_false g1)
 have sm := src_of hm (of_decide_eq_false g2)
 have sn := src_of hn (of_decide_eq_false g3)
 have d1 := drawn_e l m sl sm
 have d2 := drawn_e n m sn sm
 have tv := drawn_tree l m
 have tw := drawn_tree n m
 obtain ⟨v, hv⟩ : ∃ v, v = drawnV l m := ⟨_, rfl⟩
 obtain ⟨w, hw⟩ : ∃ w, w = drawnV n m := ⟨_, rfl⟩
 rw [← hv] at d1 tv
 rw [← hw] at d2 tw
 have ws := drawn_wf l
 have wt := drawn_wf n
 have ls := drawn_le l
 have lt := drawn_le n
 have ss := drawn_sm l
 have st := drawn_sm n
 obtain ⟨S, hSe⟩ : ∃ S, S = drawnT l := ⟨_, rfl⟩
 obtain ⟨T, hTe⟩ : ∃ T, T = drawnT n := ⟨_, rfl⟩
 rw [← hSe] at d1 ws ls ss
 rw [← hTe] at d2 wt lt st
 have sr := smallB_sm hs
 have s2 : TyS 10 [(S, 0), (T, 0)] := tyS_two ss st (by simp only; omega) (by simp only; omega) (by omega)
 have s1 : TyS 10 [((S, 0) : TyD)] := tyS_one ss (by simp only; omega) (by omega)
 have s1u : TyS 10 [((T, 0) : TyD)] := tyS_one st (by simp only; omega) (by omega)
 have sN : TSm (notT (T, 0)).1 := ov_sm s1u
 have lN := ov_size (k := 18) s1u
 have sD : TyS 20 [(S, 0), notT (T, 0)] := tyS_two ss sN (by simp only; omega) (by show (overV 18 [(T, 0)]).length < 20; simp only [List.length_singleton] at lN; omega) (by omega)
 have sR : TyS 100 [(S, 0), (raw, q)] := tyS_two ss sr.1 (by simp only; omega) (by simp only; omega) (by omega)
 have sR3 : TyS 100 [(S, 0), (T, 0), (raw, q)] := ⟨fun t ht => by
  simp only [List.mem_cons, List.not_mem_nil, or_false] at ht
  rcases ht with rfl | rfl | rfl
  ·exact ⟨ss, by simp only; omega⟩
  ·exact ⟨st, by simp only; omega⟩
  ·exact ⟨sr.1, by simp only; omega⟩, by simp⟩
 have s0 : TyS 1 ([] : List TyD) := ⟨fun t ht => (by cases ht), by simp⟩
 have c1 : PC zP 18 [.one (.dat (.sl 2 [[.sl 8 (S.map encNode), .int .i64 0], [.sl 8 (T.map encNode), .int .i64 0]]))] (LT (unionT [(S, 0), (T, 0)])) := union_c [(S, 0), (T, 0)] s2
 have c2 : PC zP 19 [.one (.dat (.sl 2 [[.sl 8 (S.map encNode), .int .i64 0], [.sl 8 (T.map encNode), .int .i64 0]]))] (LT (interT [(S, 0), (T, 0)])) := inter_c [(S, 0), (T, 0)] s2
 have c3 : PC zP 20 [.st [.sl 8 (S.map encNode), .int .i64 0]] (LT (notT (S, 0))) := not_c (S, 0) s1
 have c4 : PC zP 21 [.st [.sl 8 (S.map encNode), .int .i64 0], .st [.sl 8 (T.map encNode), .int .i64 0]] (LT (diffT (S, 0) (T, 0))) := diff_c (S, 0) (T, 0) s1u sD
 have c5 : PC zP 18 [.one (.dat (.sl 2 []))] (LT (unionT [])) := union_c [] s0
 have c6 : PC zP 19 [.one (.dat (.sl 2 []))] (LT (interT [])) := inter_c [] s0
 have c7 : PC zP 18 [.one (.dat (.sl 2 [[.sl 8 (S.map encNode), .int .i64 0], [.sl 8 (raw.map encNode), .int .i64 q]]))] (LT (unionT [(S, 0), (raw, q)])) := union_c [(S, 0), (raw, q)] sR
 have c8 : PC zP 18 [.one (.dat (.sl 2 [[.sl 8 (S.map encNode), .int .i64 0], [.sl 8 (T.map encNode), .int .i64 0], [.sl 8 (raw.map encNode), .int .i64 q]]))] (LT (unionT [(S, 0), (T, 0), (raw, q)])) := union_c [(S, 0), (T, 0), (raw, q)] sR3
 have sU : ∀ {ts : List TyD} {B : Nat}, TyS B ts → TSm (unionT ts).1 := fun {ts B} h => by
  unfold unionT
  cases decide ((ts.length : Int) = 0)
  ·exact ov_sm h
  ·exact ⟨by simp [noneTy], fun x hx => (by simp only [noneTy, cond_true, List.mem_singleton] at hx; subst hx; simp [kindN]), fun x hx => (by simp only [noneTy, cond_true, List.mem_singleton] at hx; subst hx; simp [kindN])⟩
 have sI : ∀ {ts : List TyD} {B : Nat}, TyS B ts → TSm (interT ts).1 := fun {ts B} h => by
  unfold interT
  cases decide ((ts.length : Int) = 0)
  ·exact ov_sm h
  ·exact ⟨by simp [anyTy], fun x hx => (by simp only [anyTy, cond_true, List.mem_singleton] at hx; subst hx; simp [kindN]), fun x hx => (by simp only [anyTy, cond_true, List.mem_singleton] at hx; subst hx; simp [kindN])⟩
 have cw := wellFormed7_s raw q sr.1
 have cz := wellFormed7_s (unionT [(S, 0), (T, 0), (raw, q)]).1 (unionT [(S, 0), (T, 0), (raw, q)]).2 (sU sR3)
 rw [union_wf sR3] at cz
 have K : ∀ x : Val, treeB x = true → ∀ A B D : Bool, memT x (S, 0) = A → memT x (T, 0) = B → memT x (raw, q) = D →
   PC zP 14 [LV x, LT (S, 0)] (Bo A) ∧ PC zP 14 [LV x, LT (T, 0)] (Bo B) ∧ PC zP 14 [LV x, LT (unionT [(S, 0), (T, 0)])] (Bo (A || B)) ∧ PC zP 14 [LV x, LT (interT [(S, 0), (T, 0)])] (Bo (A && B)) ∧
   PC zP 14 [LV x, LT (notT (S, 0))] (Bo (!A)) ∧ PC zP 14 [LV x, LT (diffT (S, 0) (T, 0))] (Bo (A && !B)) ∧ PC zP 14 [LV x, LT (unionT [])] (Bo false) ∧ PC zP 14 [LV x, LT (interT [])] (Bo true) ∧ PC zP 14 [LV x, LT (unionT [(S, 0), (raw, q)])] (Bo (A || D)) := by
  intro x hx A B D hA hB hD
  refine ⟨mem_c x (S, 0) hx ss ws hA, mem_c x (T, 0) hx st wt hB, mem_c x _ hx (sU s2) (union_wf s2) ?_, mem_c x _ hx (sI s2) (inter_wf s2) ?_, mem_c x _ hx (ov_sm s1) (not_wf s1) ?_, mem_c x (diffT (S, 0) (T, 0)) hx (sI sD) (diff_wf sD) ?_, mem_c x _ hx (sU s0) (union_wf s0) ?_, mem_c x _ hx (sI s0) (inter_wf s0) ?_, mem_c x _ hx (sU sR) (union_wf sR) ?_⟩
  ·rw [memT_union s2]; simp [hA, hB]
  ·rw [memT_inter s2]; simp [hA, hB]
  ·rw [memT_not s1, hA]
  ·rw [memT_diff s1u sD, hA, hB]
  ·rw [memT_union s0]; rfl
  ·rw [memT_inter s0]; rfl
  ·rw [memT_union sR]; simp [hA, hD]
 obtain ⟨Av, hAv⟩ : ∃ A, memT v (S, 0) = A := ⟨_, rfl⟩
 obtain ⟨Bv, hBv⟩ : ∃ A, memT v (T, 0) = A := ⟨_, rfl⟩
 obtain ⟨Dv, hDv⟩ : ∃ A, memT v (raw, q) = A := ⟨_, rfl⟩
 obtain ⟨Aw, hAw⟩ : ∃ A, memT w (S, 0) = A := ⟨_, rfl⟩
 obtain ⟨Bw, hBw⟩ : ∃ A, memT w (T, 0) = A := ⟨_, rfl⟩
 obtain ⟨Dw, hDw⟩ : ∃ A, memT w (raw, q) = A := ⟨_, rfl⟩
 have bad : decide (wfP raw q = 0) = false → Dv = false ∧ Dw = false := fun h => ⟨by rw [← hDv]; exact memT_bad h v, by rw [← hDw]; exact memT_bad h w⟩
 obtain ⟨v1, v2, v3, v4, v5, v6, v7, v8, v9⟩ := K v tv Av Bv Dv hAv hBv hDv
 obtain ⟨w1, w2, w3, w4, w5, w6, w7, w8, w9⟩ := K w tw Aw Bw Dw hAw hBw hDw
 clear K
 generalize unionT [(S, 0), (T, 0)] = X1 at c1 v3 w3
 generalize interT [(S, 0), (T, 0)] = X2 at c2 v4 w4
 generalize notT (S, 0) = X3 at c3 v5 w5
 generalize diffT (S, 0) (T, 0) = X4 at c4 v6 w6
 generalize unionT [] = X5 at c5 v7 w7
 generalize interT [] = X6 at c6 v8 w8
 generalize unionT [(S, 0), (raw, q)] = X7 at c7 v9 w9
 generalize unionT [(S, 0), (T, 0), (raw, q)] = X8 at c8 cz
 generalize wfP raw q = wq at cw bad
 clear hAv hBv hDv hAw hBw hDw sU sI sR3 sR sD sN s2 s1 s1u s0 lN hv hw hSe hTe tv tw ws wt
 have v9b : decide (wq = 0) = false → PC zP 14 [LV v, LT X7] (Bo Av) := fun h => by
  rw [(bad h).1, Bool.or_false] at v9; exact v9
 have w9b : decide (wq = 0) = false → PC zP 14 [LV w, LT X7] (Bo Aw) := fun h => by
  rw [(bad h).2, Bool.or_false] at w9; exact w9
 cases hwq : decide (wq = 0)
 ·exact boolean_bad l m n raw q S T v w X1 X2 X3 X4 X5 X6 X7 X8 wq Av Bv Aw Bw ⟨g1, g2, g3, hS, d1, d2, cw, cz, c1, c2, c3, c4, c5, c6, c7, c8, v1, v2, v3, v4, v5, v6, v7, v8, v9b, w1, w2, w3, w4, w5, w6, w7, w8, w9b⟩ hwq
 ·exact boolean_good l m n raw q S T v w X1 X2 X3 X4 X5 X6 X7 X8 wq Av Bv Aw Bw ⟨g1, g2, g3, hS, d1, d2, cw, cz, c1, c2, c3, c4, c5, c6, c7, c8, v1, v2, v3, v4, v5, v6, v7, v8, v9b, w1, w2, w3, w4, w5, w6, w7, w8, w9b⟩ hwq
end Go.Proofs.YthbcdhfiibpeaaaGreat

