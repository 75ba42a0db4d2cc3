/- Lemmas of the proof. -/
import Derived.Test.YthbcdhfiibpeaaaGreatTf1
import Derived.Test.YthbcdhfiibpeaaaGreatTf4
open Go.Proofs.Tryz renaming prog → zP
open List renaming length_map → lB
open Nat renaming reduceBEq → zA, reduceBNe → zB, reduceAdd → zC, reduceSub → zD, reduceMul → zE, reduceLeDiff → zF, reduceLT → zG, reduceEqDiff → zH
open Int renaming reduceToNat → zI, reduceLE → zJ, reduceLT → zK, reduceEq → zL
open Bool renaming not_eq_true' → zM, not_eq_false' → zN
set_option linter.unusedSimpArgs false
set_option linter.unusedVariables false
set_option maxRecDepth 20000
set_option maxHeartbeats 64000000
namespace Go.Proofs.YthbcdhfiibpeaaaGreat
open Go Go.Sx
theorem functions_law (l m : List Int) (hl : ∀ x ∈ l, -9223372036854775808 ≤ x ∧ x ≤ 9223372036854775807) (hm : ∀ x ∈ m, -9223372036854775808 ≤ x ∧ x ≤ 9223372036854775807) (arity : Int) :
  PC zP 4 [.one (.dat (.sl 1 (l.map encInt))), .one (.dat (.sl 1 (m.map encInt))), I .i64 arity] (Bo true) := by
 cases g1 : decide ((80 : Int) < (l.length : Int))
 case true =>
  refine PCB.ob Tryz.func4 Tryz.ntmps4 Tryz.results4 ?_
  repeat' (first | (simp only [go_sem, zA, zB, zC, zD, zE, zF, zG, reduceCtorEq, zH, zI, zJ, zK, zL, lB, g1]; all_goals refine nf ?_) | (refine stp ?_; intro K hK) | (apply hK; clear hK K) | refine stn ?_ | (with_reducible refine ⟨_, awake7_c, ?_⟩) | refine stq ?_ | (clear hK K))
  all_goals (first | exact fun _ h => absurd h List.not_mem_nil | (refine fin0 ?_; rfl))
 cases g2 : decide ((80 : Int) < (m.length : Int))
 case true =>
  refine PCB.ob Tryz.func4 Tryz.ntmps4 Tryz.results4 ?_
  repeat' (first | (simp only [go_sem, zA, zB, zC, zD, zE, zF, zG, reduceCtorEq, zH, zI, zJ, zK, zL, lB, g1, g2]; all_goals refine nf ?_) | (refine stp ?_; intro K hK) | (apply hK; clear hK K) | refine stn ?_ | (with_reducible refine ⟨_, awake7_c, ?_⟩) | refine stq ?_ | (clear hK K))
  all_goals (first | exact fun _ h => absurd h List.not_mem_nil | (refine fin0 ?_; rfl))
 have sl := src_of hl (of_decide_eq_false g1)
 have sm := src_of hm (of_decide_eq_false g2)
 have d1 := drawn_e l m sl sm
 have tv := drawn_tree l m
 obtain ⟨v, hv⟩ : ∃ v, v = drawnV l m := ⟨_, rfl⟩
 rw [← hv] at d1 tv
 have ws := drawn_wf l
 have ls := drawn_le l
 have ss := drawn_sm l
 obtain ⟨S, hSe⟩ : ∃ S, S = drawnT l := ⟨_, rfl⟩
 rw [← hSe] at d1 ws ls ss
 obtain ⟨n, hn7, hand⟩ := and7 arity
 have sF : TyS 10 (List.replicate n ((S, 0) : TyD) ++ [(S, 0)]) := ⟨fun u hu => by
  have : u = (S, 0) := by
   rcases List.mem_append.1 hu with hu | hu
   ·exact List.eq_of_mem_replicate hu
   ·simpa using hu
  subst this
  exact ⟨ss, by simp only; omega⟩, by simp; omega⟩
 have cF : PC zP 15 [Tys (List.replicate n (S, 0)), .st [.sl 8 (S.map encNode), .int .i64 0]] (LT (funT (List.replicate n (S, 0)) (S, 0))) := function_c (List.replicate n (S, 0)) (S, 0) sF (by rw [List.length_replicate]; omega)
 have mF : ∀ x : Val, treeB x = true → PC zP 14 [LV x, LT (funT (List.replicate n (S, 0)) (S, 0))] (Bo (funW (S, 0) n x)) := fun x hx => mem_c x _ hx (fun_sm sF) (fun_wf sF) (memT_fun sF x hx)
 have mS : ∀ x : Val, treeB x = true → PC zP 14 [.st (encVal x), .st [.sl 8 (S.map encNode), .int .i64 0]] (Bo (memT x (S, 0))) := fun x hx => by rw [encVal_eq]; exact mem_c x (S, 0) hx ss ws rfl
 have mS2 : ∀ x : Val, treeB x = true → PC zP 14 [LV x, .st [.sl 8 (S.map encNode), .int .i64 0]] (Bo (memT x (S, 0))) := fun x hx => mem_c x (S, 0) hx ss ws rfl
 generalize funT (List.replicate n (S, 0)) (S, 0) = F at cF mF
 clear hv hSe sF ws sl
 refine PCB.ob Tryz.func4 Tryz.ntmps4 Tryz.results4 ?_
 repeat' (first | (simp only [go_sem, zA, zB, zC, zD, zE, zF, zG, reduceCtorEq, zH, zI, zJ, zK, zL, lB, g1, g2, hand]; all_goals refine nf ?_) | (refine stp ?_; intro K hK) | (apply hK; clear hK K) | refine stn ?_ | (with_reducible refine ⟨_, d1, ?_⟩) | refine stq ?_ | fail)
 refine AWP.gh (Gh.nilrow 10 901 rfl rfl rfl rfl) ?_
 refine AWP.loopF (X := Nat) (fun i => [(11, I .i64 i), (10, .one (.own 901 i))]) (fun i => [(901, .row 2 ((List.replicate i ((S, 0) : TyD)).map encTy))]) [1, 7, 8, 9] [7, 8] (fun i => i ≤ n) (fun i => n - i) (0) (by refine sts ?_; exact Gh.tt []) ?_ ?_
 ·exact Nat.zero_le _
 rintro i hi
 refine sts ?_
 by_cases hin : i = n
 case neg =>
  have hlt : decide ((i : Int) < (n : Int)) = true := by rw [decide_eq_true_eq]; omega
  have hwi : IntKind.i64.wrap ((i : Int) + 1) = ((i + 1 : Nat) : Int) := by rw [w64 (by omega)]; rfl
  have hrs := rep_snoc (S, 0) i
  simp only at hrs
  repeat' (first | (simp only [go_sem, zA, zB, zC, zD, zE, zF, zG, reduceCtorEq, zH, zI, zJ, zK, zL, lB, List.length_replicate, hlt, hwi, hrs]; all_goals refine nf ?_) | (refine stp ?_; intro K hK) | (apply hK; clear hK K) | refine stn ?_ | (with_reducible (refine ⟨(by first | omega | (simp only [List.length_append, lB, List.length_take, List.length_drop, List.length_cons, List.length_nil, List.length_replicate]; omega) : _ ≤ _), ?_⟩)) | refine stq ?_ | (clear hK K))
  all_goals (refine ⟨i + 1, by omega, by omega, Gh.tt [(901, 46)]⟩)
 subst hin
 have hlt : decide ((i : Int) < (i : Int)) = false := by simp
 refine AWP.gh (Gh.freeze 901 rfl rfl (by simp only [go_sem, zA, zB, zC, zD, zE, zF, zG, reduceCtorEq, zH, zI, zJ, zK, zL, lB, List.length_replicate]) (by simp only [go_sem, zA, zB, zC, zD, zE, zF, zG, reduceCtorEq, zH, zI, zJ, zK, zL, lB, List.length_replicate])) ?_
 simp only [go_sem, zA, zB, zC, zD, zE, zF, zG, reduceCtorEq, zH, zI, zJ, zK, zL, lB, List.length_replicate]
 repeat' (first | (simp only [go_sem, zA, zB, zC, zD, zE, zF, zG, reduceCtorEq, zH, zI, zJ, zK, zL, lB, hlt, hand]; all_goals refine nf ?_) | (refine stp ?_; intro K hK) | (apply hK; clear hK K) | refine stn ?_ | (with_reducible refine ⟨_, cF, ?_⟩) | refine stq ?_ | (clear hK K))
 refine AWP.loopF (X := Nat × Src) (fun y => [(14, I .i64 y.1)]) (fun y => [(52, srcB y.2)]) [7, 8, 9, 12, 13] [7, 8, 12] (fun y => y.1 ≤ 3 ∧ y.2.ok) (fun y => 3 - y.1) ((0, srcL m)) (by refine sts ?_; exact Gh.tt []) ?_ ?_
 ·exact ⟨Nat.zero_le _, sm⟩
 rintro ⟨j, s⟩ ⟨hj, hs⟩
 simp only at hj hs
 have hj4 : j = 0 ∨ j = 1 ∨ j = 2 ∨ j = 3 := by omega
 obtain ⟨u, hu⟩ : ∃ u, u = fullV 3 s := ⟨_, rfl⟩
 have hQ : PCBk zP 16 [Sp 52, I .i64 3] 52 (srcB s) (LV u.1) (srcB u.2) := by
  have := (sourceValue_c 3 (by omega)).k 52 s hs
  rw [← hu, Vt, encVal_eq] at this
  exact this
 have hus : u.2.ok := by rw [hu]; exact ok_full 3 s hs
 have tu : treeB u.1 = true := by rw [hu]; exact tree_full 3 s
 clear hu
 by_cases hj3 : j = 3
 ·
  subst hj3
  refine sts ?_
  repeat' (first | (simp only [go_sem, zA, zB, zC, zD, zE, zF, zG, reduceCtorEq, zH, zI, zJ, zK, zL]; all_goals refine nf ?_) | (refine stp ?_; intro K hK) | (apply hK; clear hK K) | refine stn ?_ | (with_reducible refine ⟨_, awake7_c, ?_⟩) | refine stq ?_ | (clear hK K))
  all_goals (first | exact fun _ h => absurd h List.not_mem_nil | (refine fin0 ?_; rfl))
 ·
  have hj1 : decide ((j : Int) < 3) = true := by rw [decide_eq_true_eq]; omega
  have hjw : IntKind.i64.wrap ((j : Int) + 1) = ((j + 1 : Nat) : Int) := by rw [w64 (by omega)]; rfl
  have b1 : (true == false) = false := rfl
  have b2 : (false == true) = false := rfl
  have b3 : (true == true) = true := rfl
  have b4 : (false == false) = true := rfl
  have b5 : (true != true) = false := rfl
  have b6 : (false != false) = false := rfl
  cases hj0 : decide ((j : Int) = 0)
  ·
   refine sts ?_
   have hF : PC zP 14 [LV u.1, LT F] (Bo (funW (S, 0) i u.1)) := mF u.1 tu
   have kids := tu
   rw [treeB_kids, Bool.and_eq_true, Bool.and_eq_true] at kids
   cases c9 : decide (u.1.kind = 9)
   case false =>
    have hF2 : PC zP 14 [LV u.1, LT F] (Bo false) := by
     have : funW (S, 0) i u.1 = false := by unfold funW; rw [c9]; rfl
     rw [this] at hF; exact hF
    repeat' (first | (simp only [go_sem, zA, zB, zC, zD, zE, zF, zG, reduceCtorEq, zH, zI, zJ, zK, zL, lB, c9, hjw, hj1, hj0, b1, b2, b3, b4, b5, b6]; all_goals refine nf ?_) | (refine stp ?_; intro K hK) | (apply hK; clear hK K) | refine stn ?_ | (refine ⟨52, _, _, _, hQ, rfl, ?_⟩) | refine stq ?_ | fail)
    refine AWP.loopF (X := Unit) (fun _ => []) (fun _ => [(52, srcB u.2)]) [7, 8, 9, 12, 13, 14, 15, 16, 17] [7, 8, 12, 15] (fun _ => True) (fun _ => 0) (()) (by refine sts ?_; exact Gh.tt []) ?_ ?_
    ·trivial
    rintro _ _
    refine sts ?_
    repeat' (first | (simp only [go_sem, zA, zB, zC, zD, zE, zF, zG, reduceCtorEq, zH, zI, zJ, zK, zL, lB, hjw, hj1, hj0, b1, b2, b3, b4, b5, b6]; all_goals refine nf ?_) | (refine stp ?_; intro K hK) | (apply hK; clear hK K) | refine stn ?_ | (with_reducible refine ⟨_, hF2, ?_⟩) | refine stq ?_ | (clear hK K))
    all_goals (refine ⟨(j + 1, u.2), by simp only; omega, ⟨by simp only; omega, hus⟩, Gh.tt []⟩)
   cases cn : decide (u.1.num = (i : Int))
   case false =>
    have hF2 : PC zP 14 [LV u.1, LT F] (Bo false) := by
     have : funW (S, 0) i u.1 = false := by unfold funW; rw [c9, cn]; rfl
     rw [this] at hF; exact hF
    repeat' (first | (simp only [go_sem, zA, zB, zC, zD, zE, zF, zG, reduceCtorEq, zH, zI, zJ, zK, zL, lB, c9, cn, hjw, hj1, hj0, b1, b2, b3, b4, b5, b6]; all_goals refine nf ?_) | (refine stp ?_; intro K hK) | (apply hK; clear hK K) | refine stn ?_ | (refine ⟨52, _, _, _, hQ, rfl, ?_⟩) | refine stq ?_ | fail)
    refine AWP.loopF (X := Unit) (fun _ => []) (fun _ => [(52, srcB u.2)]) [7, 8, 9, 12, 13, 14, 15, 16, 17] [7, 8, 12, 15] (fun _ => True) (fun _ => 0) (()) (by refine sts ?_; exact Gh.tt []) ?_ ?_
    ·trivial
    rintro _ _
    refine sts ?_
    repeat' (first | (simp only [go_sem, zA, zB, zC, zD, zE, zF, zG, reduceCtorEq, zH, zI, zJ, zK, zL, lB, hjw, hj1, hj0, b1, b2, b3, b4, b5, b6]; all_goals refine nf ?_) | (refine stp ?_; intro K hK) | (apply hK; clear hK K) | refine stn ?_ | (with_reducible refine ⟨_, hF2, ?_⟩) | refine stq ?_ | (clear hK K))
    all_goals (refine ⟨(j + 1, u.2), by simp only; omega, ⟨by simp only; omega, hus⟩, Gh.tt []⟩)
   cases c4 : decide ((i : Int) ≤ 4)
   case false =>
    have hF2 : PC zP 14 [LV u.1, LT F] (Bo false) := by
     have : funW (S, 0) i u.1 = false := by unfold funW; rw [c9, cn, c4]; rfl
     rw [this] at hF; exact hF
    repeat' (first | (simp only [go_sem, zA, zB, zC, zD, zE, zF, zG, reduceCtorEq, zH, zI, zJ, zK, zL, lB, c9, cn, c4, hjw, hj1, hj0, b1, b2, b3, b4, b5, b6]; all_goals refine nf ?_) | (refine stp ?_; intro K hK) | (apply hK; clear hK K) | refine stn ?_ | (refine ⟨52, _, _, _, hQ, rfl, ?_⟩) | refine stq ?_ | fail)
    refine AWP.loopF (X := Unit) (fun _ => []) (fun _ => [(52, srcB u.2)]) [7, 8, 9, 12, 13, 14, 15, 16, 17] [7, 8, 12, 15] (fun _ => True) (fun _ => 0) (()) (by refine sts ?_; exact Gh.tt []) ?_ ?_
    ·trivial
    rintro _ _
    refine sts ?_
    repeat' (first | (simp only [go_sem, zA, zB, zC, zD, zE, zF, zG, reduceCtorEq, zH, zI, zJ, zK, zL, lB, hjw, hj1, hj0, b1, b2, b3, b4, b5, b6]; all_goals refine nf ?_) | (refine stp ?_; intro K hK) | (apply hK; clear hK K) | refine stn ?_ | (with_reducible refine ⟨_, hF2, ?_⟩) | refine stq ?_ | (clear hK K))
    all_goals (refine ⟨(j + 1, u.2), by simp only; omega, ⟨by simp only; omega, hus⟩, Gh.tt []⟩)
   have hFe : funW (S, 0) i u.1 = u.1.ents.all (entW (S, 0)) := by unfold funW; rw [c9, cn, c4]; rfl
   rw [hFe] at hF
   repeat' (first | (simp only [go_sem, zA, zB, zC, zD, zE, zF, zG, reduceCtorEq, zH, zI, zJ, zK, zL, lB, c9, cn, c4, hjw, hj1, hj0, b1, b2, b3, b4, b5, b6]; all_goals refine nf ?_) | (refine stp ?_; intro K hK) | (apply hK; clear hK K) | refine stn ?_ | (refine ⟨52, _, _, _, hQ, rfl, ?_⟩) | refine stq ?_ | fail)
   refine AWP.loopF (X := Nat × Bool) (fun y => [(17, I .i64 (y.1 : Nat)), (16, .one (.dat (.bool y.2)))]) (fun y => [(52, srcB u.2)]) [7, 8, 9, 12, 13, 14, 15] [7, 8, 12, 15] (fun y => y.1 ≤ u.1.ents.length ∧ u.1.ents.all (entW (S, 0)) = (y.2 && (u.1.ents.drop y.1).all (entW (S, 0)))) (fun y => u.1.ents.length - y.1) ((0, true)) (by refine sts ?_; exact Gh.tt []) ?_ ?_
   ·exact ⟨Nat.zero_le _, by simp only [List.drop_zero, Bool.true_and]⟩
   rintro ⟨k, b⟩ ⟨hk, hb⟩
   simp only at hk hb
   refine sts ?_
   cases b with
   | false =>
    rw [hb, Bool.false_and] at hF
    repeat' (first | (simp only [go_sem, zA, zB, zC, zD, zE, zF, zG, reduceCtorEq, zH, zI, zJ, zK, zL, lB, hjw, hj1, hj0, b1, b2, b3, b4, b5, b6]; all_goals refine nf ?_) | (refine stp ?_; intro K hK) | (apply hK; clear hK K) | refine stn ?_ | (with_reducible refine ⟨_, hF, ?_⟩) | refine stq ?_ | (clear hK K))
    all_goals (refine ⟨(j + 1, u.2), by simp only; omega, ⟨by simp only; omega, hus⟩, Gh.tt []⟩)
   | true =>
    rw [Bool.true_and] at hb
    by_cases hke : k = u.1.ents.length
    ·have hkf : decide ((k : Int) < (u.1.ents.length : Int)) = false := by rw [hke]; simp
     rw [hb, hke, List.drop_length, List.all_nil] at hF
     repeat' (first | (simp only [go_sem, zA, zB, zC, zD, zE, zF, zG, reduceCtorEq, zH, zI, zJ, zK, zL, lB, hkf, hjw, hj1, hj0, b1, b2, b3, b4, b5, b6]; all_goals refine nf ?_) | (refine stp ?_; intro K hK) | (apply hK; clear hK K) | refine stn ?_ | (with_reducible refine ⟨_, hF, ?_⟩) | refine stq ?_ | (clear hK K))
     all_goals (refine ⟨(j + 1, u.2), by simp only; omega, ⟨by simp only; omega, hus⟩, Gh.tt []⟩)
    ·have hkl : k < u.1.ents.length := by omega
     have hkt : decide ((k : Int) < (u.1.ents.length : Int)) = true := by rw [decide_eq_true_eq]; omega
     obtain ⟨e, he⟩ : ∃ e, e = u.1.ents[k] := ⟨_, rfl⟩
     have hx : u.1.ents[k]? = some e := by rw [List.getElem?_eq_getElem hkl, he]
     have hx' : (u.1.ents.map encEnt)[k]? = some (encEnt e) := get_map encEnt hx
     have te := List.all_eq_true.1 kids.2.2 e (List.mem_of_getElem? hx)
     rw [treeE, Bool.and_eq_true] at te
     have hd : u.1.ents.drop k = e :: u.1.ents.drop (k + 1) := by rw [List.drop_eq_getElem_cons hkl, he]
     rw [hd, List.all_cons] at hb
     refine AWP.lenB 15 5 rfl rfl fun hlenk => ?_
     (try rw [lB] at hlenk)
     have hwk := wrap_succ hkl hlenk
     repeat' (first | (simp only [go_sem, zA, zB, zC, zD, zE, zF, zG, reduceCtorEq, zH, zI, zJ, zK, zL, lB, hkt, encEnt_eq, hjw, hj1, hj0, b1, b2, b3, b4, b5, b6]; all_goals refine nf ?_) | (refine stp ?_; intro K hK) | (apply hK; clear hK K) | refine stn ?_ | (with_reducible refine ⟨(by omega : _ ≤ _), encEnt e, hx', ?_⟩) | fail)
     refine AWP.lenB 18 0 rfl rfl fun hlen3 => ?_
     (try rw [lB] at hlen3)
     refine AWP.range (S := Bool) (e.1) encVal (fun m b => (20, I .i64 (m : Nat)) :: [(19, .one (.dat (.bool b)))]) (fun m b => [(52, srcB u.2)]) [7, 8, 9, 12, 13, 14, 15, 17, 18] [7, 8, 12, 15, 18] (fun m b => (e.1.all fun p => memT p (S, 0)) = (b && (e.1.drop m).all fun p => memT p (S, 0))) (true) (by simp only [go_sem, zA, zB, zC, zD, zE, zF, zG, reduceCtorEq, zH, zI, zJ, zK, zL, encEnt_eq]; exact Gh.tt []) ?_ ?_ ?_
     ·simp only [List.drop_zero, Bool.true_and]
     ·intro m b p hlt hq hq' hbx hok
      refine sts ?_
      have hM := mS p (List.all_eq_true.1 te.1 p (List.mem_of_getElem? hq))
      cases b with
      | false =>
       repeat' (first | (simp only [go_sem, zA, zB, zC, zD, zE, zF, zG, reduceCtorEq, zH, zI, zJ, zK, zL, lB, encEnt_eq, hbx]; all_goals refine nf ?_) | (refine stp ?_; intro K hK) | (apply hK; clear hK K) | refine stn ?_ | (refine stp' ?_; intro K hK) | (clear hK K))
       all_goals (rw [wrap_succ hlt hlen3])
       all_goals (refine ⟨false, ?_, Gh.tt []⟩)
       all_goals (rw [hok, Bool.false_and, Bool.false_and])
      | true =>
       rw [all_step hq] at hok
       repeat' (first | (simp only [go_sem, zA, zB, zC, zD, zE, zF, zG, reduceCtorEq, zH, zI, zJ, zK, zL, lB, encEnt_eq, hbx]; all_goals refine nf ?_) | (refine stp ?_; intro K hK) | (apply hK; clear hK K) | refine stn ?_ | (with_reducible first | refine ⟨(by omega : _ ≤ _), encVal p, hq', ?_⟩ | refine ⟨_, hM, ?_⟩) | (refine stp' ?_; intro K hK) | (clear hK K))
       all_goals (rw [wrap_succ hlt hlen3])
       all_goals (refine ⟨(memT p (S, 0)), ?_, Gh.tt []⟩)
       all_goals (rw [hok, Bool.true_and])
     ·intro b1 hb1 hok1
      refine sts ?_
      rw [all_end, Bool.and_true] at hok1
      have hE : entW (S, 0) e = (!b1 || (!e.2.1 && memT e.2.2 (S, 0))) := by unfold entW; rw [hok1]
      cases b1 with
      | false =>
       repeat' (first | (simp only [go_sem, zA, zB, zC, zD, zE, zF, zG, reduceCtorEq, zH, zI, zJ, zK, zL, lB, encEnt_eq, hb1, hwk, hjw, hj1, hj0, b1, b2, b3, b4, b5, b6]; all_goals refine nf ?_) | (refine stp ?_; intro K hK) | (apply hK; clear hK K) | refine stn ?_ | (clear hK K))
       all_goals (refine ⟨(k + 1, true), by simp only; omega, ⟨by simp only; omega, by rw [hb, hE]; rfl⟩, Gh.tt []⟩)
      | true =>
       cases hf : e.2.1 with
       | true =>
        rw [hf] at hE
        repeat' (first | (simp only [go_sem, zA, zB, zC, zD, zE, zF, zG, reduceCtorEq, zH, zI, zJ, zK, zL, lB, encEnt_eq, hb1, hwk, hf, hjw, hj1, hj0, b1, b2, b3, b4, b5, b6]; all_goals refine nf ?_) | (refine stp ?_; intro K hK) | (apply hK; clear hK K) | refine stn ?_ | (clear hK K))
        all_goals (refine ⟨(k + 1, false), by simp only; omega, ⟨by simp only; omega, by rw [hb, hE]; rfl⟩, Gh.tt []⟩)
       | false =>
        rw [hf] at hE
        have tr : treeB e.2.2 = true := by have := te.2; rw [hf] at this; exact this
        have hM1 := mS e.2.2 tr
        have hM2 := mS2 e.2.2 tr
        repeat' (first | (simp only [go_sem, zA, zB, zC, zD, zE, zF, zG, reduceCtorEq, zH, zI, zJ, zK, zL, lB, encEnt_eq, hb1, hwk, hf, hjw, hj1, hj0, b1, b2, b3, b4, b5, b6]; all_goals refine nf ?_) | (refine stp ?_; intro K hK) | (apply hK; clear hK K) | refine stn ?_ | (with_reducible refine ⟨_, hM2, ?_⟩) | refine stq ?_ | (clear hK K))
        all_goals (refine ⟨(k + 1, memT e.2.2 (S, 0)), by simp only; omega, ⟨by simp only; omega, by rw [hb, hE]; rfl⟩, Gh.tt []⟩)
  ·
   refine sts ?_
   have hF : PC zP 14 [LV v, LT F] (Bo (funW (S, 0) i v)) := mF v tv
   have kids := tv
   rw [treeB_kids, Bool.and_eq_true, Bool.and_eq_true] at kids
   cases c9 : decide (v.kind = 9)
   case false =>
    have hF2 : PC zP 14 [LV v, LT F] (Bo false) := by
     have : funW (S, 0) i v = false := by unfold funW; rw [c9]; rfl
     rw [this] at hF; exact hF
    repeat' (first | (simp only [go_sem, zA, zB, zC, zD, zE, zF, zG, reduceCtorEq, zH, zI, zJ, zK, zL, lB, c9, hjw, hj1, hj0, b1, b2, b3, b4, b5, b6]; all_goals refine nf ?_) | (refine stp ?_; intro K hK) | (apply hK; clear hK K) | refine stn ?_ | (refine ⟨52, _, _, _, hQ, rfl, ?_⟩) | refine stq ?_ | fail)
    refine AWP.loopF (X := Unit) (fun _ => []) (fun _ => [(52, srcB u.2)]) [7, 8, 9, 12, 13, 14, 15, 16, 17] [7, 8, 12, 15] (fun _ => True) (fun _ => 0) (()) (by refine sts ?_; exact Gh.tt []) ?_ ?_
    ·trivial
    rintro _ _
    refine sts ?_
    repeat' (first | (simp only [go_sem, zA, zB, zC, zD, zE, zF, zG, reduceCtorEq, zH, zI, zJ, zK, zL, lB, hjw, hj1, hj0, b1, b2, b3, b4, b5, b6]; all_goals refine nf ?_) | (refine stp ?_; intro K hK) | (apply hK; clear hK K) | refine stn ?_ | (with_reducible refine ⟨_, hF2, ?_⟩) | refine stq ?_ | (clear hK K))
    all_goals (refine ⟨(j + 1, u.2), by simp only; omega, ⟨by simp only; omega, hus⟩, Gh.tt []⟩)
   cases cn : decide (v.num = (i : Int))
   case false =>
    have hF2 : PC zP 14 [LV v, LT F] (Bo false) := by
     have : funW (S, 0) i v = false := by unfold funW; rw [c9, cn]; rfl
     rw [this] at hF; exact hF
    repeat' (first | (simp only [go_sem, zA, zB, zC, zD, zE, zF, zG, reduceCtorEq, zH, zI, zJ, zK, zL, lB, c9, cn, hjw, hj1, hj0, b1, b2, b3, b4, b5, b6]; all_goals refine nf ?_) | (refine stp ?_; intro K hK) | (apply hK; clear hK K) | refine stn ?_ | (refine ⟨52, _, _, _, hQ, rfl, ?_⟩) | refine stq ?_ | fail)
    refine AWP.loopF (X := Unit) (fun _ => []) (fun _ => [(52, srcB u.2)]) [7, 8, 9, 12, 13, 14, 15, 16, 17] [7, 8, 12, 15] (fun _ => True) (fun _ => 0) (()) (by refine sts ?_; exact Gh.tt []) ?_ ?_
    ·trivial
    rintro _ _
    refine sts ?_
    repeat' (first | (simp only [go_sem, zA, zB, zC, zD, zE, zF, zG, reduceCtorEq, zH, zI, zJ, zK, zL, lB, hjw, hj1, hj0, b1, b2, b3, b4, b5, b6]; all_goals refine nf ?_) | (refine stp ?_; intro K hK) | (apply hK; clear hK K) | refine stn ?_ | (with_reducible refine ⟨_, hF2, ?_⟩) | refine stq ?_ | (clear hK K))
    all_goals (refine ⟨(j + 1, u.2), by simp only; omega, ⟨by simp only; omega, hus⟩, Gh.tt []⟩)
   cases c4 : decide ((i : Int) ≤ 4)
   case false =>
    have hF2 : PC zP 14 [LV v, LT F] (Bo false) := by
     have : funW (S, 0) i v = false := by unfold funW; rw [c9, cn, c4]; rfl
     rw [this] at hF; exact hF
    repeat' (first | (simp only [go_sem, zA, zB, zC, zD, zE, zF, zG, reduceCtorEq, zH, zI, zJ, zK, zL, lB, c9, cn, c4, hjw, hj1, hj0, b1, b2, b3, b4, b5, b6]; all_goals refine nf ?_) | (refine stp ?_; intro K hK) | (apply hK; clear hK K) | refine stn ?_ | (refine ⟨52, _, _, _, hQ, rfl, ?_⟩) | refine stq ?_ | fail)
    refine AWP.loopF (X := Unit) (fun _ => []) (fun _ => [(52, srcB u.2)]) [7, 8, 9, 12, 13, 14, 15, 16, 17] [7, 8, 12, 15] (fun _ => True) (fun _ => 0) (()) (by refine sts ?_; exact Gh.tt []) ?_ ?_
    ·trivial
    rintro _ _
    refine sts ?_
    repeat' (first | (simp only [go_sem, zA, zB, zC, zD, zE, zF, zG, reduceCtorEq, zH, zI, zJ, zK, zL, lB, hjw, hj1, hj0, b1, b2, b3, b4, b5, b6]; all_goals refine nf ?_) | (refine stp ?_; intro K hK) | (apply hK; clear hK K) | refine stn ?_ | (with_reducible refine ⟨_, hF2, ?_⟩) | refine stq ?_ | (clear hK K))
    all_goals (refine ⟨(j + 1, u.2), by simp only; omega, ⟨by simp only; omega, hus⟩, Gh.tt []⟩)
   have hFe : funW (S, 0) i v = v.ents.all (entW (S, 0)) := by unfold funW; rw [c9, cn, c4]; rfl
   rw [hFe] at hF
   repeat' (first | (simp only [go_sem, zA, zB, zC, zD, zE, zF, zG, reduceCtorEq, zH, zI, zJ, zK, zL, lB, c9, cn, c4, hjw, hj1, hj0, b1, b2, b3, b4, b5, b6]; all_goals refine nf ?_) | (refine stp ?_; intro K hK) | (apply hK; clear hK K) | refine stn ?_ | (refine ⟨52, _, _, _, hQ, rfl, ?_⟩) | refine stq ?_ | fail)
   refine AWP.loopF (X := Nat × Bool) (fun y => [(17, I .i64 (y.1 : Nat)), (16, .one (.dat (.bool y.2)))]) (fun y => [(52, srcB u.2)]) [7, 8, 9, 12, 13, 14, 15] [7, 8, 12, 15] (fun y => y.1 ≤ v.ents.length ∧ v.ents.all (entW (S, 0)) = (y.2 && (v.ents.drop y.1).all (entW (S, 0)))) (fun y => v.ents.length - y.1) ((0, true)) (by refine sts ?_; exact Gh.tt []) ?_ ?_
   ·exact ⟨Nat.zero_le _, by simp only [List.drop_zero, Bool.true_and]⟩
   rintro ⟨k, b⟩ ⟨hk, hb⟩
   simp only at hk hb
   refine sts ?_
   cases b with
   | false =>
    rw [hb, Bool.false_and] at hF
    repeat' (first | (simp only [go_sem, zA, zB, zC, zD, zE, zF, zG, reduceCtorEq, zH, zI, zJ, zK, zL, lB, hjw, hj1, hj0, b1, b2, b3, b4, b5, b6]; all_goals refine nf ?_) | (refine stp ?_; intro K hK) | (apply hK; clear hK K) | refine stn ?_ | (with_reducible refine ⟨_, hF, ?_⟩) | refine stq ?_ | (clear hK K))
    all_goals (refine ⟨(j + 1, u.2), by simp only; omega, ⟨by simp only; omega, hus⟩, Gh.tt []⟩)
   | true =>
    rw [Bool.true_and] at hb
    by_cases hke : k = v.ents.length
    ·have hkf : decide ((k : Int) < (v.ents.length : Int)) = false := by rw [hke]; simp
     rw [hb, hke, List.drop_length, List.all_nil] at hF
     repeat' (first | (simp only [go_sem, zA, zB, zC, zD, zE, zF, zG, reduceCtorEq, zH, zI, zJ, zK, zL, lB, hkf, hjw, hj1, hj0, b1, b2, b3, b4, b5, b6]; all_goals refine nf ?_) | (refine stp ?_; intro K hK) | (apply hK; clear hK K) | refine stn ?_ | (with_reducible refine ⟨_, hF, ?_⟩) | refine stq ?_ | (clear hK K))
     all_goals (refine ⟨(j + 1, u.2), by simp only; omega, ⟨by simp only; omega, hus⟩, Gh.tt []⟩)
    ·have hkl : k < v.ents.length := by omega
     have hkt : decide ((k : Int) < (v.ents.length : Int)) = true := by rw [decide_eq_true_eq]; omega
     obtain ⟨e, he⟩ : ∃ e, e = v.ents[k] := ⟨_, rfl⟩
     have hx : v.ents[k]? = some e := by rw [List.getElem?_eq_getElem hkl, he]
     have hx' : (v.ents.map encEnt)[k]? = some (encEnt e) := get_map encEnt hx
     have te := List.all_eq_true.1 kids.2.2 e (List.mem_of_getElem? hx)
     rw [treeE, Bool.and_eq_true] at te
     have hd : v.ents.drop k = e :: v.ents.drop (k + 1) := by rw [List.drop_eq_getElem_cons hkl, he]
     rw [hd, List.all_cons] at hb
     refine AWP.lenB 15 5 rfl rfl fun hlenk => ?_
     (try rw [lB] at hlenk)
     have hwk := wrap_succ hkl hlenk
     repeat' (first | (simp only [go_sem, zA, zB, zC, zD, zE, zF, zG, reduceCtorEq, zH, zI, zJ, zK, zL, lB, hkt, encEnt_eq, hjw, hj1, hj0, b1, b2, b3, b4, b5, b6]; all_goals refine nf ?_) | (refine stp ?_; intro K hK) | (apply hK; clear hK K) | refine stn ?_ | (with_reducible refine ⟨(by omega : _ ≤ _), encEnt e, hx', ?_⟩) | fail)
     refine AWP.lenB 18 0 rfl rfl fun hlen3 => ?_
     (try rw [lB] at hlen3)
     refine AWP.range (S := Bool) (e.1) encVal (fun m b => (20, I .i64 (m : Nat)) :: [(19, .one (.dat (.bool b)))]) (fun m b => [(52, srcB u.2)]) [7, 8, 9, 12, 13, 14, 15, 17, 18] [7, 8, 12, 15, 18] (fun m b => (e.1.all fun p => memT p (S, 0)) = (b && (e.1.drop m).all fun p => memT p (S, 0))) (true) (by simp only [go_sem, zA, zB, zC, zD, zE, zF, zG, reduceCtorEq, zH, zI, zJ, zK, zL, encEnt_eq]; exact Gh.tt []) ?_ ?_ ?_
     ·simp only [List.drop_zero, Bool.true_and]
     ·intro m b p hlt hq hq' hbx hok
      refine sts ?_
      have hM := mS p (List.all_eq_true.1 te.1 p (List.mem_of_getElem? hq))
      cases b with
      | false =>
       repeat' (first | (simp only [go_sem, zA, zB, zC, zD, zE, zF, zG, reduceCtorEq, zH, zI, zJ, zK, zL, lB, encEnt_eq, hbx]; all_goals refine nf ?_) | (refine stp ?_; intro K hK) | (apply hK; clear hK K) | refine stn ?_ | (refine stp' ?_; intro K hK) | (clear hK K))
       all_goals (rw [wrap_succ hlt hlen3])
       all_goals (refine ⟨false, ?_, Gh.tt []⟩)
       all_goals (rw [hok, Bool.false_and, Bool.false_and])
      | true =>
       rw [all_step hq] at hok
       repeat' (first | (simp only [go_sem, zA, zB, zC, zD, zE, zF, zG, reduceCtorEq, zH, zI, zJ, zK, zL, lB, encEnt_eq, hbx]; all_goals refine nf ?_) | (refine stp ?_; intro K hK) | (apply hK; clear hK K) | refine stn ?_ | (with_reducible first | refine ⟨(by omega : _ ≤ _), encVal p, hq', ?_⟩ | refine ⟨_, hM, ?_⟩) | (refine stp' ?_; intro K hK) | (clear hK K))
       all_goals (rw [wrap_succ hlt hlen3])
       all_goals (refine ⟨(memT p (S, 0)), ?_, Gh.tt []⟩)
       all_goals (rw [hok, Bool.true_and])
     ·intro b1 hb1 hok1
      refine sts ?_
      rw [all_end, Bool.and_true] at hok1
      have hE : entW (S, 0) e = (!b1 || (!e.2.1 && memT e.2.2 (S, 0))) := by unfold entW; rw [hok1]
      cases b1 with
      | false =>
       repeat' (first | (simp only [go_sem, zA, zB, zC, zD, zE, zF, zG, reduceCtorEq, zH, zI, zJ, zK, zL, lB, encEnt_eq, hb1, hwk, hjw, hj1, hj0, b1, b2, b3, b4, b5, b6]; all_goals refine nf ?_) | (refine stp ?_; intro K hK) | (apply hK; clear hK K) | refine stn ?_ | (clear hK K))
       all_goals (refine ⟨(k + 1, true), by simp only; omega, ⟨by simp only; omega, by rw [hb, hE]; rfl⟩, Gh.tt []⟩)
      | true =>
       cases hf : e.2.1 with
       | true =>
        rw [hf] at hE
        repeat' (first | (simp only [go_sem, zA, zB, zC, zD, zE, zF, zG, reduceCtorEq, zH, zI, zJ, zK, zL, lB, encEnt_eq, hb1, hwk, hf, hjw, hj1, hj0, b1, b2, b3, b4, b5, b6]; all_goals refine nf ?_) | (refine stp ?_; intro K hK) | (apply hK; clear hK K) | refine stn ?_ | (clear hK K))
        all_goals (refine ⟨(k + 1, false), by simp only; omega, ⟨by simp only; omega, by rw [hb, hE]; rfl⟩, Gh.tt []⟩)
       | false =>
        rw [hf] at hE
        have tr : treeB e.2.2 = true := by have := te.2; rw [hf] at this; exact this
        have hM1 := mS e.2.2 tr
        have hM2 := mS2 e.2.2 tr
        repeat' (first | (simp only [go_sem, zA, zB, zC, zD, zE, zF, zG, reduceCtorEq, zH, zI, zJ, zK, zL, lB, encEnt_eq, hb1, hwk, hf, hjw, hj1, hj0, b1, b2, b3, b4, b5, b6]; all_goals refine nf ?_) | (refine stp ?_; intro K hK) | (apply hK; clear hK K) | refine stn ?_ | (with_reducible refine ⟨_, hM2, ?_⟩) | refine stq ?_ | (clear hK K))
        all_goals (refine ⟨(k + 1, memT e.2.2 (S, 0)), by simp only; omega, ⟨by simp only; omega, by rw [hb, hE]; rfl⟩, Gh.tt []⟩)
end Go.Proofs.YthbcdhfiibpeaaaGreat

