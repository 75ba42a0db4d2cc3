/- Lemmas of the proof. -/
import Derived.Test.YthbcdhfiibpeaaaGreatTy36
import Derived.Test.YthbcdhfiibpeaaaGreatTy42
import Derived.Test.YthbcdhfiibpeaaaGreatTy47
open Go.Proofs.Tryz renaming prog → zP
open Nat renaming reduceBEq → zA, reduceBNe → zB, reduceAdd → zC, reduceSub → zD, reduceMul → zE, reduceLeDiff → zF, reduceLT → zG, reduceEqDiff → zH
open Int renaming reduceToNat → zI, reduceLE → zJ, reduceLT → zK, reduceEq → zL
open Bool renaming not_eq_true' → zM, not_eq_false' → zN
set_option linter.unusedSimpArgs false
set_option linter.unusedVariables false
set_option maxRecDepth 20000
set_option maxHeartbeats 64000000
namespace Go.Proofs.YthbcdhfiibpeaaaGreat
open Go Go.Sx
open Go.Ivl
def listV : List Val → Val
  | [] => nilVal
  | v :: l => consVal v (listV l)
theorem refList_c (l : List Val) (hl : l.length ≤ 1000000) : PC zP 32 [.one (.dat (.sl 7 (l.map encVal)))] (Vt (listV l)) := by
 have hw0 : IntKind.i64.wrap ((l.length : Int) - 1) = (l.length : Int) - 1 := by rw [w64 (by omega)]
 refine PCB.ob Tryz.func32 Tryz.ntmps32 Tryz.results32 ?_
 repeat' (first | (simp only [go_sem, zA, zB, zC, zD, zE, zF, zG, reduceCtorEq, zH, zI, zJ, zK, zL, List.length_map, hw0, nil_lit]; all_goals refine nf ?_) | (refine stp ?_; intro K hK) | (apply hK; clear hK K) | refine stn ?_ | (with_reducible refine ⟨_, refNil_c, ?_⟩) | refine stq ?_ | fail)
 refine AWP.loopF (X := Nat × Val) (fun y => [(4, I .i64 ((y.1 : Int) - 1))]) (fun y => [(3, valR y.2)]) [0, 2, 3] [2] (fun y => y.1 ≤ l.length ∧ y.2 = listV (l.drop y.1)) (fun y => y.1) ((l.length, nilVal)) (by refine sts ?_; exact Gh.tt []) ?_ ?_
 ·refine ⟨Nat.le_refl _, ?_⟩
  rw [List.drop_length]; rfl
 rintro ⟨i, w⟩ ⟨hi, hw⟩
 simp only at hi hw
 cases i with
 | zero =>
  have h0 : decide ((0 : Int) ≤ ((0 : Nat) : Int) - 1) = false := by decide
  refine sts ?_
  repeat' (first | (simp only [go_sem, zA, zB, zC, zD, zE, zF, zG, reduceCtorEq, zH, zI, zJ, zK, zL, h0, encVal_eq]; all_goals refine nf ?_) | (refine stp ?_; intro K hK) | (apply hK; clear hK K) | refine stn ?_ | (clear hK K))
  rw [List.drop_zero] at hw
  all_goals (refine fin0 ?_; rw [← hw, Vt, encVal_eq])
 | succ i =>
  have hsm : ((i + 1 : Nat) : Int) - 1 = (i : Int) := by omega
  have h0 : decide ((0 : Int) ≤ (i : Int)) = true := by rw [decide_eq_true_eq]; omega
  have hwi : IntKind.i64.wrap ((i : Int) - 1) = (i : Int) - 1 := by rw [w64 (by omega)]
  have hil : i < l.length := by omega
  obtain ⟨x, hx⟩ : ∃ x, l[i]? = some x := ⟨l[i], List.getElem?_eq_getElem hil⟩
  have hx' := get_map encVal hx
  have hc := refCons_c x w
  have hd : listV (l.drop i) = consVal x w := by
   rw [hw, List.drop_eq_getElem_cons hil, (List.getElem?_eq_some_iff.1 hx).2]; rfl
  have hc2 : PC zP 31 [.st (encVal x), .st [.int .i64 w.kind, .int .i64 w.num, .str w.text, .sl 7 (w.kids.map encVal), .sl 2 (w.keys.map encKey), .sl 9 (w.ents.map encEnt), .sl 1 (w.labels.map Sx.encStr)]] (.st (encVal (consVal x w))) := by rw [← encVal_eq w]; exact hc
  rw [encVal_eq (consVal x w)] at hc2
  simp only [hsm]
  refine sts ?_
  repeat' (first | (simp only [go_sem, zA, zB, zC, zD, zE, zF, zG, reduceCtorEq, zH, zI, zJ, zK, zL, h0, hwi, List.length_map]; all_goals refine nf ?_) | (refine stp ?_; intro K hK) | (apply hK; clear hK K) | refine stn ?_ | (with_reducible first | refine ⟨(by omega : _ ≤ _), encVal x, hx', ?_⟩ | refine ⟨_, hc2, ?_⟩) | (with_reducible refine AWP.segP (id := 5) 6 mixed (by kernel_rfl) fun K hK => ?_; simp only [List.take_succ_cons, List.take_zero, List.drop_succ_cons, List.drop_zero]) | (clear hK K))
  all_goals (refine ⟨(i, consVal x w), by simp only; omega, ⟨by simp only; omega, by simp only; rw [hd]⟩, Gh.tt []⟩)
theorem ints1_c : PC zP 33 [.one (.dat (.sl 2 [[.int .i64 0, .int .i64 9]]))] (Yp (intsT [⟨0, 9⟩])) := ints_c [⟨0, 9⟩] (fun r hr => by simp only [List.mem_singleton] at hr; subst hr; unfold In6; decide) (by simp)
def awT : TyD := ([headN 16 [1, 2], kindN 9, headN 12 [3, 0], headN 16 [4], intN 0 9], 0)
theorem nf1 : nf [⟨0, 9⟩] = [⟨0, 9⟩] := by decide
theorem ints1 : intsT [⟨0, 9⟩] = ([headN 16 [1], intN 0 9], 0) := by
  unfold intsT
  rw [nf1]
  decide
theorem awT_eq : listT (intsT [⟨0, 9⟩]) = awT := by
  rw [ints1]
  decide
theorem awT_wf : wfP awT.1 0 = 0 := by decide
theorem awT_sm : TSm awT.1 := by
  refine ⟨by decide, fun x hx => ?_, fun x hx => ?_⟩ <;> (simp only [awT, List.mem_cons, List.not_mem_nil, or_false] at hx; rcases hx with rfl | rfl | rfl | rfl | rfl <;> simp [headN, kindN, intN])
theorem awT_mem (n : Int) : memV awT.1 (listV [intVal n]) 0 = (decide (0 ≤ n) && decide (n ≤ 9)) := by
  obtain ⟨R, hR⟩ := Wf.of awT_wf
  have e0 : ∀ v, memV awT.1 v 0 = (memV awT.1 v 1 || (memV awT.1 v 2 || false)) := fun v => by rw [memV_eq hR (by decide)]; rfl
  have e1 : ∀ v : Val, memV awT.1 v 1 = decide (v.kind = 5) := fun v => by rw [memV_eq hR (by decide)]; rfl
  have e2 : ∀ v : Val, memV awT.1 v 2 = (decide (v.kind = 7) && memsB (memV awT.1) v.kids [3, 0]) := fun v => by rw [memV_eq hR (by decide)]; rfl
  have e3 : ∀ v, memV awT.1 v 3 = (memV awT.1 v 4 || false) := fun v => by rw [memV_eq hR (by decide)]; rfl
  have e4 : ∀ v : Val, memV awT.1 v 4 = (decide (v.kind = 1) && (decide (0 ≤ v.num) && decide (v.num ≤ 9))) := fun v => by rw [memV_eq hR (by decide)]; rfl
  simp [listV, consVal, nilVal, intVal, memsB, e0, e1, e2, e3, e4]
theorem tree_int (n : Int) : treeB (intVal n) = true := by rw [tree_nokids _ rfl rfl]; simp [nodeB, kKnown, badFields, bodyB, kNum, kText, kKids, kKeys, kEnts, intVal, show labelsB [] = true from rfl]
theorem tree_list1 (n : Int) : treeB (listV [intVal n]) = true := by
  rw [listV, listV, tree_cons _ _ (.inl rfl), tree_int, tree_nil]; rfl
theorem member_e (v : Val) (l : List NodeD) (r : Int) (hsm : TSm l) : PC zP 14 [.st [.int .i64 v.kind, .int .i64 v.num, .str v.text, .sl 7 (v.kids.map encVal), .sl 2 (v.keys.map encKey), .sl 9 (v.ents.map encEnt), .sl 1 (v.labels.map Sx.encStr)], .st [.sl 8 (l.map encNode), .int .i64 r]] (Bo (memOf v l r r)) := by
  rw [← encVal_eq]; exact member_c v l r hsm
theorem awake7_c : PC zP 9 [] (Bo true) := by
 have c1 : PC zP 33 [.one (.dat (.sl 2 [[.int .i64 0, .int .i64 9]]))] (Yp (intsT [⟨0, 9⟩])) := ints1_c
 have c2 : PC zP 38 [Yp (intsT [⟨0, 9⟩])] (.st [.sl 8 (awT.1.map encNode), .int .i64 0]) := by
  have := listOf_c (intsT [⟨0, 9⟩]) (by rw [ints1]; exact ⟨by simp, fun x hx => by simp only [List.mem_cons, List.not_mem_nil, or_false] at hx; rcases hx with rfl | rfl <;> simp [headN, intN], fun x hx => by simp only [List.mem_cons, List.not_mem_nil, or_false] at hx; rcases hx with rfl | rfl <;> simp [headN, intN]⟩)
  rw [awT_eq] at this
  exact this
 have c3 : PC zP 22 [.st [.sl 8 [[.int .i64 18, .int .i64 0, .int .i64 0, .str [], .sl 1 [[.int .i64 0]], .sl 4 [], .int .i64 0, .int .i64 0]], .int .i64 0]] (I .i64 3) := by
  have := wellFormed_c [headN 18 [0]] 0 ⟨by simp, fun x hx => by simp only [List.mem_singleton] at hx; subst hx; simp [headN], fun x hx => by simp only [List.mem_singleton] at hx; subst hx; simp [headN]⟩
  rw [show wfP [headN 18 [0]] 0 = 3 by decide] at this
  exact this
 obtain ⟨v, hv⟩ : ∃ v, v = listV [intVal 3] := ⟨_, rfl⟩
 obtain ⟨w, hw⟩ : ∃ w, w = listV [intVal 10] := ⟨_, rfl⟩
 have c4 : PC zP 32 [.one (.dat (.sl 7 [encVal (intVal 3)]))] (.st [.int .i64 v.kind, .int .i64 v.num, .str v.text, .sl 7 (v.kids.map encVal), .sl 2 (v.keys.map encKey), .sl 9 (v.ents.map encEnt), .sl 1 (v.labels.map Sx.encStr)]) := by rw [← encVal_eq, hv]; exact refList_c [intVal 3] (by simp)
 have c5 : PC zP 32 [.one (.dat (.sl 7 [encVal (intVal 10)]))] (.st [.int .i64 w.kind, .int .i64 w.num, .str w.text, .sl 7 (w.kids.map encVal), .sl 2 (w.keys.map encKey), .sl 9 (w.ents.map encEnt), .sl 1 (w.labels.map Sx.encStr)]) := by rw [← encVal_eq, hw]; exact refList_c [intVal 10] (by simp)
 have c6 := member_e v awT.1 0 awT_sm
 have c7 := member_e w awT.1 0 awT_sm
 have m6 : memOf v awT.1 0 0 = true := by
  unfold memOf
  rw [awT_wf, hv, tree_list1, awT_mem]; decide
 have m7 : memOf w awT.1 0 0 = false := by
  unfold memOf
  rw [awT_wf, hw, tree_list1, awT_mem]; decide
 rw [m6] at c6
 rw [m7] at c7
 have c8 : PC zP 43 [.st [.sl 8 (awT.1.map encNode), .int .i64 0]] (Bo true) := by
  have := isGround_c awT.1 0 awT_sm
  rw [show varsT awT.1 0 = [] by decide] at this
  exact this
 obtain ⟨L, hL⟩ : ∃ L, L = awT.1.map encNode := ⟨_, rfl⟩
 rw [← hL] at c2 c6 c7 c8
 clear hv hw hL m6 m7
 refine PCB.ob Tryz.func9 Tryz.ntmps9 Tryz.results9 ?_
 repeat' (first | (simp only [go_sem, zA, zB, zC, zD, zE, zF, zG, reduceCtorEq, zH, zI, zJ, zK, zL]; all_goals refine nf ?_) | (refine stp ?_; intro K hK) | (apply hK; clear hK K) | refine stn ?_ | (with_reducible first | refine ⟨_, c1, ?_⟩ | refine ⟨_, c2, ?_⟩ | refine ⟨_, c3, ?_⟩ | refine ⟨_, c4, ?_⟩ | refine ⟨_, c5, ?_⟩ | refine ⟨_, c6, ?_⟩ | refine ⟨_, c7, ?_⟩ | refine ⟨_, c8, ?_⟩ | refine ⟨_, refInt_c _, ?_⟩) | refine stq ?_ | fail)
 all_goals (first | exact fun _ h => absurd h List.not_mem_nil | (refine fin0 ?_; rfl))
end Go.Proofs.YthbcdhfiibpeaaaGreat
namespace Go.Proofs.YthbcdhfiibpeaaaGreat
open Go Go.Sx
def srcL (l : List Int) : Src := ⟨l, 0⟩
def drawnT (l : List Int) : List NodeD := (typeV (1 + nextV (srcL l) 7).toNat (nextS (srcL l) 7)).1
def drawnV (l m : List Int) : Val := (NearV (drawnT l) 4 0 (srcL m)).1
theorem drawn_n (l : List Int) : 1 ≤ (1 + nextV (srcL l) 7).toNat ∧ (1 + nextV (srcL l) 7).toNat ≤ 7 := by
  have := nextV_in (srcL l) (n := 7) (by omega)
  omega
theorem drawn_len (l : List Int) : (drawnT l).length = (1 + nextV (srcL l) 7).toNat := typeV_len _ _
theorem drawn_good (l : List Int) (j : Nat) (x : NodeD) (h : (drawnT l)[j]? = some x) : GoodN (drawnT l).length j x := by
  have hn := drawn_n l
  rw [drawn_len]
  exact typeV_good _ (by omega) _ j x h
theorem drawn_wf (l : List Int) : wfP (drawnT l) 0 = 0 := by have hn := drawn_n l; exact typeV_wf _ (by omega) _
theorem drawn_sm (l : List Int) : TSm (drawnT l) := by have hn := drawn_n l; exact typeV_sm _ (by omega) _
theorem drawn_le (l : List Int) : 1 ≤ (drawnT l).length ∧ (drawnT l).length ≤ 7 := by rw [drawn_len]; exact drawn_n l
theorem drawn_c (l m : List Int) (hl : (srcL l).ok) (hm : (srcL m).ok) : PC zP 10 [.one (.dat (.sl 1 (l.map encInt))), .one (.dat (.sl 1 (m.map encInt)))] (.tup [Tt (drawnT l) 0, Vt (drawnV l m)]) := by
 have h7 := nextV_in (srcL l) (n := 7) (by omega)
 have hn := drawn_n l
 obtain ⟨n, hne⟩ : ∃ n, n = (1 + nextV (srcL l) 7).toNat := ⟨_, rfl⟩
 have hw : IntKind.i64.wrap (1 + nextV (srcL l) 7) = (n : Int) := by rw [w64 (by omega)]; omega
 have hs1 := ok_next hl 7
 have hT := PCBk.mk 11 (typeG_c _ hs1 n (by omega))
 have hle := drawn_le l
 have hT2 : PCBk zP 44 [Sp 11, I .i64 n] 11 (srcB (nextS (srcL l) 7)) (.st [.sl 8 ((drawnT l).map encNode), .int .i64 0]) (srcB (typeV n (nextS (srcL l) 7)).2) := by
  unfold drawnT; rw [← hne]; exact hT
 have hN := (Near_c (l := drawnT l) 0 (by omega) (drawn_good l) 4 (by omega)).k 19 0 (srcL m) hm (by omega) (by omega)
 have hN0 := next_k 11 (srcL l) hl 7 (by omega)
 refine PCB.ob Tryz.func10 Tryz.ntmps10 Tryz.results10 ?_
 repeat' (first | (simp only [go_sem, zA, zB, zC, zD, zE, zF, zG, reduceCtorEq, zH, zI, zJ, zK, zL, List.length_map, hw]; all_goals refine nf ?_) | (refine stp ?_; intro K hK) | (apply hK; clear hK K) | refine stn ?_ | (refine ⟨11, _, _, _, hN0, rfl, ?_⟩) | (refine ⟨11, _, _, _, hT2, rfl, ?_⟩) | (refine ⟨19, _, _, _, hN, rfl, ?_⟩) | (with_reducible refine AWP.genR (id := 4) [5,6,7] [19,4,5] mixed (by kernel_rfl) fun K hK => ?_; simp only [Bx.outs, Bx.drop, cond_true, cond_false, Nat.reduceBEq, go_sem]) | refine stq ?_ | fail)
 all_goals (refine fin0 ?_; rfl)
end Go.Proofs.YthbcdhfiibpeaaaGreat



