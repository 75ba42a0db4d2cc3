/- Lemmas; conditions: as each states. -/
import Derived.Test.YtajfdbdklphonaaGreatDm8b
open Go.Proofs.Tryz renaming prog → zP
open List renaming length_map → lB, mem_of_getElem? → lP
open Go.Sx.AWP renaming len → xF
open Nat renaming reduceBEq → zA, reduceBNe → zB, reduceAdd → zC, reduceSub → zD, reduceMul → zE, reduceLeDiff → zF, reduceLT → zG, reduceEqDiff → zH
open Int renaming reduceToNat → zI, reduceLE → zJ, reduceLT → zK, reduceEq → zL
set_option linter.unusedVariables false
set_option linter.unusedSimpArgs false
set_option maxRecDepth 20000
set_option maxHeartbeats 1000000
namespace Go.Proofs.YtajfdbdklphonaaGreat
open Go Go.Sx
theorem cmpString_c (a b : List UInt8) : PC zP 161 [S a, S b] (I .i64 (Lib.compareBytes a b)) := by
 refine ⟨⟨_, Tryz.func161, rfl, rfl⟩, fun M ν w vs hs hr => ?_⟩
 simp only [T.reps, T.rep, Cell.rep, C.rep] at hr
 obtain ⟨v1, vs1, rfl, rfl, v2, vs2, rfl, rfl, rfl⟩ := hr
 refine Calls.mono (cmpString_calls ⟨a.toArray⟩ ⟨b.toArray⟩ w) ?_
 rintro e w' ⟨rfl, rfl⟩
 exact ⟨_, M, rfl, Mem.ext.refl _ M, by simp only [T.rep, Cell.rep, C.rep], hs⟩
theorem stringsCompare_c (a b : List UInt8) : PC zP 134 [S a, S b] (I .i64 (Lib.compareBytes a b)) := by
 refine PCB.ob Tryz.func134 Tryz.ntmps134 Tryz.results134 ?_
 repeat' (first | (simp only [go_sem, zA, zB, zC, zD, zE, zF, zG, reduceCtorEq, zH, zI, zJ, zK, zL] <;> refine nf ?_) | (refine stp ?_; intro K hK) | (apply hK; clear hK K) | refine stn ?_ | (with_reducible refine ⟨_, cmpString_c _ _, ?_⟩) | refine stq ?_ | fail)
 all_goals (first | exact nn | refine fin0 ?_)
 all_goals rfl
theorem cmpB_zero : ∀ {a b : List UInt8}, Lib.compareBytes a b = 0 ↔ a = b
 | [], [] => by simp [Lib.compareBytes]
 | [], _ :: _ => by simp [Lib.compareBytes]
 | _ :: _, [] => by simp [Lib.compareBytes]
 | x :: a, y :: b => by
  unfold Lib.compareBytes
  by_cases h1 : x < y
  ·simp only [h1, if_true]
   constructor
   ·intro h; cases h
   ·intro h; cases h; exact absurd h1 (by simp)
  ·by_cases h2 : y < x
   ·simp only [h1, h2, if_true, if_false]
    constructor
    ·intro h; cases h
    ·intro h; cases h; exact absurd h2 (by simp)
   ·have hxy : x = y := UInt8.le_antisymm (UInt8.not_lt.1 h2) (UInt8.not_lt.1 h1)
    subst hxy
    have ih := @cmpB_zero a b
    simp only [h1, if_false, ih, List.cons.injEq, true_and]
def chainC (a b : Int) : Int := bif decide (a = 0) then b else a
theorem chainC_zero {a b : Int} : chainC a b = 0 ↔ a = 0 ∧ b = 0 := by
 unfold chainC
 by_cases h : a = 0 <;> simp [h]
def keyC (a b : KeyD) : Int := chainC (cmpI a.kind b.kind) (Lib.compareBytes a.text b.text)
theorem identCompareKeys_c (a b : KeyD) : PC zP 136 [.st (encKey a), .st (encKey b)] (I .i64 (keyC a b)) := by
 refine PCB.ob Tryz.func136 Tryz.ntmps136 Tryz.results136 ?_
 cases hz0 : decide (cmpI a.kind b.kind = 0)
 repeat' (first | (simp only [go_sem, zA, zB, zC, zD, zE, zF, zG, reduceCtorEq, zH, zI, zJ, zK, zL, encKey, hz0] <;> refine nf ?_) | (refine stp ?_; intro K hK) | (apply hK; clear hK K) | refine stn ?_ | (with_reducible first | refine ⟨_, cmpInt_c _ _, ?_⟩ | refine ⟨_, stringsCompare_c _ _, ?_⟩) | refine stq ?_ | (clear hK K))
 all_goals (refine fin0 ?_; simp only [keyC, chainC, hz0, cond_true, cond_false])
mutual
def valC : Val → Val → Int
  | ⟨kind, num, text, kids, keys, ents, labels⟩, b => chainC (cmpI kind b.kind) (chainC (cmpI num b.num) (chainC (Lib.compareBytes text b.text) (chainC (listCmp keyC keys b.keys) (chainC (bif decide (cmpI kids.length b.kids.length = 0) then valsC kids b.kids else cmpI kids.length b.kids.length)
      (chainC (bif decide (cmpI ents.length b.ents.length = 0) then entsC ents b.ents else cmpI ents.length b.ents.length) (listCmp Lib.compareBytes labels b.labels))))))
def valsC : List Val → List Val → Int
 | [], _ => 0
 | x :: a, l => match l with
  | [] => 0
  | y :: b => bif decide (valC x y = 0) then valsC a b else valC x y
def entC : List Val × Bool × Val → List Val × Bool × Val → Int
 | (args, fails, result), e => chainC (bif decide (cmpI args.length e.1.length = 0) then valsC args e.1 else cmpI args.length e.1.length) (bif (fails == e.2.1) then valC result e.2.2 else (bif fails then -1 else 1))
def entsC : List (List Val × Bool × Val) → List (List Val × Bool × Val) → Int
 | [], _ => 0
 | x :: a, l => match l with
  | [] => 0
  | y :: b => bif decide (entC x y = 0) then entsC a b else entC x y
end
theorem valsC_eq : ∀ a b : List Val, valsC a b = firstC valC a b
 | [], b => by cases b <;> simp only [valsC, entsC, firstC]
 | x :: a, [] => by simp only [valsC, firstC]
 | x :: a, y :: b => by simp only [valsC, firstC, valsC_eq a b]
theorem entsC_eq : ∀ a b : List (List Val × Bool × Val), entsC a b = firstC entC a b
 | [], b => by cases b <;> simp only [valsC, entsC, firstC]
 | x :: a, [] => by simp only [entsC, firstC]
 | x :: a, y :: b => by simp only [entsC, firstC, entsC_eq a b]
theorem valC_eq (a b : Val) : valC a b = chainC (cmpI a.kind b.kind) (chainC (cmpI a.num b.num) (chainC (Lib.compareBytes a.text b.text) (chainC (listCmp keyC a.keys b.keys) (chainC (listCmp valC a.kids b.kids) (chainC (listCmp entC a.ents b.ents) (listCmp Lib.compareBytes a.labels b.labels)))))) := by
 cases a; simp only [valC, valsC_eq, entsC_eq, listCmp]
theorem entC_eq (a b : List Val × Bool × Val) : entC a b = chainC (listCmp valC a.1 b.1) (bif (a.2.1 == b.2.1) then valC a.2.2 b.2.2 else (bif a.2.1 then -1 else 1)) := by
 obtain ⟨x, y, z⟩ := a; simp only [entC, valsC_eq, listCmp]
theorem compareValues_c (a b : List Val) (h : ∀ x ∈ a, ∀ y, PC zP 97 [.st (encVal x), .st (encVal y)] (I .i64 (valC x y))) :
    PC zP 137 [.one (.dat (.sl 7 (a.map encVal))), .one (.dat (.sl 7 (b.map encVal)))] (I .i64 (listCmp valC a b)) := by
  refine PCB.ob Tryz.func137 Tryz.ntmps137 Tryz.results137 ?_
  repeat' (first | (simp only [go_sem, zA, zB, zC, zD, zE, zF, zG, reduceCtorEq, zH, zI, zJ, zK, zL] <;> refine nf ?_) | (refine stp ?_; intro K hK) | (apply hK; clear hK K) | refine stn ?_ | (with_reducible refine ⟨_, cmpVals_c 97 valC a b (fun x hx y _ => h x hx y), ?_⟩) | refine stq ?_ | fail)
  all_goals (first | exact nn | refine fin0 ?_)
  all_goals rfl
theorem compareEntries_c (a b : List Val × Bool × Val) (h : ∀ x ∈ a.1, ∀ y, PC zP 97 [.st (encVal x), .st (encVal y)] (I .i64 (valC x y))) (h2 : ∀ y, PC zP 97 [.st (encVal a.2.2), .st (encVal y)] (I .i64 (valC a.2.2 y))) :
    PC zP 139 [.st (encEnt a), .st (encEnt b)] (I .i64 (entC a b)) := by
  refine PCB.ob Tryz.func139 Tryz.ntmps139 Tryz.results139 ?_
  have h3 := h2 b.2.2
  rw [encVal_eq, encVal_eq] at h3
  cases h0 : decide (listCmp valC a.1 b.1 = 0)
  ·
    repeat' (first | (simp only [go_sem, zA, zB, zC, zD, zE, zF, zG, reduceCtorEq, zH, zI, zJ, zK, zL, encEnt_eq, h0] <;> refine nf ?_) | (refine stp ?_; intro K hK) | (apply hK; clear hK K) | refine stn ?_ | (with_reducible refine ⟨_, compareValues_c a.1 b.1 h, ?_⟩) | refine stq ?_ | (clear hK K))
    all_goals (refine fin0 ?_; simp only [entC_eq, chainC, h0, cond_true, cond_false])
  cases hd : (a.2.1 == b.2.1)
  · cases hf : a.2.1
    ·
      rw [hf] at hd
      repeat' (first | (simp only [go_sem, zA, zB, zC, zD, zE, zF, zG, reduceCtorEq, zH, zI, zJ, zK, zL, encEnt_eq, h0, hd, hf] <;> refine nf ?_) | (refine stp ?_; intro K hK) | (apply hK; clear hK K) | refine stn ?_ | (with_reducible refine ⟨_, compareValues_c a.1 b.1 h, ?_⟩) | refine stq ?_ | (clear hK K))
      all_goals (refine fin0 ?_; simp only [entC_eq, chainC, h0, hd, hf, cond_true, cond_false, Bool.not_true, Bool.not_false])
    ·
      rw [hf] at hd
      repeat' (first | (simp only [go_sem, zA, zB, zC, zD, zE, zF, zG, reduceCtorEq, zH, zI, zJ, zK, zL, encEnt_eq, h0, hd, hf] <;> refine nf ?_) | (refine stp ?_; intro K hK) | (apply hK; clear hK K) | refine stn ?_ | (with_reducible refine ⟨_, compareValues_c a.1 b.1 h, ?_⟩) | refine stq ?_ | (clear hK K))
      all_goals (refine fin0 ?_; simp only [entC_eq, chainC, h0, hd, hf, cond_true, cond_false, Bool.not_true, Bool.not_false])
  ·
    repeat' (first | (simp only [go_sem, zA, zB, zC, zD, zE, zF, zG, reduceCtorEq, zH, zI, zJ, zK, zL, encEnt_eq, h0, hd] <;> refine nf ?_) | (refine stp ?_; intro K hK) | (apply hK; clear hK K) | refine stn ?_ | (with_reducible first | refine ⟨_, compareValues_c a.1 b.1 h, ?_⟩ | refine ⟨_, h3, ?_⟩) | refine stq ?_ | fail)
    all_goals (refine fin0 ?_; simp only [entC_eq, chainC, h0, hd, cond_true, cond_false, Bool.not_true, Bool.not_false])
theorem compare_c (a b : Val) : PC zP 97 [.st (encVal a), .st (encVal b)] (I .i64 (valC a b)) := by
 have hk : ∀ x ∈ a.kids, ∀ y, PC zP 97 [.st (encVal x), .st (encVal y)] (I .i64 (valC x y)) := fun x hx y => compare_c x y
 have he : ∀ e ∈ a.ents, ∀ y, PC zP 139 [.st (encEnt e), .st (encEnt y)] (I .i64 (entC e y)) := fun e he y => compareEntries_c e y (fun x hx y => compare_c x y) (fun y => compare_c e.2.2 y)
 refine PCB.ob Tryz.func97 Tryz.ntmps97 Tryz.results97 ?_
 cases z1 : decide (cmpI a.kind b.kind = 0)
 ·
  repeat' (first | (simp only [go_sem, zA, zB, zC, zD, zE, zF, zG, reduceCtorEq, zH, zI, zJ, zK, zL, encVal_eq, z1] <;> refine nf ?_) | (refine stp ?_; intro K hK) | (apply hK; clear hK K) | refine stn ?_ | (with_reducible refine ⟨_, cmpInt_c _ _, ?_⟩) | refine stq ?_ | (clear hK K))
  all_goals (refine fin0 ?_; simp only [valC_eq, chainC, z1, cond_true, cond_false])
 cases z2 : decide (cmpI a.num b.num = 0)
 ·
  repeat' (first | (simp only [go_sem, zA, zB, zC, zD, zE, zF, zG, reduceCtorEq, zH, zI, zJ, zK, zL, encVal_eq, z1, z2] <;> refine nf ?_) | (refine stp ?_; intro K hK) | (apply hK; clear hK K) | refine stn ?_ | (with_reducible first | refine ⟨_, cmpInt_c _ _, ?_⟩ | refine ⟨_, cmpInt64_c _ _, ?_⟩) | refine stq ?_ | (clear hK K))
  all_goals (refine fin0 ?_; simp only [valC_eq, chainC, z1, z2, cond_true, cond_false])
 cases z3 : decide (Lib.compareBytes a.text b.text = 0)
 ·
  repeat' (first | (simp only [go_sem, zA, zB, zC, zD, zE, zF, zG, reduceCtorEq, zH, zI, zJ, zK, zL, encVal_eq, z1, z2, z3] <;> refine nf ?_) | (refine stp ?_; intro K hK) | (apply hK; clear hK K) | refine stn ?_ | (with_reducible first | refine ⟨_, cmpInt_c _ _, ?_⟩ | refine ⟨_, cmpInt64_c _ _, ?_⟩ | refine ⟨_, stringsCompare_c _ _, ?_⟩) | refine stq ?_ | (clear hK K))
  all_goals (refine fin0 ?_; simp only [valC_eq, chainC, z1, z2, z3, cond_true, cond_false])
 cases z4 : decide (listCmp keyC a.keys b.keys = 0)
 ·
  repeat' (first | (simp only [go_sem, zA, zB, zC, zD, zE, zF, zG, reduceCtorEq, zH, zI, zJ, zK, zL, encVal_eq, z1, z2, z3, z4] <;> refine nf ?_) | (refine stp ?_; intro K hK) | (apply hK; clear hK K) | refine stn ?_ | (with_reducible first | refine ⟨_, cmpInt_c _ _, ?_⟩ | refine ⟨_, cmpInt64_c _ _, ?_⟩ | refine ⟨_, stringsCompare_c _ _, ?_⟩ | refine ⟨_, cmpKeys_c 136 keyC a.keys b.keys (fun x _ y _ => identCompareKeys_c x y), ?_⟩) | refine stq ?_ | (clear hK K))
  all_goals (refine fin0 ?_; simp only [valC_eq, chainC, z1, z2, z3, z4, cond_true, cond_false])
 cases z5 : decide (listCmp valC a.kids b.kids = 0)
 ·
  repeat' (first | (simp only [go_sem, zA, zB, zC, zD, zE, zF, zG, reduceCtorEq, zH, zI, zJ, zK, zL, encVal_eq, z1, z2, z3, z4, z5] <;> refine nf ?_) | (refine stp ?_; intro K hK) | (apply hK; clear hK K) | refine stn ?_ | (with_reducible first | refine ⟨_, cmpInt_c _ _, ?_⟩ | refine ⟨_, cmpInt64_c _ _, ?_⟩ | refine ⟨_, stringsCompare_c _ _, ?_⟩ | refine ⟨_, cmpKeys_c 136 keyC a.keys b.keys (fun x _ y _ => identCompareKeys_c x y), ?_⟩ | refine ⟨_, compareValues_c a.kids b.kids hk, ?_⟩) | refine stq ?_ | (clear hK K))
  all_goals (refine fin0 ?_; simp only [valC_eq, chainC, z1, z2, z3, z4, z5, cond_true, cond_false])
 cases z6 : decide (listCmp entC a.ents b.ents = 0)
 ·
  repeat' (first | (simp only [go_sem, zA, zB, zC, zD, zE, zF, zG, reduceCtorEq, zH, zI, zJ, zK, zL, encVal_eq, z1, z2, z3, z4, z5, z6] <;> refine nf ?_) | (refine stp ?_; intro K hK) | (apply hK; clear hK K) | refine stn ?_ | (with_reducible first | refine ⟨_, cmpInt_c _ _, ?_⟩ | refine ⟨_, cmpInt64_c _ _, ?_⟩ | refine ⟨_, stringsCompare_c _ _, ?_⟩ | refine ⟨_, cmpKeys_c 136 keyC a.keys b.keys (fun x _ y _ => identCompareKeys_c x y), ?_⟩ | refine ⟨_, compareValues_c a.kids b.kids hk, ?_⟩ | refine ⟨_, cmpEnts_c 139 entC a.ents b.ents (fun x hx y _ => he x hx y), ?_⟩) | refine stq ?_ | (clear hK K))
  all_goals (refine fin0 ?_; simp only [valC_eq, chainC, z1, z2, z3, z4, z5, z6, cond_true, cond_false])
 repeat' (first | (simp only [go_sem, zA, zB, zC, zD, zE, zF, zG, reduceCtorEq, zH, zI, zJ, zK, zL, encVal_eq, z1, z2, z3, z4, z5, z6] <;> refine nf ?_) | (refine stp ?_; intro K hK) | (apply hK; clear hK K) | refine stn ?_ | (with_reducible first | refine ⟨_, cmpInt_c _ _, ?_⟩ | refine ⟨_, cmpInt64_c _ _, ?_⟩ | refine ⟨_, stringsCompare_c _ _, ?_⟩ | refine ⟨_, cmpKeys_c 136 keyC a.keys b.keys (fun x _ y _ => identCompareKeys_c x y), ?_⟩ | refine ⟨_, compareValues_c a.kids b.kids hk, ?_⟩ | refine ⟨_, cmpEnts_c 139 entC a.ents b.ents (fun x hx y _ => he x hx y), ?_⟩ | refine ⟨_, cmpStrs_c 134 Lib.compareBytes a.labels b.labels (fun x _ y _ => stringsCompare_c x y), ?_⟩) | refine stq ?_ | fail)
 all_goals (refine fin0 ?_; simp only [valC_eq, chainC, z1, z2, z3, z4, z5, z6, cond_true, cond_false])
termination_by SizeOf.sizeOf a
decreasing_by
 ·cases a; simp only at hx; have := List.sizeOf_lt_of_mem hx; simp; omega
 ·cases a; simp only at he; have h1 := List.sizeOf_lt_of_mem he; have h2 := List.sizeOf_lt_of_mem hx; obtain ⟨e1, e2, e3⟩ := e; simp at h1 h2 ⊢; omega
 ·cases a; simp only at he; have h1 := List.sizeOf_lt_of_mem he; obtain ⟨e1, e2, e3⟩ := e; simp at h1 ⊢; omega
theorem equal_c (a b : Val) : PC zP 58 [.st (encVal a), .st (encVal b)] (Bo (decide (valC a b = 0))) := by
 refine PCB.ob Tryz.func58 Tryz.ntmps58 Tryz.results58 ?_
 repeat' (first | (simp only [go_sem, zA, zB, zC, zD, zE, zF, zG, reduceCtorEq, zH, zI, zJ, zK, zL] <;> refine nf ?_) | (refine stp ?_; intro K hK) | (apply hK; clear hK K) | refine stn ?_ | (with_reducible refine ⟨_, compare_c a b, ?_⟩) | refine stq ?_ | fail)
 all_goals (first | exact nn | refine fin0 ?_)
 all_goals rfl
end Go.Proofs.YtajfdbdklphonaaGreat
set_option maxRecDepth 20000
set_option maxHeartbeats 4000000
namespace Go.Proofs.YtajfdbdklphonaaGreat
open Go Go.Sx
theorem bytesLess_cmp : ∀ a b : List UInt8, Op.bytesLess a b = decide (Lib.compareBytes a b = -1)
 | [], [] => by simp [Op.bytesLess, Lib.compareBytes]
 | [], _ :: _ => by simp [Op.bytesLess, Lib.compareBytes]
 | _ :: _, [] => by simp [Op.bytesLess, Lib.compareBytes]
 | x :: a, y :: b => by
  have ih := bytesLess_cmp a b
  simp only [Op.bytesLess, Lib.compareBytes]
  by_cases h1 : x < y
  ·simp [h1]
  ·by_cases h2 : y < x
   ·have hne : ¬ x = y := by intro e; subst e; exact h1 h2
    simp [h1, h2, hne]
   ·have hxy : x = y := UInt8.le_antisymm (UInt8.not_lt.1 h2) (UInt8.not_lt.1 h1)
    simp [h1, h2, hxy, ih]
theorem cmpB_range : ∀ a b : List UInt8, Lib.compareBytes a b = -1 ∨ Lib.compareBytes a b = 0 ∨ Lib.compareBytes a b = 1
 | [], [] => by simp [Lib.compareBytes]
 | [], _ :: _ => by simp [Lib.compareBytes]
 | _ :: _, [] => by simp [Lib.compareBytes]
 | x :: a, y :: b => by
  have ih := cmpB_range a b
  simp only [Lib.compareBytes]
  split
  ·simp
  ·split
   ·simp
   ·exact ih
theorem textCmp_eq (a b : List UInt8) : textCmp a b = Lib.compareBytes a b := by
 unfold textCmp
 rw [bytesLess_cmp]
 have hz := @cmpB_zero a b
 rcases cmpB_range a b with h | h | h
 ·simp [h]
 ·have := hz.1 h
  simp [h, this]
  have h2 := (@cmpB_zero b b).2 rfl
  simp [h2]
 ·have : ¬ a = b := fun e => by have := hz.2 e; omega
  simp [h, this]
theorem keyCmp_eq (a b : KeyD) : keyCmp a b = keyC a b := by
 unfold keyCmp keyC chainC
 rw [textCmp_eq]
 have : decide (cmpI a.kind b.kind = 0) = decide (a.kind = b.kind) := by
  rw [← Bool.coe_iff_coe]; simp [cmpI_zero]
 rw [this]
 cases decide (a.kind = b.kind) <;> rfl
theorem refText_c (a b : List UInt8) : PC zP 68 [S a, S b] (I .i64 (Lib.compareBytes a b)) := by
 rw [← textCmp_eq]; exact text_c a b
theorem refOrder_c (a b : Int) : PC zP 67 [I .i64 a, I .i64 b] (I .i64 (cmpI a b)) := order_c a b
theorem refKeys_c (a b : KeyD) : PC zP 38 [.st (encKey a), .st (encKey b)] (I .i64 (keyC a b)) := by
 rw [← keyCmp_eq]; exact compareKeys_c a b
theorem count_c (a b : Int) : PC zP 66 [I .i64 a, I .i64 b] (I .i64 (cmpI a b)) := by
 refine PCB.ob Tryz.func66 Tryz.ntmps66 Tryz.results66 ?_
 repeat' (first | (simp only [go_sem, zA, zB, zC, zD, zE, zF, zG, reduceCtorEq, zH, zI, zJ, zK, zL] <;> refine nf ?_) | (refine stp ?_; intro K hK) | (apply hK; clear hK K) | refine stn ?_ | (with_reducible refine ⟨_, refOrder_c _ _, ?_⟩) | refine stq ?_ | fail)
 all_goals (first | exact nn | refine fin0 ?_)
 all_goals rfl
theorem firstC_step {α : Type} {f : α → α → Int} {a b : List α} {k : Nat} {x y : α} (hx : a[k]? = some x) (hy : b[k]? = some y) :
    firstC f (a.drop k) (b.drop k) = bif decide (f x y = 0) then firstC f (a.drop (k + 1)) (b.drop (k + 1)) else f x y := by
  have h1 := (List.getElem?_eq_some_iff.1 hx)
  have h2 := (List.getElem?_eq_some_iff.1 hy)
  obtain ⟨h1, e1⟩ := h1
  obtain ⟨h2, e2⟩ := h2
  rw [List.drop_eq_getElem_cons h1, List.drop_eq_getElem_cons h2, e1, e2]
  rfl
theorem firstC_end {α : Type} {f : α → α → Int} {a b : List α} : firstC f (a.drop a.length) (b.drop a.length) = 0 := by
 rw [List.drop_length]; exact firstC_nil f _
theorem len_dec {a b : Nat} : decide (cmpI (a : Int) (b : Int) = 0) = decide ((a : Int) = (b : Int)) := by
 rw [← Bool.coe_iff_coe]; simp [cmpI_zero]
theorem refValues_c (a b : List Val) (hh : ∀ x ∈ a, ∀ y, PC zP 36 [.st (encVal x), .st (encVal y)] (I .i64 (valC x y))) :
    PC zP 69 [.one (.dat (.sl 7 (a.map encVal))), .one (.dat (.sl 7 (b.map encVal)))] (I .i64 (listCmp valC a b)) := by
  unfold listCmp
  rw [len_dec]
  refine PCB.ob Tryz.func69 Tryz.ntmps69 Tryz.results69 ?_
  cases hl : decide ((a.length : Int) = (b.length : Int)) with
  | false =>
    repeat' (first | (simp only [go_sem, zA, zB, zC, zD, zE, zF, zG, reduceCtorEq, zH, zI, zJ, zK, zL, lB, hl] <;> refine nf ?_) | (refine stp ?_; intro K hK) | (apply hK; clear hK K) | refine stn ?_ | (with_reducible refine ⟨_, count_c _ _, ?_⟩) | refine stq ?_ | (clear hK K))
    all_goals (first | exact nn | refine fin0 ?_)
    all_goals rfl
  | true =>
    have hlab : a.length = b.length := by have := of_decide_eq_true hl; omega
    repeat' (first | (simp only [go_sem, zA, zB, zC, zD, zE, zF, zG, reduceCtorEq, zH, zI, zJ, zK, zL, lB, hl] <;> refine nf ?_) | (refine stp ?_; intro K hK) | (apply hK; clear hK K) | refine stn ?_ | fail)
    refine xF 0 rfl fun hlen0 => ?_
    (try rw [lB] at hlen0)
    refine AWP.range (S := Unit) (a) encVal (fun k s => (5, I .i64 (k : Nat)) :: []) (fun k s => []) [0, 1] [] (fun k s => firstC valC a b = firstC valC (a.drop k) (b.drop k)) (()) (by refine sts ?_; exact Gh.tt []) ?_ ?_ ?_
    · rfl
    · intro k s x hlt hx hx' hb hok
      refine sts ?_
      obtain ⟨y, hy, hy', _, _⟩ := at_lt (enc := encVal) (show k < b.length by omega)
      rw [firstC_step hx hy] at hok
      cases hz : decide (valC x y = 0) <;> simp only [hz, cond_true, cond_false] at hok
      ·
        repeat' (first | (simp only [go_sem, zA, zB, zC, zD, zE, zF, zG, reduceCtorEq, zH, zI, zJ, zK, zL, lB, hb, hz] <;> refine nf ?_) | (refine stp ?_; intro K hK) | (apply hK; clear hK K) | refine stn ?_ | (with_reducible first | refine ⟨_, hh x (lP hx) y, ?_⟩ | refine ⟨by omega, encVal x, hx', ?_⟩ | refine ⟨by omega, encVal y, hy', ?_⟩) | (refine stp' ?_; intro K hK) | (clear hK K))
        all_goals (refine fin0 ?_; rw [hok])
      ·
        repeat' (first | (simp only [go_sem, zA, zB, zC, zD, zE, zF, zG, reduceCtorEq, zH, zI, zJ, zK, zL, lB, hb, hz] <;> refine nf ?_) | (refine stp ?_; intro K hK) | (apply hK; clear hK K) | refine stn ?_ | (with_reducible first | refine ⟨_, hh x (lP hx) y, ?_⟩ | refine ⟨by omega, encVal x, hx', ?_⟩ | refine ⟨by omega, encVal y, hy', ?_⟩) | (refine stp' ?_; intro K hK) | (clear hK K))
        all_goals (rw [wrap_succ hlt hlen0])
        all_goals (refine ⟨(), ?_, Gh.tt []⟩)
        all_goals exact hok
    · intro s hb hok
      refine sts ?_
      rw [firstC_end] at hok
      repeat' (first | (simp only [go_sem, zA, zB, zC, zD, zE, zF, zG, reduceCtorEq, zH, zI, zJ, zK, zL, lB, hb] <;> refine nf ?_) | (refine stp ?_; intro K hK) | (apply hK; clear hK K) | refine stn ?_ | (clear hK K))
      all_goals (refine fin0 ?_; rw [hok])
theorem refEntries_c (a b : List Val × Bool × Val) (hh : ∀ x ∈ a.1, ∀ y, PC zP 36 [.st (encVal x), .st (encVal y)] (I .i64 (valC x y))) (h2 : ∀ y, PC zP 36 [.st (encVal a.2.2), .st (encVal y)] (I .i64 (valC a.2.2 y))) :
    PC zP 70 [.st (encEnt a), .st (encEnt b)] (I .i64 (entC a b)) := by
  have h3 := h2 b.2.2
  rw [encVal_eq, encVal_eq] at h3
  refine PCB.ob Tryz.func70 Tryz.ntmps70 Tryz.results70 ?_
  cases h0 : decide (listCmp valC a.1 b.1 = 0)
  ·
    repeat' (first | (simp only [go_sem, zA, zB, zC, zD, zE, zF, zG, reduceCtorEq, zH, zI, zJ, zK, zL, encEnt_eq, h0] <;> refine nf ?_) | (refine stp ?_; intro K hK) | (apply hK; clear hK K) | refine stn ?_ | (with_reducible refine ⟨_, refValues_c a.1 b.1 hh, ?_⟩) | refine stq ?_ | (clear hK K))
    all_goals (refine fin0 ?_; simp only [entC_eq, chainC, h0, cond_true, cond_false])
  cases hd : (a.2.1 == b.2.1)
  · cases hf : a.2.1
    ·
      rw [hf] at hd
      repeat' (first | (simp only [go_sem, zA, zB, zC, zD, zE, zF, zG, reduceCtorEq, zH, zI, zJ, zK, zL, encEnt_eq, h0, hd, hf] <;> refine nf ?_) | (refine stp ?_; intro K hK) | (apply hK; clear hK K) | refine stn ?_ | (with_reducible refine ⟨_, refValues_c a.1 b.1 hh, ?_⟩) | refine stq ?_ | (clear hK K))
      all_goals (refine fin0 ?_; simp only [entC_eq, chainC, h0, hd, hf, cond_true, cond_false, Bool.not_true, Bool.not_false])
    ·
      rw [hf] at hd
      repeat' (first | (simp only [go_sem, zA, zB, zC, zD, zE, zF, zG, reduceCtorEq, zH, zI, zJ, zK, zL, encEnt_eq, h0, hd, hf] <;> refine nf ?_) | (refine stp ?_; intro K hK) | (apply hK; clear hK K) | refine stn ?_ | (with_reducible refine ⟨_, refValues_c a.1 b.1 hh, ?_⟩) | refine stq ?_ | (clear hK K))
      all_goals (refine fin0 ?_; simp only [entC_eq, chainC, h0, hd, hf, cond_true, cond_false, Bool.not_true, Bool.not_false])
  ·
    repeat' (first | (simp only [go_sem, zA, zB, zC, zD, zE, zF, zG, reduceCtorEq, zH, zI, zJ, zK, zL, encEnt_eq, h0, hd] <;> refine nf ?_) | (refine stp ?_; intro K hK) | (apply hK; clear hK K) | refine stn ?_ | (with_reducible first | refine ⟨_, refValues_c a.1 b.1 hh, ?_⟩ | refine ⟨_, h3, ?_⟩) | refine stq ?_ | fail)
    all_goals (refine fin0 ?_; simp only [entC_eq, chainC, h0, hd, cond_true, cond_false, Bool.not_true, Bool.not_false])
theorem dec_cmpI {a b : Int} : decide (cmpI a b = 0) = decide (a = b) := by
 rw [← Bool.coe_iff_coe]; simp [cmpI_zero]
theorem dec_cmpB {a b : List UInt8} : decide (Lib.compareBytes a b = 0) = decide (a = b) := by
 rw [← Bool.coe_iff_coe]; simp [cmpB_zero]
theorem refCompare_c (a b : Val) : PC zP 36 [.st (encVal a), .st (encVal b)] (I .i64 (valC a b)) := by
 have hk : ∀ x ∈ a.kids, ∀ y, PC zP 36 [.st (encVal x), .st (encVal y)] (I .i64 (valC x y)) := fun x hx y => refCompare_c x y
 have he : ∀ e ∈ a.ents, ∀ y, PC zP 70 [.st (encEnt e), .st (encEnt y)] (I .i64 (entC e y)) := fun e he y => refEntries_c e y (fun x hx y => refCompare_c x y) (fun y => refCompare_c e.2.2 y)
 have hm := valC_eq a b
 simp only [chainC, listCmp, dec_cmpI, dec_cmpB] at hm
 refine PCB.ob Tryz.func36 Tryz.ntmps36 Tryz.results36 ?_
 cases z1 : decide (a.kind = b.kind)
 ·
  repeat' (first | (simp only [go_sem, zA, zB, zC, zD, zE, zF, zG, reduceCtorEq, zH, zI, zJ, zK, zL, encVal_eq, z1] <;> refine nf ?_) | (refine stp ?_; intro K hK) | (apply hK; clear hK K) | refine stn ?_ | (with_reducible refine ⟨_, count_c _ _, ?_⟩) | refine stq ?_ | (clear hK K))
  all_goals (refine fin0 ?_; simp only [hm, z1, cond_true, cond_false])
 cases z2 : decide (a.num = b.num)
 ·
  repeat' (first | (simp only [go_sem, zA, zB, zC, zD, zE, zF, zG, reduceCtorEq, zH, zI, zJ, zK, zL, encVal_eq, z1, z2] <;> refine nf ?_) | (refine stp ?_; intro K hK) | (apply hK; clear hK K) | refine stn ?_ | (with_reducible refine ⟨_, refOrder_c _ _, ?_⟩) | refine stq ?_ | (clear hK K))
  all_goals (refine fin0 ?_; simp only [hm, z1, z2, cond_true, cond_false])
 cases z3 : decide (a.text = b.text)
 ·
  repeat' (first | (simp only [go_sem, zA, zB, zC, zD, zE, zF, zG, reduceCtorEq, zH, zI, zJ, zK, zL, encVal_eq, z1, z2, z3] <;> refine nf ?_) | (refine stp ?_; intro K hK) | (apply hK; clear hK K) | refine stn ?_ | (with_reducible refine ⟨_, refText_c _ _, ?_⟩) | refine stq ?_ | (clear hK K))
  all_goals (refine fin0 ?_; simp only [hm, z1, z2, z3, cond_true, cond_false])
 cases z4 : decide ((a.keys.length : Int) = (b.keys.length : Int))
 ·
  repeat' (first | (simp only [go_sem, zA, zB, zC, zD, zE, zF, zG, reduceCtorEq, zH, zI, zJ, zK, zL, encVal_eq, z1, z2, z3, z4, lB] <;> refine nf ?_) | (refine stp ?_; intro K hK) | (apply hK; clear hK K) | refine stn ?_ | (with_reducible refine ⟨_, count_c _ _, ?_⟩) | refine stq ?_ | (clear hK K))
  all_goals (refine fin0 ?_; simp only [hm, z1, z2, z3, z4, cond_true, cond_false])
  all_goals (simp only [dec_cmpI, z4, cond_false])
 have l4 : a.keys.length = b.keys.length := by have := of_decide_eq_true z4; omega
 repeat' (first | (simp only [go_sem, zA, zB, zC, zD, zE, zF, zG, reduceCtorEq, zH, zI, zJ, zK, zL, encVal_eq, z1, z2, z3, z4, lB] <;> refine nf ?_) | (refine stp ?_; intro K hK) | (apply hK; clear hK K) | refine stn ?_ | fail)
 refine AWP.lenB 2 4 rfl rfl fun hlen0 => ?_
 (try rw [lB] at hlen0)
 refine AWP.range (S := Unit) (a.keys) encKey (fun k s => (5, I .i64 (k : Nat)) :: []) (fun k s => []) [2, 3] [2, 3] (fun k s => firstC keyC a.keys b.keys = firstC keyC (a.keys.drop k) (b.keys.drop k)) (()) (by refine sts ?_; exact Gh.tt []) ?_ ?_ ?_
 ·rfl
 ·intro k s x hlt hx hx' hb hok
  refine sts ?_
  obtain ⟨y, hy, hy', _, _⟩ := at_lt (enc := encKey) (show k < b.keys.length by omega)
  rw [firstC_step hx hy] at hok
  cases hz : decide (keyC x y = 0) <;> simp only [hz, cond_true, cond_false] at hok
  ·
   repeat' (first | (simp only [go_sem, zA, zB, zC, zD, zE, zF, zG, reduceCtorEq, zH, zI, zJ, zK, zL, encVal_eq, lB, hb, hz] <;> refine nf ?_) | (refine stp ?_; intro K hK) | (apply hK; clear hK K) | refine stn ?_ | (with_reducible first | refine ⟨_, refKeys_c x y, ?_⟩ | refine ⟨by omega, encKey x, hx', ?_⟩ | refine ⟨by omega, encKey y, hy', ?_⟩) | (refine stp' ?_; intro K hK) | (clear hK K))
   all_goals (refine fin0 ?_; simp only [hm, hok, hz, z1, z2, z3, z4, cond_true, cond_false])
  ·
   repeat' (first | (simp only [go_sem, zA, zB, zC, zD, zE, zF, zG, reduceCtorEq, zH, zI, zJ, zK, zL, encVal_eq, lB, hb, hz] <;> refine nf ?_) | (refine stp ?_; intro K hK) | (apply hK; clear hK K) | refine stn ?_ | (with_reducible first | refine ⟨_, refKeys_c x y, ?_⟩ | refine ⟨by omega, encKey x, hx', ?_⟩ | refine ⟨by omega, encKey y, hy', ?_⟩) | (refine stp' ?_; intro K hK) | (clear hK K))
   all_goals (rw [wrap_succ hlt hlen0])
   all_goals (refine ⟨(), ?_, Gh.tt []⟩)
   all_goals exact hok
 intro s0 hb0 hok0
 refine sts ?_
 rw [firstC_end] at hok0
 cases z5 : decide (listCmp valC a.kids b.kids = 0)
 ·
  have z5' := z5
  unfold listCmp at z5'
  rw [len_dec] at z5'
  repeat' (first | (simp only [go_sem, zA, zB, zC, zD, zE, zF, zG, reduceCtorEq, zH, zI, zJ, zK, zL, encVal_eq, z5, hb0, lB] <;> refine nf ?_) | (refine stp ?_; intro K hK) | (apply hK; clear hK K) | refine stn ?_ | (with_reducible refine ⟨_, refValues_c a.kids b.kids hk, ?_⟩) | refine stq ?_ | (clear hK K))
  all_goals (refine fin0 ?_; simp only [hm, z1, z2, z3, z4, hok0, z5', decide_true, cond_true, cond_false, listCmp, len_dec])
 have z5' := z5
 unfold listCmp at z5'
 rw [len_dec] at z5'
 cases z6 : decide ((a.ents.length : Int) = (b.ents.length : Int))
 ·
  repeat' (first | (simp only [go_sem, zA, zB, zC, zD, zE, zF, zG, reduceCtorEq, zH, zI, zJ, zK, zL, encVal_eq, z5, z6, hb0, lB] <;> refine nf ?_) | (refine stp ?_; intro K hK) | (apply hK; clear hK K) | refine stn ?_ | (with_reducible first | refine ⟨_, refValues_c a.kids b.kids hk, ?_⟩ | refine ⟨_, count_c _ _, ?_⟩) | refine stq ?_ | (clear hK K))
  all_goals (refine fin0 ?_; simp only [hm, z1, z2, z3, z4, hok0, z5', z6, decide_true, cond_true, cond_false, dec_cmpI])
 have l6 : a.ents.length = b.ents.length := by have := of_decide_eq_true z6; omega
 repeat' (first | (simp only [go_sem, zA, zB, zC, zD, zE, zF, zG, reduceCtorEq, zH, zI, zJ, zK, zL, encVal_eq, z5, z6, hb0, lB] <;> refine nf ?_) | (refine stp ?_; intro K hK) | (apply hK; clear hK K) | refine stn ?_ | (with_reducible refine ⟨_, refValues_c a.kids b.kids hk, ?_⟩) | refine stq ?_ | (clear hK K))
 refine AWP.lenB 2 5 rfl rfl fun hlen1 => ?_
 (try rw [lB] at hlen1)
 refine AWP.range (S := Unit) (a.ents) encEnt (fun k s => (8, I .i64 (k : Nat)) :: []) (fun k s => []) [2, 3] [2, 3] (fun k s => firstC entC a.ents b.ents = firstC entC (a.ents.drop k) (b.ents.drop k)) (()) (by refine sts ?_; exact Gh.tt []) ?_ ?_ ?_
 ·rfl
 ·intro k s x hlt hx hx' hb hok
  refine sts ?_
  obtain ⟨y, hy, hy', _, _⟩ := at_lt (enc := encEnt) (show k < b.ents.length by omega)
  rw [firstC_step hx hy] at hok
  cases hz : decide (entC x y = 0) <;> simp only [hz, cond_true, cond_false] at hok
  ·
   repeat' (first | (simp only [go_sem, zA, zB, zC, zD, zE, zF, zG, reduceCtorEq, zH, zI, zJ, zK, zL, encVal_eq, lB, hb, hz] <;> refine nf ?_) | (refine stp ?_; intro K hK) | (apply hK; clear hK K) | refine stn ?_ | (with_reducible first | refine ⟨_, he x (lP hx) y, ?_⟩ | refine ⟨by omega, encEnt x, hx', ?_⟩ | refine ⟨by omega, encEnt y, hy', ?_⟩) | (refine stp' ?_; intro K hK) | (clear hK K))
   all_goals (refine fin0 ?_; simp only [hm, hok, hz, z1, z2, z3, z4, hok0, z5', z6, decide_true, cond_true, cond_false])
  ·
   repeat' (first | (simp only [go_sem, zA, zB, zC, zD, zE, zF, zG, reduceCtorEq, zH, zI, zJ, zK, zL, encVal_eq, lB, hb, hz] <;> refine nf ?_) | (refine stp ?_; intro K hK) | (apply hK; clear hK K) | refine stn ?_ | (with_reducible first | refine ⟨_, he x (lP hx) y, ?_⟩ | refine ⟨by omega, encEnt x, hx', ?_⟩ | refine ⟨by omega, encEnt y, hy', ?_⟩) | (refine stp' ?_; intro K hK) | (clear hK K))
   all_goals (rw [wrap_succ hlt hlen1])
   all_goals (refine ⟨(), ?_, Gh.tt []⟩)
   all_goals exact hok
 intro s1 hb1 hok1
 refine sts ?_
 rw [firstC_end] at hok1
 cases z7 : decide ((a.labels.length : Int) = (b.labels.length : Int))
 ·
  repeat' (first | (simp only [go_sem, zA, zB, zC, zD, zE, zF, zG, reduceCtorEq, zH, zI, zJ, zK, zL, encVal_eq, z7, hb1, lB] <;> refine nf ?_) | (refine stp ?_; intro K hK) | (apply hK; clear hK K) | refine stn ?_ | (with_reducible refine ⟨_, count_c _ _, ?_⟩) | refine stq ?_ | (clear hK K))
  all_goals (refine fin0 ?_; simp only [hm, z1, z2, z3, z4, hok0, z5', z6, hok1, z7, decide_true, cond_true, cond_false])
 have l7 : a.labels.length = b.labels.length := by have := of_decide_eq_true z7; omega
 repeat' (first | (simp only [go_sem, zA, zB, zC, zD, zE, zF, zG, reduceCtorEq, zH, zI, zJ, zK, zL, encVal_eq, z7, hb1, lB] <;> refine nf ?_) | (refine stp ?_; intro K hK) | (apply hK; clear hK K) | refine stn ?_ | (clear hK K))
 refine AWP.lenB 2 6 rfl rfl fun hlen2 => ?_
 (try rw [lB] at hlen2)
 refine AWP.range (S := Unit) (a.labels) encStr (fun k s => (10, I .i64 (k : Nat)) :: []) (fun k s => []) [2, 3] [2, 3] (fun k s => firstC Lib.compareBytes a.labels b.labels = firstC Lib.compareBytes (a.labels.drop k) (b.labels.drop k)) (()) (by refine sts ?_; exact Gh.tt []) ?_ ?_ ?_
 ·rfl
 ·intro k s x hlt hx hx' hb hok
  refine sts ?_
  obtain ⟨y, hy, hy', _, _⟩ := at_lt (enc := encStr) (show k < b.labels.length by omega)
  rw [firstC_step hx hy] at hok
  cases hz : decide (Lib.compareBytes x y = 0) <;> simp only [hz, cond_true, cond_false] at hok
  ·
   repeat' (first | (simp only [go_sem, zA, zB, zC, zD, zE, zF, zG, reduceCtorEq, zH, zI, zJ, zK, zL, encStr, encVal_eq, lB, hb, hz] <;> refine nf ?_) | (refine stp ?_; intro K hK) | (apply hK; clear hK K) | refine stn ?_ | (with_reducible first | refine ⟨_, refText_c x y, ?_⟩ | refine ⟨by omega, encStr x, hx', ?_⟩ | refine ⟨by omega, encStr y, hy', ?_⟩) | (refine stp' ?_; intro K hK) | (clear hK K))
   all_goals (refine fin0 ?_; simp only [hm, hok, hz, z1, z2, z3, z4, hok0, z5', z6, hok1, z7, decide_true, cond_true, cond_false])
  ·
   repeat' (first | (simp only [go_sem, zA, zB, zC, zD, zE, zF, zG, reduceCtorEq, zH, zI, zJ, zK, zL, encStr, encVal_eq, lB, hb, hz] <;> refine nf ?_) | (refine stp ?_; intro K hK) | (apply hK; clear hK K) | refine stn ?_ | (with_reducible first | refine ⟨_, refText_c x y, ?_⟩ | refine ⟨by omega, encStr x, hx', ?_⟩ | refine ⟨by omega, encStr y, hy', ?_⟩) | (refine stp' ?_; intro K hK) | (clear hK K))
   all_goals (rw [wrap_succ hlt hlen2])
   all_goals (refine ⟨(), ?_, Gh.tt []⟩)
   all_goals exact hok
 intro s2 hb2 hok2
 refine sts ?_
 rw [firstC_end] at hok2
 repeat' (first | (simp only [go_sem, zA, zB, zC, zD, zE, zF, zG, reduceCtorEq, zH, zI, zJ, zK, zL, encVal_eq, hb2, lB] <;> refine nf ?_) | (refine stp ?_; intro K hK) | (apply hK; clear hK K) | refine stn ?_ | (clear hK K))
 all_goals (refine fin0 ?_; simp only [hm, z1, z2, z3, z4, hok0, z5', z6, hok1, z7, hok2, decide_true, cond_true, cond_false])
termination_by SizeOf.sizeOf a
decreasing_by
 ·cases a; simp only at hx; have := List.sizeOf_lt_of_mem hx; simp; omega
 ·cases a; simp only at he; have h1 := List.sizeOf_lt_of_mem he; have h2 := List.sizeOf_lt_of_mem hx; obtain ⟨e1, e2, e3⟩ := e; simp at h1 h2 ⊢; omega
 ·cases a; simp only at he; have h1 := List.sizeOf_lt_of_mem he; obtain ⟨e1, e2, e3⟩ := e; simp at h1 ⊢; omega
end Go.Proofs.YtajfdbdklphonaaGreat
