/- Lemmas of the proof. -/
import Derived.Test.YthbcdhfiibpeaaaGreatTy37
open List renaming length_map → lB, mem_singleton → lN
open Nat renaming reduceBEq → zA, reduceBNe → zB, reduceAdd → zC, reduceSub → zD, reduceMul → zE, reduceLeDiff → zF, reduceLT → zG, reduceEqDiff → zH
open Int renaming reduceToNat → zI, reduceLE → zJ, reduceLT → zK, reduceEq → zL
open Bool renaming not_eq_true' → zM, not_eq_false' → zN
set_option linter.unusedSimpArgs false
set_option linter.unusedVariables false
set_option maxRecDepth 20000
set_option maxHeartbeats 64000000
namespace Go.Proofs.YthbcdhfiibpeaaaGreat
open Go Go.Sx
def midV (a b : Int) : Int := IntKind.i64.wrap (a + IntKind.i64.wrap (IntKind.i64.wrap (b.tdiv 2) - IntKind.i64.wrap (a.tdiv 2)))
def threeL (a b : Int) : List Int := [a, b, midV a b]
def consFix : List Val → Val
  | [a, b] => consVal a (bif decide (b.kind = 7) then b else nilVal)
  | l => ⟨7, 0, [], l, [], [], []⟩
def addL (l : List NodeD) (v : Val) (k : Int) : Val := bif decide ((l.getD k.toNat (kindN 1)).kind = 19) then { v with labels := sortedV (v.labels ++ [(l.getD k.toNat (kindN 1)).text]) } else v
def pickK (ks : List Int) (s : Src) : Int := ks.getD (nextV s ks.length).toNat 0
def nearX (l : List NodeD) (g nx : Int → Src → Val × Src) (x : NodeD) (s : Src) : Val × Src :=
  bif decide (x.kind = 3) then (intVal ((threeL x.lo x.hi).getD (nextV s 3).toNat 0), nextS s 3) else
  bif decide (x.kind = 4) then (strVal x.text, s) else
  bif decide (x.kind = 5) then (strVal (wordV s), nextS s 4) else
  bif decide (x.kind = 6) then (atomVal x.text, s) else
  bif decide (x.kind = 7) then (atomVal (atomV s), nextS s 4) else
  bif decide (x.kind = 8) then (pidVal (nextV s 2), nextS s 2) else
  bif decide (x.kind = 9) then (nilVal, s) else
  bif decide (x.kind = 10) then (tupVal (listG g x.kids s).1, (listG g x.kids s).2) else
  bif decide (x.kind = 12) then (consFix (listG g x.kids s).1, (listG g x.kids s).2) else
  bif decide (x.kind = 13) then nearMapV g x s else
  bif decide (x.kind = 14) then nearFunV g x s else
  bif decide (x.kind = 16) then nx (pickK x.kids s) (nextS s x.kids.length) else
  bif decide (x.kind = 17) then (x.kids.foldl (addL l) (nx (pickK x.kids s) (nextS s x.kids.length)).1, (nx (pickK x.kids s) (nextS s x.kids.length)).2) else
  bif decide (x.kind = 19) then ({ (leafV s).1 with labels := sortedV [x.text] }, (leafV s).2) else fullV 2 s
def NearAt (l : List NodeD) (r : Int) (G : Src → Val × Src) (h k : Nat) (s : Src) : Prop :=
  PCB Tryz.prog 81 [Sp pin, Tt l r, I .i64 (k : Int), I .i64 ((h + 1 : Nat) : Int)] [(pin, srcB s)] (Vt (G s).1) [(pin, srcB (G s).2)]
theorem refWithLabels_c (v : Val) (ls : List (List UInt8)) (hl : ls.length ≤ 1000000) : PC Tryz.prog 127 [Vt v, .one (.dat (.sl 1 (ls.map Sx.encStr)))] (Vt { v with labels := sortedV ls }) := by
  refine PCB.ob Tryz.func127 Tryz.ntmps127 Tryz.results127 ?_
  repeat' (first | (simp only [go_sem, zA, zB, zC, zD, zE, zF, zG, reduceCtorEq, zH, zI, zJ, zK, zL, encVal_eq, lB]; all_goals refine nf ?_) | (refine stp ?_; intro K hK) | (apply hK; clear hK K) | refine stn ?_ | (with_reducible refine ⟨_, sorted_c ls hl, ?_⟩) | refine stq ?_ | fail)
  all_goals (refine fin0 ?_; rw [Vt, encVal_eq])
theorem near_k3 (l : List NodeD) (r : Int) (g nx : Int → Src → Val × Src) (h : Nat) (hh : h ≤ 1000) (hlen : l.length ≤ 1000) (x : NodeD) (k : Nat) (hx : l[k]? = some x) (hk : x.kind = 3) (s : Src) (hs : s.ok) : NearAt l r (nearX l g nx x) h k s := by
  have hx' := get_map encNode hx
  have hkl : k < l.length := (List.getElem?_eq_some_iff.1 hx).1
  have hh0 : decide (((h + 1 : Nat) : Int) ≤ 0) = false := by rw [decide_eq_false_iff_not]; omega
  have hk0 : decide ((k : Int) < 0) = false := by rw [decide_eq_false_iff_not]; omega
  have hk1 : decide ((l.length : Int) ≤ (k : Int)) = false := by rw [decide_eq_false_iff_not]; omega
  have h3 := nextV_in s (n := 3) (by omega)
  have hg1 := lit_get (fun x => [C.int .i64 x]) (threeL x.lo x.hi) 0 (v := nextV s 3) ⟨h3.1, by show _ < (3 : Int); omega⟩
  unfold NearAt nearX
  simp only [hk, Int.reduceEq, decide_true, decide_false, cond_true, cond_false]
  refine PCB.ob Tryz.func81 Tryz.ntmps81 Tryz.results81 ?_
  repeat' (first | (simp only [go_sem, zA, zB, zC, zD, zE, zF, zG, reduceCtorEq, zH, zI, zJ, zK, zL, pin, hh0, hk0, hk1, hk, lB, encNode_lit]; all_goals refine nf ?_) | (refine stp ?_; intro K hK) | (apply hK; clear hK K) | refine stn ?_ | (with_reducible first | refine ⟨by omega, encNode x, hx', ?_⟩ | refine ⟨_, refInt_c ((threeL x.lo x.hi).getD (nextV s 3).toNat 0), ?_⟩) | (refine ⟨1000000, _, _, _, next_k 1000000 s hs 3 (by omega), rfl, ?_⟩) | ( refine ⟨by omega, ?_⟩) | ( refine ⟨_, hg1, ?_⟩) | (with_reducible refine AWP.genR (id := 7) [16,20] [1000000,8] mixed (by kernel_rfl) fun K hK => ?_; simp only [Bx.outs, Bx.drop, cond_true, cond_false, Nat.reduceBEq, go_sem]) | (clear hK K))
  all_goals first | exact ⟨rfl, fun x hx => by simp only [lN] at hx; subst hx; simp [pin]⟩ | exact ⟨trivial, fun x hx => by simp only [lN] at hx; subst hx; simp [pin]⟩ | (intro x hx; simp only [lN] at hx; subst hx; simp [pin]) | (refine ⟨by simp only [encVal_eq] <;> rfl, fun x hx => by simp only [lN] at hx; subst hx; simp [pin]⟩) | fail
theorem near_k4 (l : List NodeD) (r : Int) (g nx : Int → Src → Val × Src) (h : Nat) (hh : h ≤ 1000) (hlen : l.length ≤ 1000) (x : NodeD) (k : Nat) (hx : l[k]? = some x) (hk : x.kind = 4) (s : Src) (hs : s.ok) : NearAt l r (nearX l g nx x) h k s := by
  have hx' := get_map encNode hx
  have hkl : k < l.length := (List.getElem?_eq_some_iff.1 hx).1
  have hh0 : decide (((h + 1 : Nat) : Int) ≤ 0) = false := by rw [decide_eq_false_iff_not]; omega
  have hk0 : decide ((k : Int) < 0) = false := by rw [decide_eq_false_iff_not]; omega
  have hk1 : decide ((l.length : Int) ≤ (k : Int)) = false := by rw [decide_eq_false_iff_not]; omega
  unfold NearAt nearX
  simp only [hk, Int.reduceEq, decide_true, decide_false, cond_true, cond_false]
  refine PCB.ob Tryz.func81 Tryz.ntmps81 Tryz.results81 ?_
  repeat' (first | (simp only [go_sem, zA, zB, zC, zD, zE, zF, zG, reduceCtorEq, zH, zI, zJ, zK, zL, pin, hh0, hk0, hk1, hk, lB, encNode_lit]; all_goals refine nf ?_) | (refine stp ?_; intro K hK) | (apply hK; clear hK K) | refine stn ?_ | (with_reducible first | refine ⟨by omega, encNode x, hx', ?_⟩ | refine ⟨_, refString_c x.text, ?_⟩) | refine stq ?_ | (clear hK K))
  all_goals first | exact ⟨rfl, fun x hx => by simp only [lN] at hx; subst hx; simp [pin]⟩ | exact ⟨trivial, fun x hx => by simp only [lN] at hx; subst hx; simp [pin]⟩ | (intro x hx; simp only [lN] at hx; subst hx; simp [pin]) | (refine ⟨by simp only [encVal_eq] <;> rfl, fun x hx => by simp only [lN] at hx; subst hx; simp [pin]⟩) | fail
theorem near_k5 (l : List NodeD) (r : Int) (g nx : Int → Src → Val × Src) (h : Nat) (hh : h ≤ 1000) (hlen : l.length ≤ 1000) (x : NodeD) (k : Nat) (hx : l[k]? = some x) (hk : x.kind = 5) (s : Src) (hs : s.ok) : NearAt l r (nearX l g nx x) h k s := by
  have hx' := get_map encNode hx
  have hkl : k < l.length := (List.getElem?_eq_some_iff.1 hx).1
  have hh0 : decide (((h + 1 : Nat) : Int) ≤ 0) = false := by rw [decide_eq_false_iff_not]; omega
  have hk0 : decide ((k : Int) < 0) = false := by rw [decide_eq_false_iff_not]; omega
  have hk1 : decide ((l.length : Int) ≤ (k : Int)) = false := by rw [decide_eq_false_iff_not]; omega
  unfold NearAt nearX
  simp only [hk, Int.reduceEq, decide_true, decide_false, cond_true, cond_false]
  refine PCB.ob Tryz.func81 Tryz.ntmps81 Tryz.results81 ?_
  repeat' (first | (simp only [go_sem, zA, zB, zC, zD, zE, zF, zG, reduceCtorEq, zH, zI, zJ, zK, zL, pin, hh0, hk0, hk1, hk, lB, encNode_lit]; all_goals refine nf ?_) | (refine stp ?_; intro K hK) | (apply hK; clear hK K) | refine stn ?_ | (with_reducible first | refine ⟨by omega, encNode x, hx', ?_⟩ | refine ⟨_, refString_c (wordV s), ?_⟩) | (refine ⟨1000000, _, _, _, word_k 1000000 s hs, rfl, ?_⟩) | refine stq ?_ | (clear hK K))
  all_goals first | exact ⟨rfl, fun x hx => by simp only [lN] at hx; subst hx; simp [pin]⟩ | exact ⟨trivial, fun x hx => by simp only [lN] at hx; subst hx; simp [pin]⟩ | (intro x hx; simp only [lN] at hx; subst hx; simp [pin]) | (refine ⟨by simp only [encVal_eq] <;> rfl, fun x hx => by simp only [lN] at hx; subst hx; simp [pin]⟩) | fail
theorem near_k6 (l : List NodeD) (r : Int) (g nx : Int → Src → Val × Src) (h : Nat) (hh : h ≤ 1000) (hlen : l.length ≤ 1000) (x : NodeD) (k : Nat) (hx : l[k]? = some x) (hk : x.kind = 6) (s : Src) (hs : s.ok) : NearAt l r (nearX l g nx x) h k s := by
  have hx' := get_map encNode hx
  have hkl : k < l.length := (List.getElem?_eq_some_iff.1 hx).1
  have hh0 : decide (((h + 1 : Nat) : Int) ≤ 0) = false := by rw [decide_eq_false_iff_not]; omega
  have hk0 : decide ((k : Int) < 0) = false := by rw [decide_eq_false_iff_not]; omega
  have hk1 : decide ((l.length : Int) ≤ (k : Int)) = false := by rw [decide_eq_false_iff_not]; omega
  unfold NearAt nearX
  simp only [hk, Int.reduceEq, decide_true, decide_false, cond_true, cond_false]
  refine PCB.ob Tryz.func81 Tryz.ntmps81 Tryz.results81 ?_
  repeat' (first | (simp only [go_sem, zA, zB, zC, zD, zE, zF, zG, reduceCtorEq, zH, zI, zJ, zK, zL, pin, hh0, hk0, hk1, hk, lB, encNode_lit]; all_goals refine nf ?_) | (refine stp ?_; intro K hK) | (apply hK; clear hK K) | refine stn ?_ | (with_reducible first | refine ⟨by omega, encNode x, hx', ?_⟩ | refine ⟨_, refAtomV_c x.text, ?_⟩) | refine stq ?_ | (clear hK K))
  all_goals first | exact ⟨rfl, fun x hx => by simp only [lN] at hx; subst hx; simp [pin]⟩ | exact ⟨trivial, fun x hx => by simp only [lN] at hx; subst hx; simp [pin]⟩ | (intro x hx; simp only [lN] at hx; subst hx; simp [pin]) | (refine ⟨by simp only [encVal_eq] <;> rfl, fun x hx => by simp only [lN] at hx; subst hx; simp [pin]⟩) | fail
theorem near_k7 (l : List NodeD) (r : Int) (g nx : Int → Src → Val × Src) (h : Nat) (hh : h ≤ 1000) (hlen : l.length ≤ 1000) (x : NodeD) (k : Nat) (hx : l[k]? = some x) (hk : x.kind = 7) (s : Src) (hs : s.ok) : NearAt l r (nearX l g nx x) h k s := by
  have hx' := get_map encNode hx
  have hkl : k < l.length := (List.getElem?_eq_some_iff.1 hx).1
  have hh0 : decide (((h + 1 : Nat) : Int) ≤ 0) = false := by rw [decide_eq_false_iff_not]; omega
  have hk0 : decide ((k : Int) < 0) = false := by rw [decide_eq_false_iff_not]; omega
  have hk1 : decide ((l.length : Int) ≤ (k : Int)) = false := by rw [decide_eq_false_iff_not]; omega
  unfold NearAt nearX
  simp only [hk, Int.reduceEq, decide_true, decide_false, cond_true, cond_false]
  refine PCB.ob Tryz.func81 Tryz.ntmps81 Tryz.results81 ?_
  repeat' (first | (simp only [go_sem, zA, zB, zC, zD, zE, zF, zG, reduceCtorEq, zH, zI, zJ, zK, zL, pin, hh0, hk0, hk1, hk, lB, encNode_lit]; all_goals refine nf ?_) | (refine stp ?_; intro K hK) | (apply hK; clear hK K) | refine stn ?_ | (with_reducible first | refine ⟨by omega, encNode x, hx', ?_⟩ | refine ⟨_, refAtomV_c (atomV s), ?_⟩) | (refine ⟨1000000, _, _, _, atomName_k 1000000 s hs, rfl, ?_⟩) | refine stq ?_ | (clear hK K))
  all_goals first | exact ⟨rfl, fun x hx => by simp only [lN] at hx; subst hx; simp [pin]⟩ | exact ⟨trivial, fun x hx => by simp only [lN] at hx; subst hx; simp [pin]⟩ | (intro x hx; simp only [lN] at hx; subst hx; simp [pin]) | (refine ⟨by simp only [encVal_eq] <;> rfl, fun x hx => by simp only [lN] at hx; subst hx; simp [pin]⟩) | fail
theorem near_k8 (l : List NodeD) (r : Int) (g nx : Int → Src → Val × Src) (h : Nat) (hh : h ≤ 1000) (hlen : l.length ≤ 1000) (x : NodeD) (k : Nat) (hx : l[k]? = some x) (hk : x.kind = 8) (s : Src) (hs : s.ok) : NearAt l r (nearX l g nx x) h k s := by
  have hx' := get_map encNode hx
  have hkl : k < l.length := (List.getElem?_eq_some_iff.1 hx).1
  have hh0 : decide (((h + 1 : Nat) : Int) ≤ 0) = false := by rw [decide_eq_false_iff_not]; omega
  have hk0 : decide ((k : Int) < 0) = false := by rw [decide_eq_false_iff_not]; omega
  have hk1 : decide ((l.length : Int) ≤ (k : Int)) = false := by rw [decide_eq_false_iff_not]; omega
  unfold NearAt nearX
  simp only [hk, Int.reduceEq, decide_true, decide_false, cond_true, cond_false]
  refine PCB.ob Tryz.func81 Tryz.ntmps81 Tryz.results81 ?_
  repeat' (first | (simp only [go_sem, zA, zB, zC, zD, zE, zF, zG, reduceCtorEq, zH, zI, zJ, zK, zL, pin, hh0, hk0, hk1, hk, lB, encNode_lit]; all_goals refine nf ?_) | (refine stp ?_; intro K hK) | (apply hK; clear hK K) | refine stn ?_ | (with_reducible first | refine ⟨by omega, encNode x, hx', ?_⟩ | refine ⟨_, refPid_c (nextV s 2), ?_⟩) | (refine ⟨1000000, _, _, _, next_k 1000000 s hs 2 (by omega), rfl, ?_⟩) | refine stq ?_ | (clear hK K))
  all_goals first | exact ⟨rfl, fun x hx => by simp only [lN] at hx; subst hx; simp [pin]⟩ | exact ⟨trivial, fun x hx => by simp only [lN] at hx; subst hx; simp [pin]⟩ | (intro x hx; simp only [lN] at hx; subst hx; simp [pin]) | (refine ⟨by simp only [encVal_eq] <;> rfl, fun x hx => by simp only [lN] at hx; subst hx; simp [pin]⟩) | fail
theorem near_k9 (l : List NodeD) (r : Int) (g nx : Int → Src → Val × Src) (h : Nat) (hh : h ≤ 1000) (hlen : l.length ≤ 1000) (x : NodeD) (k : Nat) (hx : l[k]? = some x) (hk : x.kind = 9) (s : Src) (hs : s.ok) : NearAt l r (nearX l g nx x) h k s := by
  have hx' := get_map encNode hx
  have hkl : k < l.length := (List.getElem?_eq_some_iff.1 hx).1
  have hh0 : decide (((h + 1 : Nat) : Int) ≤ 0) = false := by rw [decide_eq_false_iff_not]; omega
  have hk0 : decide ((k : Int) < 0) = false := by rw [decide_eq_false_iff_not]; omega
  have hk1 : decide ((l.length : Int) ≤ (k : Int)) = false := by rw [decide_eq_false_iff_not]; omega
  unfold NearAt nearX
  simp only [hk, Int.reduceEq, decide_true, decide_false, cond_true, cond_false]
  refine PCB.ob Tryz.func81 Tryz.ntmps81 Tryz.results81 ?_
  repeat' (first | (simp only [go_sem, zA, zB, zC, zD, zE, zF, zG, reduceCtorEq, zH, zI, zJ, zK, zL, pin, hh0, hk0, hk1, hk, lB, encNode_lit]; all_goals refine nf ?_) | (refine stp ?_; intro K hK) | (apply hK; clear hK K) | refine stn ?_ | (with_reducible first | refine ⟨by omega, encNode x, hx', ?_⟩ | refine ⟨_, refNil_c, ?_⟩) | refine stq ?_ | (clear hK K))
  all_goals first | exact ⟨rfl, fun x hx => by simp only [lN] at hx; subst hx; simp [pin]⟩ | exact ⟨trivial, fun x hx => by simp only [lN] at hx; subst hx; simp [pin]⟩ | (intro x hx; simp only [lN] at hx; subst hx; simp [pin]) | (refine ⟨by simp only [encVal_eq] <;> rfl, fun x hx => by simp only [lN] at hx; subst hx; simp [pin]⟩) | fail
theorem near_k1 (l : List NodeD) (r : Int) (g nx : Int → Src → Val × Src) (h : Nat) (hh : h ≤ 1000) (hlen : l.length ≤ 1000) (x : NodeD) (k : Nat) (hx : l[k]? = some x) (hk : x.kind = 1) (s : Src) (hs : s.ok) : NearAt l r (nearX l g nx x) h k s := by
  have hx' := get_map encNode hx
  have hkl : k < l.length := (List.getElem?_eq_some_iff.1 hx).1
  have hh0 : decide (((h + 1 : Nat) : Int) ≤ 0) = false := by rw [decide_eq_false_iff_not]; omega
  have hk0 : decide ((k : Int) < 0) = false := by rw [decide_eq_false_iff_not]; omega
  have hk1 : decide ((l.length : Int) ≤ (k : Int)) = false := by rw [decide_eq_false_iff_not]; omega
  unfold NearAt nearX
  simp only [hk, Int.reduceEq, decide_true, decide_false, cond_true, cond_false]
  refine PCB.ob Tryz.func81 Tryz.ntmps81 Tryz.results81 ?_
  repeat' (first | (simp only [go_sem, zA, zB, zC, zD, zE, zF, zG, reduceCtorEq, zH, zI, zJ, zK, zL, pin, hh0, hk0, hk1, hk, lB, encNode_lit]; all_goals refine nf ?_) | (refine stp ?_; intro K hK) | (apply hK; clear hK K) | refine stn ?_ | (with_reducible refine ⟨by omega, encNode x, hx', ?_⟩) | (refine ⟨1000000, _, _, _, (sourceValue_c 2 (by omega)).k 1000000 s hs, rfl, ?_⟩) | refine stq ?_ | fail)
  all_goals first | exact ⟨rfl, fun x hx => by simp only [lN] at hx; subst hx; simp [pin]⟩ | exact ⟨trivial, fun x hx => by simp only [lN] at hx; subst hx; simp [pin]⟩ | (intro x hx; simp only [lN] at hx; subst hx; simp [pin]) | (refine ⟨by simp only [encVal_eq] <;> rfl, fun x hx => by simp only [lN] at hx; subst hx; simp [pin]⟩) | fail
theorem near_k2 (l : List NodeD) (r : Int) (g nx : Int → Src → Val × Src) (h : Nat) (hh : h ≤ 1000) (hlen : l.length ≤ 1000) (x : NodeD) (k : Nat) (hx : l[k]? = some x) (hk : x.kind = 2) (s : Src) (hs : s.ok) : NearAt l r (nearX l g nx x) h k s := by
  have hx' := get_map encNode hx
  have hkl : k < l.length := (List.getElem?_eq_some_iff.1 hx).1
  have hh0 : decide (((h + 1 : Nat) : Int) ≤ 0) = false := by rw [decide_eq_false_iff_not]; omega
  have hk0 : decide ((k : Int) < 0) = false := by rw [decide_eq_false_iff_not]; omega
  have hk1 : decide ((l.length : Int) ≤ (k : Int)) = false := by rw [decide_eq_false_iff_not]; omega
  unfold NearAt nearX
  simp only [hk, Int.reduceEq, decide_true, decide_false, cond_true, cond_false]
  refine PCB.ob Tryz.func81 Tryz.ntmps81 Tryz.results81 ?_
  repeat' (first | (simp only [go_sem, zA, zB, zC, zD, zE, zF, zG, reduceCtorEq, zH, zI, zJ, zK, zL, pin, hh0, hk0, hk1, hk, lB, encNode_lit]; all_goals refine nf ?_) | (refine stp ?_; intro K hK) | (apply hK; clear hK K) | refine stn ?_ | (with_reducible refine ⟨by omega, encNode x, hx', ?_⟩) | (refine ⟨1000000, _, _, _, (sourceValue_c 2 (by omega)).k 1000000 s hs, rfl, ?_⟩) | refine stq ?_ | fail)
  all_goals first | exact ⟨rfl, fun x hx => by simp only [lN] at hx; subst hx; simp [pin]⟩ | exact ⟨trivial, fun x hx => by simp only [lN] at hx; subst hx; simp [pin]⟩ | (intro x hx; simp only [lN] at hx; subst hx; simp [pin]) | (refine ⟨by simp only [encVal_eq] <;> rfl, fun x hx => by simp only [lN] at hx; subst hx; simp [pin]⟩) | fail
theorem near_k11 (l : List NodeD) (r : Int) (g nx : Int → Src → Val × Src) (h : Nat) (hh : h ≤ 1000) (hlen : l.length ≤ 1000) (x : NodeD) (k : Nat) (hx : l[k]? = some x) (hk : x.kind = 11) (s : Src) (hs : s.ok) : NearAt l r (nearX l g nx x) h k s := by
  have hx' := get_map encNode hx
  have hkl : k < l.length := (List.getElem?_eq_some_iff.1 hx).1
  have hh0 : decide (((h + 1 : Nat) : Int) ≤ 0) = false := by rw [decide_eq_false_iff_not]; omega
  have hk0 : decide ((k : Int) < 0) = false := by rw [decide_eq_false_iff_not]; omega
  have hk1 : decide ((l.length : Int) ≤ (k : Int)) = false := by rw [decide_eq_false_iff_not]; omega
  unfold NearAt nearX
  simp only [hk, Int.reduceEq, decide_true, decide_false, cond_true, cond_false]
  refine PCB.ob Tryz.func81 Tryz.ntmps81 Tryz.results81 ?_
  repeat' (first | (simp only [go_sem, zA, zB, zC, zD, zE, zF, zG, reduceCtorEq, zH, zI, zJ, zK, zL, pin, hh0, hk0, hk1, hk, lB, encNode_lit]; all_goals refine nf ?_) | (refine stp ?_; intro K hK) | (apply hK; clear hK K) | refine stn ?_ | (with_reducible refine ⟨by omega, encNode x, hx', ?_⟩) | (refine ⟨1000000, _, _, _, (sourceValue_c 2 (by omega)).k 1000000 s hs, rfl, ?_⟩) | refine stq ?_ | fail)
  all_goals first | exact ⟨rfl, fun x hx => by simp only [lN] at hx; subst hx; simp [pin]⟩ | exact ⟨trivial, fun x hx => by simp only [lN] at hx; subst hx; simp [pin]⟩ | (intro x hx; simp only [lN] at hx; subst hx; simp [pin]) | (refine ⟨by simp only [encVal_eq] <;> rfl, fun x hx => by simp only [lN] at hx; subst hx; simp [pin]⟩) | fail
theorem near_k15 (l : List NodeD) (r : Int) (g nx : Int → Src → Val × Src) (h : Nat) (hh : h ≤ 1000) (hlen : l.length ≤ 1000) (x : NodeD) (k : Nat) (hx : l[k]? = some x) (hk : x.kind = 15) (s : Src) (hs : s.ok) : NearAt l r (nearX l g nx x) h k s := by
  have hx' := get_map encNode hx
  have hkl : k < l.length := (List.getElem?_eq_some_iff.1 hx).1
  have hh0 : decide (((h + 1 : Nat) : Int) ≤ 0) = false := by rw [decide_eq_false_iff_not]; omega
  have hk0 : decide ((k : Int) < 0) = false := by rw [decide_eq_false_iff_not]; omega
  have hk1 : decide ((l.length : Int) ≤ (k : Int)) = false := by rw [decide_eq_false_iff_not]; omega
  unfold NearAt nearX
  simp only [hk, Int.reduceEq, decide_true, decide_false, cond_true, cond_false]
  refine PCB.ob Tryz.func81 Tryz.ntmps81 Tryz.results81 ?_
  repeat' (first | (simp only [go_sem, zA, zB, zC, zD, zE, zF, zG, reduceCtorEq, zH, zI, zJ, zK, zL, pin, hh0, hk0, hk1, hk, lB, encNode_lit]; all_goals refine nf ?_) | (refine stp ?_; intro K hK) | (apply hK; clear hK K) | refine stn ?_ | (with_reducible refine ⟨by omega, encNode x, hx', ?_⟩) | (refine ⟨1000000, _, _, _, (sourceValue_c 2 (by omega)).k 1000000 s hs, rfl, ?_⟩) | refine stq ?_ | fail)
  all_goals first | exact ⟨rfl, fun x hx => by simp only [lN] at hx; subst hx; simp [pin]⟩ | exact ⟨trivial, fun x hx => by simp only [lN] at hx; subst hx; simp [pin]⟩ | (intro x hx; simp only [lN] at hx; subst hx; simp [pin]) | (refine ⟨by simp only [encVal_eq] <;> rfl, fun x hx => by simp only [lN] at hx; subst hx; simp [pin]⟩) | fail
theorem near_k18 (l : List NodeD) (r : Int) (g nx : Int → Src → Val × Src) (h : Nat) (hh : h ≤ 1000) (hlen : l.length ≤ 1000) (x : NodeD) (k : Nat) (hx : l[k]? = some x) (hk : x.kind = 18) (s : Src) (hs : s.ok) : NearAt l r (nearX l g nx x) h k s := by
  have hx' := get_map encNode hx
  have hkl : k < l.length := (List.getElem?_eq_some_iff.1 hx).1
  have hh0 : decide (((h + 1 : Nat) : Int) ≤ 0) = false := by rw [decide_eq_false_iff_not]; omega
  have hk0 : decide ((k : Int) < 0) = false := by rw [decide_eq_false_iff_not]; omega
  have hk1 : decide ((l.length : Int) ≤ (k : Int)) = false := by rw [decide_eq_false_iff_not]; omega
  unfold NearAt nearX
  simp only [hk, Int.reduceEq, decide_true, decide_false, cond_true, cond_false]
  refine PCB.ob Tryz.func81 Tryz.ntmps81 Tryz.results81 ?_
  repeat' (first | (simp only [go_sem, zA, zB, zC, zD, zE, zF, zG, reduceCtorEq, zH, zI, zJ, zK, zL, pin, hh0, hk0, hk1, hk, lB, encNode_lit]; all_goals refine nf ?_) | (refine stp ?_; intro K hK) | (apply hK; clear hK K) | refine stn ?_ | (with_reducible refine ⟨by omega, encNode x, hx', ?_⟩) | (refine ⟨1000000, _, _, _, (sourceValue_c 2 (by omega)).k 1000000 s hs, rfl, ?_⟩) | refine stq ?_ | fail)
  all_goals first | exact ⟨rfl, fun x hx => by simp only [lN] at hx; subst hx; simp [pin]⟩ | exact ⟨trivial, fun x hx => by simp only [lN] at hx; subst hx; simp [pin]⟩ | (intro x hx; simp only [lN] at hx; subst hx; simp [pin]) | (refine ⟨by simp only [encVal_eq] <;> rfl, fun x hx => by simp only [lN] at hx; subst hx; simp [pin]⟩) | fail
theorem near_k13 (l : List NodeD) (r : Int) (g nx : Int → Src → Val × Src) (h : Nat) (H : NearC l r g (h : Int)) (hg : ∀ k s, s.ok → (g k s).2.ok) (hh : h ≤ 1000) (hlen : l.length ≤ 1000) (x : NodeD) (k : Nat) (hx : l[k]? = some x) (hk : x.kind = 13) (hf : ∀ f ∈ x.fields, 0 ≤ f.node ∧ f.node < (l.length : Int)) (hfl : x.fields.length ≤ 1000) (h0 : 0 ≤ x.r0 ∧ x.r0 < (l.length : Int)) (h1 : 0 ≤ x.r1 ∧ x.r1 < (l.length : Int)) (s : Src) (hs : s.ok) : NearAt l r (nearX l g nx x) h k s := by
  have hx' := get_map encNode hx
  have hkl : k < l.length := (List.getElem?_eq_some_iff.1 hx).1
  have hh0 : decide (((h + 1 : Nat) : Int) ≤ 0) = false := by rw [decide_eq_false_iff_not]; omega
  have hk0 : decide ((k : Int) < 0) = false := by rw [decide_eq_false_iff_not]; omega
  have hk1 : decide ((l.length : Int) ≤ (k : Int)) = false := by rw [decide_eq_false_iff_not]; omega
  have hM : PCBk Tryz.prog 125 [Sp 1000000, .st [.sl 8 (l.map encNode), .int .i64 r], .st [.int .i64 13, .int .i64 x.lo, .int .i64 x.hi, .str x.text, .sl 1 (x.kids.map encInt), .sl 4 (x.fields.map encField), .int .i64 x.r0, .int .i64 x.r1], I .i64 ((h + 1 : Nat) : Int)] 1000000 (srcB s) (Vt (nearMapV g x s).1) (srcB (nearMapV g x s).2) := by rw [← hk]; exact PCBk.mk 1000000 (nearMap_c l r g h H hg hh x hf hfl h0 h1 s hs)
  unfold NearAt nearX
  simp only [hk, Int.reduceEq, decide_true, decide_false, cond_true, cond_false]
  refine PCB.ob Tryz.func81 Tryz.ntmps81 Tryz.results81 ?_
  repeat' (first | (simp only [go_sem, zA, zB, zC, zD, zE, zF, zG, reduceCtorEq, zH, zI, zJ, zK, zL, pin, hh0, hk0, hk1, hk, lB, encNode_lit]; all_goals refine nf ?_) | (refine stp ?_; intro K hK) | (apply hK; clear hK K) | refine stn ?_ | (with_reducible refine ⟨by omega, encNode x, hx', ?_⟩) | (refine ⟨1000000, _, _, _, hM, rfl, ?_⟩) | refine stq ?_ | (clear hK K))
  all_goals first | exact ⟨rfl, fun x hx => by simp only [lN] at hx; subst hx; simp [pin]⟩ | exact ⟨trivial, fun x hx => by simp only [lN] at hx; subst hx; simp [pin]⟩ | (intro x hx; simp only [lN] at hx; subst hx; simp [pin]) | (refine ⟨by simp only [encVal_eq] <;> rfl, fun x hx => by simp only [lN] at hx; subst hx; simp [pin]⟩) | fail
theorem near_k14 (l : List NodeD) (r : Int) (g nx : Int → Src → Val × Src) (h : Nat) (H : NearC l r g (h : Int)) (hg : ∀ k s, s.ok → (g k s).2.ok) (hh : h ≤ 1000) (hlen : l.length ≤ 1000) (x : NodeD) (k : Nat) (hx : l[k]? = some x) (hk : x.kind = 14) (hki : ∀ k ∈ x.kids, 0 ≤ k ∧ k < (l.length : Int)) (hk1 : 1 ≤ x.kids.length) (hk2 : x.kids.length ≤ 1000) (s : Src) (hs : s.ok) : NearAt l r (nearX l g nx x) h k s := by
  have hx' := get_map encNode hx
  have hkl : k < l.length := (List.getElem?_eq_some_iff.1 hx).1
  have hh0 : decide (((h + 1 : Nat) : Int) ≤ 0) = false := by rw [decide_eq_false_iff_not]; omega
  have hk0 : decide ((k : Int) < 0) = false := by rw [decide_eq_false_iff_not]; omega
  have hk1l : decide ((l.length : Int) ≤ (k : Int)) = false := by rw [decide_eq_false_iff_not]; omega
  have hM : PCBk Tryz.prog 126 [Sp 1000000, .st [.sl 8 (l.map encNode), .int .i64 r], .st [.int .i64 14, .int .i64 x.lo, .int .i64 x.hi, .str x.text, .sl 1 (x.kids.map encInt), .sl 4 (x.fields.map encField), .int .i64 x.r0, .int .i64 x.r1], I .i64 ((h + 1 : Nat) : Int)] 1000000 (srcB s) (Vt (nearFunV g x s).1) (srcB (nearFunV g x s).2) := by rw [← hk]; exact PCBk.mk 1000000 (nearFun_c l r g h H hg hh x hki hk1 hk2 s hs)
  unfold NearAt nearX
  simp only [hk, Int.reduceEq, decide_true, decide_false, cond_true, cond_false]
  refine PCB.ob Tryz.func81 Tryz.ntmps81 Tryz.results81 ?_
  repeat' (first | (simp only [go_sem, zA, zB, zC, zD, zE, zF, zG, reduceCtorEq, zH, zI, zJ, zK, zL, pin, hh0, hk0, hk1l, hk, lB, encNode_lit]; all_goals refine nf ?_) | (refine stp ?_; intro K hK) | (apply hK; clear hK K) | refine stn ?_ | (with_reducible refine ⟨by omega, encNode x, hx', ?_⟩) | (refine ⟨1000000, _, _, _, hM, rfl, ?_⟩) | refine stq ?_ | (clear hK K))
  all_goals first | exact ⟨rfl, fun x hx => by simp only [lN] at hx; subst hx; simp [pin]⟩ | exact ⟨trivial, fun x hx => by simp only [lN] at hx; subst hx; simp [pin]⟩ | (intro x hx; simp only [lN] at hx; subst hx; simp [pin]) | (refine ⟨by simp only [encVal_eq] <;> rfl, fun x hx => by simp only [lN] at hx; subst hx; simp [pin]⟩) | fail
theorem getD_memI {α : Type} {l : List α} {d : α} {v : Int} (h : 0 ≤ v ∧ v < (l.length : Int)) : l.getD v.toNat d ∈ l := by
  have hv : v.toNat < l.length := by omega
  rw [List.getD_eq_getElem?_getD, List.getElem?_eq_getElem hv]
  exact List.getElem_mem hv
theorem near_k16 (l : List NodeD) (r : Int) (g nx : Int → Src → Val × Src) (h : Nat) (hh : h ≤ 1000) (hlen : l.length ≤ 1000) (x : NodeD) (k : Nat) (hx : l[k]? = some x) (hk : x.kind = 16) (hki : ∀ k ∈ x.kids, 0 ≤ k ∧ k < (l.length : Int)) (hkn : 1 ≤ x.kids.length) (hk2 : x.kids.length ≤ 1000) (Hn : ∀ k : Int, k ∈ x.kids → ∀ s : Src, s.ok → PCB Tryz.prog 81 [Sp pin, Tt l r, I .i64 k, I .i64 ((h + 1 : Nat) : Int)] [(pin, srcB s)] (Vt (nx k s).1) [(pin, srcB (nx k s).2)]) (s : Src) (hs : s.ok) : NearAt l r (nearX l g nx x) h k s := by
  have hx' := get_map encNode hx
  have hkl : k < l.length := (List.getElem?_eq_some_iff.1 hx).1
  have hh0 : decide (((h + 1 : Nat) : Int) ≤ 0) = false := by rw [decide_eq_false_iff_not]; omega
  have hk0 : decide ((k : Int) < 0) = false := by rw [decide_eq_false_iff_not]; omega
  have hk1 : decide ((l.length : Int) ≤ (k : Int)) = false := by rw [decide_eq_false_iff_not]; omega
  have hv := nextV_in s (n := (x.kids.length : Int)) (by omega)
  have hp : pickK x.kids s ∈ x.kids := getD_memI hv
  have hs2 := ok_next hs (x.kids.length : Int)
  have hg1 := lit_get encInt x.kids 0 hv
  have hM := PCBk.mk 1000000 (Hn _ hp _ hs2)
  unfold NearAt nearX
  simp only [hk, Int.reduceEq, decide_true, decide_false, cond_true, cond_false]
  refine PCB.ob Tryz.func81 Tryz.ntmps81 Tryz.results81 ?_
  repeat' (first | (simp only [go_sem, zA, zB, zC, zD, zE, zF, zG, reduceCtorEq, zH, zI, zJ, zK, zL, pin, hh0, hk0, hk1, hk, lB, encNode_lit]; all_goals refine nf ?_) | (refine stp ?_; intro K hK) | (apply hK; clear hK K) | refine stn ?_ | (with_reducible refine ⟨by omega, encNode x, hx', ?_⟩) | (refine ⟨1000000, _, _, _, next_k 1000000 s hs (x.kids.length : Int) (by omega), rfl, ?_⟩) | ( refine ⟨(by omega : _ ≤ _), _, hg1, ?_⟩) | (refine ⟨1000000, _, _, _, hM, rfl, ?_⟩) | (with_reducible refine AWP.genR (id := 37) [8,12,13] [1000000,1000000,8] mixed (by kernel_rfl) fun K hK => ?_; simp only [Bx.outs, Bx.drop, cond_true, cond_false, Nat.reduceBEq, go_sem]) | (clear hK K))
  all_goals first | exact ⟨rfl, fun x hx => by simp only [lN] at hx; subst hx; simp [pin]⟩ | exact ⟨trivial, fun x hx => by simp only [lN] at hx; subst hx; simp [pin]⟩ | (intro x hx; simp only [lN] at hx; subst hx; simp [pin]) | (refine ⟨by simp only [encVal_eq] <;> rfl, fun x hx => by simp only [lN] at hx; subst hx; simp [pin]⟩) | fail
theorem near_k19 (l : List NodeD) (r : Int) (g nx : Int → Src → Val × Src) (h : Nat) (hh : h ≤ 1000) (hlen : l.length ≤ 1000) (x : NodeD) (k : Nat) (hx : l[k]? = some x) (hk : x.kind = 19) (s : Src) (hs : s.ok) : NearAt l r (nearX l g nx x) h k s := by
  have hx' := get_map encNode hx
  have hkl : k < l.length := (List.getElem?_eq_some_iff.1 hx).1
  have hh0 : decide (((h + 1 : Nat) : Int) ≤ 0) = false := by rw [decide_eq_false_iff_not]; omega
  have hk0 : decide ((k : Int) < 0) = false := by rw [decide_eq_false_iff_not]; omega
  have hk1 : decide ((l.length : Int) ≤ (k : Int)) = false := by rw [decide_eq_false_iff_not]; omega
  have hsl := ok_leaf hs
  have hW : PC Tryz.prog 127 [.st (encVal (leafV s).1), .one (.dat (.sl 1 [[C.str x.text]]))] (Vt { (leafV s).1 with labels := sortedV [x.text] }) := refWithLabels_c (leafV s).1 [x.text] (by simp)
  unfold NearAt nearX
  simp only [hk, Int.reduceEq, decide_true, decide_false, cond_true, cond_false]
  refine PCB.ob Tryz.func81 Tryz.ntmps81 Tryz.results81 ?_
  repeat' (first | (simp only [go_sem, zA, zB, zC, zD, zE, zF, zG, reduceCtorEq, zH, zI, zJ, zK, zL, pin, hh0, hk0, hk1, hk, lB, encNode_lit]; all_goals refine nf ?_) | (refine stp ?_; intro K hK) | (apply hK; clear hK K) | refine stn ?_ | (with_reducible first | refine ⟨by omega, encNode x, hx', ?_⟩ | refine ⟨_, hW, ?_⟩) | (refine ⟨1000000, _, _, _, leaf_k 1000000 s hs, rfl, ?_⟩) | (with_reducible refine AWP.genR (id := 47) [1,6] [1000000,8] mixed (by kernel_rfl) fun K hK => ?_; simp only [Bx.outs, Bx.drop, cond_true, cond_false, Nat.reduceBEq, go_sem]) | (clear hK K))
  all_goals first | exact ⟨rfl, fun x hx => by simp only [lN] at hx; subst hx; simp [pin]⟩ | exact ⟨trivial, fun x hx => by simp only [lN] at hx; subst hx; simp [pin]⟩ | (intro x hx; simp only [lN] at hx; subst hx; simp [pin]) | (refine ⟨by simp only [encVal_eq] <;> rfl, fun x hx => by simp only [lN] at hx; subst hx; simp [pin]⟩) | fail
end Go.Proofs.YthbcdhfiibpeaaaGreat

