/- Lemmas of the proof. -/
import Derived.Test.YthbcdhfiibpeaaaGreatTy15
open Go.Proofs.Tryz renaming prog → zP
open List renaming length_map → lB, take_length → lK, mem_of_getElem? → lP
open Go.Sx.AWP renaming range → xC, lenB → xE
open Nat renaming reduceBEq → zA, reduceBNe → zB, reduceAdd → zC, reduceSub → zD, reduceMul → zE, reduceLeDiff → zF, reduceLT → zG, reduceEqDiff → zH
open Int renaming reduceToNat → zI, reduceLE → zJ, reduceLT → zK, reduceEq → zL
open Bool renaming not_eq_true' → zM, not_eq_false' → zN
set_option linter.unusedSimpArgs false
set_option linter.unusedVariables false
set_option maxRecDepth 20000
set_option maxHeartbeats 64000000
namespace Go.Proofs.YthbcdhfiibpeaaaGreat
open Go Go.Sx
theorem node_k3 (l : List NodeD) (r : Int) (x : NodeD) (hk : x.kind = 3) : PC zP 49 [Tt l r, Nt x] (Bo (nodeR l x)) := by
 refine PCB.ob Tryz.func49 Tryz.ntmps49 Tryz.results49 ?_
 repeat' (first | (simp only [go_sem, zA, zB, zC, zD, zE, zF, zG, reduceCtorEq, zH, zI, zJ, zK, zL, lB, hk, encNode_lit]; all_goals refine nf ?_) | (refine stp ?_; intro K hK) | (apply hK; clear hK K) | refine stn ?_ | fail)
 refine xE 3 4 rfl rfl fun hlen0 => ?_
 (try rw [lB] at hlen0)
 refine xC (S := Unit) (x.kids) encInt (fun k s => (5, I .i64 (k : Nat)) :: []) (fun k s => []) [2, 3] [2, 3] (fun k s => (x.kids.take k).all (inB l) = true) (()) (by refine sts ?_; exact Gh.tt []) ?_ ?_ ?_
 ·simp
 ·intro k s y hlt hy hy' hbb hok
  refine sts ?_
  have hat := all_take1 (p := inB l) hy
  rw [hok, Bool.true_and] at hat
  cases hi : inB l y
  ·
   repeat' (first | (simp only [go_sem, zA, zB, zC, zD, zE, zF, zG, reduceCtorEq, zH, zI, zJ, zK, zL, lB, hk, hbb, hi, encInt]; all_goals refine nf ?_) | (refine stp ?_; intro K hK) | (apply hK; clear hK K) | refine stn ?_ | (with_reducible first | refine ⟨by omega, encInt y, hy', ?_⟩ | refine ⟨_, index_f l r y, ?_⟩) | (refine stp' ?_; intro K hK) | (clear hK K))
   all_goals (refine fin0 ?_; rw [nodeR, all_no (lP hy) hi]; rfl)
  ·
   repeat' (first | (simp only [go_sem, zA, zB, zC, zD, zE, zF, zG, reduceCtorEq, zH, zI, zJ, zK, zL, lB, hk, hbb, hi, encInt]; all_goals refine nf ?_) | (refine stp ?_; intro K hK) | (apply hK; clear hK K) | refine stn ?_ | (with_reducible first | refine ⟨by omega, encInt y, hy', ?_⟩ | refine ⟨_, index_f l r y, ?_⟩) | (refine stp' ?_; intro K hK) | (clear hK K))
   all_goals (rw [wrap_succ hlt hlen0])
   all_goals (refine ⟨(), ?_, Gh.tt []⟩)
   all_goals (rw [hat, hi])
 ·intro s hbb hok
  refine sts ?_
  rw [lK] at hok
  have e : nodeR l x = bif badTx x then false else bif badMp x then false else kindR l x := by unfold nodeR; rw [hok]; rfl
  repeat' (first | (simp only [go_sem, zA, zB, zC, zD, zE, zF, zG, reduceCtorEq, zH, zI, zJ, zK, zL, lB, hk, hbb]; all_goals refine nf ?_) | (refine stp ?_; intro K hK) | (apply hK; clear hK K) | refine stn ?_ | (refine AWP.cnd ?_ ?_ <;> intro h <;> (try simp only [zM, zN] at h)) | (refine ⟨fun h => ?_, fun h => ?_⟩ <;> (try simp only [zM, zN] at h) <;> try simp only [h]) | (clear hK K))
  all_goals (refine fin0 ?_; rw [e]; simp only [badTx, badMp, kindR, *, Int.reduceEq, decide_false, decide_true, Bool.not_true, Bool.not_false, Bool.or_true, Bool.true_or, Bool.or_false, Bool.false_or, Bool.and_true, Bool.true_and, Bool.and_false, Bool.false_and, cond_true, cond_false] <;> rfl)
theorem node_k4 (l : List NodeD) (r : Int) (x : NodeD) (hk : x.kind = 4) : PC zP 49 [Tt l r, Nt x] (Bo (nodeR l x)) := by
 refine PCB.ob Tryz.func49 Tryz.ntmps49 Tryz.results49 ?_
 repeat' (first | (simp only [go_sem, zA, zB, zC, zD, zE, zF, zG, reduceCtorEq, zH, zI, zJ, zK, zL, lB, hk, encNode_lit]; all_goals refine nf ?_) | (refine stp ?_; intro K hK) | (apply hK; clear hK K) | refine stn ?_ | fail)
 refine xE 3 4 rfl rfl fun hlen0 => ?_
 (try rw [lB] at hlen0)
 refine xC (S := Unit) (x.kids) encInt (fun k s => (5, I .i64 (k : Nat)) :: []) (fun k s => []) [2, 3] [2, 3] (fun k s => (x.kids.take k).all (inB l) = true) (()) (by refine sts ?_; exact Gh.tt []) ?_ ?_ ?_
 ·simp
 ·intro k s y hlt hy hy' hbb hok
  refine sts ?_
  have hat := all_take1 (p := inB l) hy
  rw [hok, Bool.true_and] at hat
  cases hi : inB l y
  ·
   repeat' (first | (simp only [go_sem, zA, zB, zC, zD, zE, zF, zG, reduceCtorEq, zH, zI, zJ, zK, zL, lB, hk, hbb, hi, encInt]; all_goals refine nf ?_) | (refine stp ?_; intro K hK) | (apply hK; clear hK K) | refine stn ?_ | (with_reducible first | refine ⟨by omega, encInt y, hy', ?_⟩ | refine ⟨_, index_f l r y, ?_⟩) | (refine stp' ?_; intro K hK) | (clear hK K))
   all_goals (refine fin0 ?_; rw [nodeR, all_no (lP hy) hi]; rfl)
  ·
   repeat' (first | (simp only [go_sem, zA, zB, zC, zD, zE, zF, zG, reduceCtorEq, zH, zI, zJ, zK, zL, lB, hk, hbb, hi, encInt]; all_goals refine nf ?_) | (refine stp ?_; intro K hK) | (apply hK; clear hK K) | refine stn ?_ | (with_reducible first | refine ⟨by omega, encInt y, hy', ?_⟩ | refine ⟨_, index_f l r y, ?_⟩) | (refine stp' ?_; intro K hK) | (clear hK K))
   all_goals (rw [wrap_succ hlt hlen0])
   all_goals (refine ⟨(), ?_, Gh.tt []⟩)
   all_goals (rw [hat, hi])
 ·intro s hbb hok
  refine sts ?_
  rw [lK] at hok
  have e : nodeR l x = bif badTx x then false else bif badMp x then false else kindR l x := by unfold nodeR; rw [hok]; rfl
  repeat' (first | (simp only [go_sem, zA, zB, zC, zD, zE, zF, zG, reduceCtorEq, zH, zI, zJ, zK, zL, lB, hk, hbb]; all_goals refine nf ?_) | (refine stp ?_; intro K hK) | (apply hK; clear hK K) | refine stn ?_ | (refine AWP.cnd ?_ ?_ <;> intro h <;> (try simp only [zM, zN] at h)) | (refine ⟨fun h => ?_, fun h => ?_⟩ <;> (try simp only [zM, zN] at h) <;> try simp only [h]) | (clear hK K))
  all_goals (refine fin0 ?_; rw [e]; simp only [badTx, badMp, kindR, *, Int.reduceEq, decide_false, decide_true, Bool.not_true, Bool.not_false, Bool.or_true, Bool.true_or, Bool.or_false, Bool.false_or, Bool.and_true, Bool.true_and, Bool.and_false, Bool.false_and, cond_true, cond_false] <;> rfl)
theorem node_k6 (l : List NodeD) (r : Int) (x : NodeD) (hk : x.kind = 6) : PC zP 49 [Tt l r, Nt x] (Bo (nodeR l x)) := by
 refine PCB.ob Tryz.func49 Tryz.ntmps49 Tryz.results49 ?_
 repeat' (first | (simp only [go_sem, zA, zB, zC, zD, zE, zF, zG, reduceCtorEq, zH, zI, zJ, zK, zL, lB, hk, encNode_lit]; all_goals refine nf ?_) | (refine stp ?_; intro K hK) | (apply hK; clear hK K) | refine stn ?_ | fail)
 refine xE 3 4 rfl rfl fun hlen0 => ?_
 (try rw [lB] at hlen0)
 refine xC (S := Unit) (x.kids) encInt (fun k s => (5, I .i64 (k : Nat)) :: []) (fun k s => []) [2, 3] [2, 3] (fun k s => (x.kids.take k).all (inB l) = true) (()) (by refine sts ?_; exact Gh.tt []) ?_ ?_ ?_
 ·simp
 ·intro k s y hlt hy hy' hbb hok
  refine sts ?_
  have hat := all_take1 (p := inB l) hy
  rw [hok, Bool.true_and] at hat
  cases hi : inB l y
  ·
   repeat' (first | (simp only [go_sem, zA, zB, zC, zD, zE, zF, zG, reduceCtorEq, zH, zI, zJ, zK, zL, lB, hk, hbb, hi, encInt]; all_goals refine nf ?_) | (refine stp ?_; intro K hK) | (apply hK; clear hK K) | refine stn ?_ | (with_reducible first | refine ⟨by omega, encInt y, hy', ?_⟩ | refine ⟨_, index_f l r y, ?_⟩) | (refine stp' ?_; intro K hK) | (clear hK K))
   all_goals (refine fin0 ?_; rw [nodeR, all_no (lP hy) hi]; rfl)
  ·
   repeat' (first | (simp only [go_sem, zA, zB, zC, zD, zE, zF, zG, reduceCtorEq, zH, zI, zJ, zK, zL, lB, hk, hbb, hi, encInt]; all_goals refine nf ?_) | (refine stp ?_; intro K hK) | (apply hK; clear hK K) | refine stn ?_ | (with_reducible first | refine ⟨by omega, encInt y, hy', ?_⟩ | refine ⟨_, index_f l r y, ?_⟩) | (refine stp' ?_; intro K hK) | (clear hK K))
   all_goals (rw [wrap_succ hlt hlen0])
   all_goals (refine ⟨(), ?_, Gh.tt []⟩)
   all_goals (rw [hat, hi])
 ·intro s hbb hok
  refine sts ?_
  rw [lK] at hok
  have e : nodeR l x = bif badTx x then false else bif badMp x then false else kindR l x := by unfold nodeR; rw [hok]; rfl
  repeat' (first | (simp only [go_sem, zA, zB, zC, zD, zE, zF, zG, reduceCtorEq, zH, zI, zJ, zK, zL, lB, hk, hbb]; all_goals refine nf ?_) | (refine stp ?_; intro K hK) | (apply hK; clear hK K) | refine stn ?_ | (refine AWP.cnd ?_ ?_ <;> intro h <;> (try simp only [zM, zN] at h)) | (refine ⟨fun h => ?_, fun h => ?_⟩ <;> (try simp only [zM, zN] at h) <;> try simp only [h]) | (with_reducible refine ⟨_, isAtom_c x.text, ?_⟩) | refine stq ?_ | (clear hK K))
  all_goals (refine fin0 ?_; rw [e]; simp only [badTx, badMp, kindR, *, Int.reduceEq, decide_false, decide_true, Bool.not_true, Bool.not_false, Bool.or_true, Bool.true_or, Bool.or_false, Bool.false_or, Bool.and_true, Bool.true_and, Bool.and_false, Bool.false_and, cond_true, cond_false] <;> rfl)
theorem node_k19 (l : List NodeD) (r : Int) (x : NodeD) (hk : x.kind = 19) : PC zP 49 [Tt l r, Nt x] (Bo (nodeR l x)) := by
 refine PCB.ob Tryz.func49 Tryz.ntmps49 Tryz.results49 ?_
 repeat' (first | (simp only [go_sem, zA, zB, zC, zD, zE, zF, zG, reduceCtorEq, zH, zI, zJ, zK, zL, lB, hk, encNode_lit]; all_goals refine nf ?_) | (refine stp ?_; intro K hK) | (apply hK; clear hK K) | refine stn ?_ | fail)
 refine xE 3 4 rfl rfl fun hlen0 => ?_
 (try rw [lB] at hlen0)
 refine xC (S := Unit) (x.kids) encInt (fun k s => (5, I .i64 (k : Nat)) :: []) (fun k s => []) [2, 3] [2, 3] (fun k s => (x.kids.take k).all (inB l) = true) (()) (by refine sts ?_; exact Gh.tt []) ?_ ?_ ?_
 ·simp
 ·intro k s y hlt hy hy' hbb hok
  refine sts ?_
  have hat := all_take1 (p := inB l) hy
  rw [hok, Bool.true_and] at hat
  cases hi : inB l y
  ·
   repeat' (first | (simp only [go_sem, zA, zB, zC, zD, zE, zF, zG, reduceCtorEq, zH, zI, zJ, zK, zL, lB, hk, hbb, hi, encInt]; all_goals refine nf ?_) | (refine stp ?_; intro K hK) | (apply hK; clear hK K) | refine stn ?_ | (with_reducible first | refine ⟨by omega, encInt y, hy', ?_⟩ | refine ⟨_, index_f l r y, ?_⟩) | (refine stp' ?_; intro K hK) | (clear hK K))
   all_goals (refine fin0 ?_; rw [nodeR, all_no (lP hy) hi]; rfl)
  ·
   repeat' (first | (simp only [go_sem, zA, zB, zC, zD, zE, zF, zG, reduceCtorEq, zH, zI, zJ, zK, zL, lB, hk, hbb, hi, encInt]; all_goals refine nf ?_) | (refine stp ?_; intro K hK) | (apply hK; clear hK K) | refine stn ?_ | (with_reducible first | refine ⟨by omega, encInt y, hy', ?_⟩ | refine ⟨_, index_f l r y, ?_⟩) | (refine stp' ?_; intro K hK) | (clear hK K))
   all_goals (rw [wrap_succ hlt hlen0])
   all_goals (refine ⟨(), ?_, Gh.tt []⟩)
   all_goals (rw [hat, hi])
 ·intro s hbb hok
  refine sts ?_
  rw [lK] at hok
  have e : nodeR l x = bif badTx x then false else bif badMp x then false else kindR l x := by unfold nodeR; rw [hok]; rfl
  repeat' (first | (simp only [go_sem, zA, zB, zC, zD, zE, zF, zG, reduceCtorEq, zH, zI, zJ, zK, zL, lB, hk, hbb]; all_goals refine nf ?_) | (refine stp ?_; intro K hK) | (apply hK; clear hK K) | refine stn ?_ | (refine AWP.cnd ?_ ?_ <;> intro h <;> (try simp only [zM, zN] at h)) | (refine ⟨fun h => ?_, fun h => ?_⟩ <;> (try simp only [zM, zN] at h) <;> try simp only [h]) | (with_reducible refine ⟨_, refIsVariable_c x.text, ?_⟩) | refine stq ?_ | (clear hK K))
  all_goals (refine fin0 ?_; rw [e]; simp only [badTx, badMp, kindR, *, Int.reduceEq, decide_false, decide_true, Bool.not_true, Bool.not_false, Bool.or_true, Bool.true_or, Bool.or_false, Bool.false_or, Bool.and_true, Bool.true_and, Bool.and_false, Bool.false_and, cond_true, cond_false] <;> rfl)
theorem node_k10 (l : List NodeD) (r : Int) (x : NodeD) (hk : x.kind = 10) : PC zP 49 [Tt l r, Nt x] (Bo (nodeR l x)) := by
 refine PCB.ob Tryz.func49 Tryz.ntmps49 Tryz.results49 ?_
 repeat' (first | (simp only [go_sem, zA, zB, zC, zD, zE, zF, zG, reduceCtorEq, zH, zI, zJ, zK, zL, lB, hk, encNode_lit]; all_goals refine nf ?_) | (refine stp ?_; intro K hK) | (apply hK; clear hK K) | refine stn ?_ | fail)
 refine xE 3 4 rfl rfl fun hlen0 => ?_
 (try rw [lB] at hlen0)
 refine xC (S := Unit) (x.kids) encInt (fun k s => (5, I .i64 (k : Nat)) :: []) (fun k s => []) [2, 3] [2, 3] (fun k s => (x.kids.take k).all (inB l) = true) (()) (by refine sts ?_; exact Gh.tt []) ?_ ?_ ?_
 ·simp
 ·intro k s y hlt hy hy' hbb hok
  refine sts ?_
  have hat := all_take1 (p := inB l) hy
  rw [hok, Bool.true_and] at hat
  cases hi : inB l y
  ·
   repeat' (first | (simp only [go_sem, zA, zB, zC, zD, zE, zF, zG, reduceCtorEq, zH, zI, zJ, zK, zL, lB, hk, hbb, hi, encInt]; all_goals refine nf ?_) | (refine stp ?_; intro K hK) | (apply hK; clear hK K) | refine stn ?_ | (with_reducible first | refine ⟨by omega, encInt y, hy', ?_⟩ | refine ⟨_, index_f l r y, ?_⟩) | (refine stp' ?_; intro K hK) | (clear hK K))
   all_goals (refine fin0 ?_; rw [nodeR, all_no (lP hy) hi]; rfl)
  ·
   repeat' (first | (simp only [go_sem, zA, zB, zC, zD, zE, zF, zG, reduceCtorEq, zH, zI, zJ, zK, zL, lB, hk, hbb, hi, encInt]; all_goals refine nf ?_) | (refine stp ?_; intro K hK) | (apply hK; clear hK K) | refine stn ?_ | (with_reducible first | refine ⟨by omega, encInt y, hy', ?_⟩ | refine ⟨_, index_f l r y, ?_⟩) | (refine stp' ?_; intro K hK) | (clear hK K))
   all_goals (rw [wrap_succ hlt hlen0])
   all_goals (refine ⟨(), ?_, Gh.tt []⟩)
   all_goals (rw [hat, hi])
 ·intro s hbb hok
  refine sts ?_
  rw [lK] at hok
  have e : nodeR l x = bif badTx x then false else bif badMp x then false else kindR l x := by unfold nodeR; rw [hok]; rfl
  repeat' (first | (simp only [go_sem, zA, zB, zC, zD, zE, zF, zG, reduceCtorEq, zH, zI, zJ, zK, zL, lB, hk, hbb]; all_goals refine nf ?_) | (refine stp ?_; intro K hK) | (apply hK; clear hK K) | refine stn ?_ | (refine AWP.cnd ?_ ?_ <;> intro h <;> (try simp only [zM, zN] at h)) | (refine ⟨fun h => ?_, fun h => ?_⟩ <;> (try simp only [zM, zN] at h) <;> try simp only [h]) | (clear hK K))
  all_goals (refine fin0 ?_; rw [e]; simp only [badTx, badMp, kindR, *, Int.reduceEq, decide_false, decide_true, Bool.not_true, Bool.not_false, Bool.or_true, Bool.true_or, Bool.or_false, Bool.false_or, Bool.and_true, Bool.true_and, Bool.and_false, Bool.false_and, cond_true, cond_false] <;> rfl)
theorem node_k12 (l : List NodeD) (r : Int) (x : NodeD) (hk : x.kind = 12) : PC zP 49 [Tt l r, Nt x] (Bo (nodeR l x)) := by
 refine PCB.ob Tryz.func49 Tryz.ntmps49 Tryz.results49 ?_
 repeat' (first | (simp only [go_sem, zA, zB, zC, zD, zE, zF, zG, reduceCtorEq, zH, zI, zJ, zK, zL, lB, hk, encNode_lit]; all_goals refine nf ?_) | (refine stp ?_; intro K hK) | (apply hK; clear hK K) | refine stn ?_ | fail)
 refine xE 3 4 rfl rfl fun hlen0 => ?_
 (try rw [lB] at hlen0)
 refine xC (S := Unit) (x.kids) encInt (fun k s => (5, I .i64 (k : Nat)) :: []) (fun k s => []) [2, 3] [2, 3] (fun k s => (x.kids.take k).all (inB l) = true) (()) (by refine sts ?_; exact Gh.tt []) ?_ ?_ ?_
 ·simp
 ·intro k s y hlt hy hy' hbb hok
  refine sts ?_
  have hat := all_take1 (p := inB l) hy
  rw [hok, Bool.true_and] at hat
  cases hi : inB l y
  ·
   repeat' (first | (simp only [go_sem, zA, zB, zC, zD, zE, zF, zG, reduceCtorEq, zH, zI, zJ, zK, zL, lB, hk, hbb, hi, encInt]; all_goals refine nf ?_) | (refine stp ?_; intro K hK) | (apply hK; clear hK K) | refine stn ?_ | (with_reducible first | refine ⟨by omega, encInt y, hy', ?_⟩ | refine ⟨_, index_f l r y, ?_⟩) | (refine stp' ?_; intro K hK) | (clear hK K))
   all_goals (refine fin0 ?_; rw [nodeR, all_no (lP hy) hi]; rfl)
  ·
   repeat' (first | (simp only [go_sem, zA, zB, zC, zD, zE, zF, zG, reduceCtorEq, zH, zI, zJ, zK, zL, lB, hk, hbb, hi, encInt]; all_goals refine nf ?_) | (refine stp ?_; intro K hK) | (apply hK; clear hK K) | refine stn ?_ | (with_reducible first | refine ⟨by omega, encInt y, hy', ?_⟩ | refine ⟨_, index_f l r y, ?_⟩) | (refine stp' ?_; intro K hK) | (clear hK K))
   all_goals (rw [wrap_succ hlt hlen0])
   all_goals (refine ⟨(), ?_, Gh.tt []⟩)
   all_goals (rw [hat, hi])
 ·intro s hbb hok
  refine sts ?_
  rw [lK] at hok
  have e : nodeR l x = bif badTx x then false else bif badMp x then false else kindR l x := by unfold nodeR; rw [hok]; rfl
  repeat' (first | (simp only [go_sem, zA, zB, zC, zD, zE, zF, zG, reduceCtorEq, zH, zI, zJ, zK, zL, lB, hk, hbb]; all_goals refine nf ?_) | (refine stp ?_; intro K hK) | (apply hK; clear hK K) | refine stn ?_ | (refine AWP.cnd ?_ ?_ <;> intro h <;> (try simp only [zM, zN] at h)) | (refine ⟨fun h => ?_, fun h => ?_⟩ <;> (try simp only [zM, zN] at h) <;> try simp only [h]) | (clear hK K))
  all_goals (refine fin0 ?_; rw [e]; simp only [badTx, badMp, kindR, *, Int.reduceEq, decide_false, decide_true, Bool.not_true, Bool.not_false, Bool.or_true, Bool.true_or, Bool.or_false, Bool.false_or, Bool.and_true, Bool.true_and, Bool.and_false, Bool.false_and, cond_true, cond_false] <;> rfl)
theorem node_k14 (l : List NodeD) (r : Int) (x : NodeD) (hk : x.kind = 14) : PC zP 49 [Tt l r, Nt x] (Bo (nodeR l x)) := by
 refine PCB.ob Tryz.func49 Tryz.ntmps49 Tryz.results49 ?_
 repeat' (first | (simp only [go_sem, zA, zB, zC, zD, zE, zF, zG, reduceCtorEq, zH, zI, zJ, zK, zL, lB, hk, encNode_lit]; all_goals refine nf ?_) | (refine stp ?_; intro K hK) | (apply hK; clear hK K) | refine stn ?_ | fail)
 refine xE 3 4 rfl rfl fun hlen0 => ?_
 (try rw [lB] at hlen0)
 refine xC (S := Unit) (x.kids) encInt (fun k s => (5, I .i64 (k : Nat)) :: []) (fun k s => []) [2, 3] [2, 3] (fun k s => (x.kids.take k).all (inB l) = true) (()) (by refine sts ?_; exact Gh.tt []) ?_ ?_ ?_
 ·simp
 ·intro k s y hlt hy hy' hbb hok
  refine sts ?_
  have hat := all_take1 (p := inB l) hy
  rw [hok, Bool.true_and] at hat
  cases hi : inB l y
  ·
   repeat' (first | (simp only [go_sem, zA, zB, zC, zD, zE, zF, zG, reduceCtorEq, zH, zI, zJ, zK, zL, lB, hk, hbb, hi, encInt]; all_goals refine nf ?_) | (refine stp ?_; intro K hK) | (apply hK; clear hK K) | refine stn ?_ | (with_reducible first | refine ⟨by omega, encInt y, hy', ?_⟩ | refine ⟨_, index_f l r y, ?_⟩) | (refine stp' ?_; intro K hK) | (clear hK K))
   all_goals (refine fin0 ?_; rw [nodeR, all_no (lP hy) hi]; rfl)
  ·
   repeat' (first | (simp only [go_sem, zA, zB, zC, zD, zE, zF, zG, reduceCtorEq, zH, zI, zJ, zK, zL, lB, hk, hbb, hi, encInt]; all_goals refine nf ?_) | (refine stp ?_; intro K hK) | (apply hK; clear hK K) | refine stn ?_ | (with_reducible first | refine ⟨by omega, encInt y, hy', ?_⟩ | refine ⟨_, index_f l r y, ?_⟩) | (refine stp' ?_; intro K hK) | (clear hK K))
   all_goals (rw [wrap_succ hlt hlen0])
   all_goals (refine ⟨(), ?_, Gh.tt []⟩)
   all_goals (rw [hat, hi])
 ·intro s hbb hok
  refine sts ?_
  rw [lK] at hok
  have e : nodeR l x = bif badTx x then false else bif badMp x then false else kindR l x := by unfold nodeR; rw [hok]; rfl
  repeat' (first | (simp only [go_sem, zA, zB, zC, zD, zE, zF, zG, reduceCtorEq, zH, zI, zJ, zK, zL, lB, hk, hbb]; all_goals refine nf ?_) | (refine stp ?_; intro K hK) | (apply hK; clear hK K) | refine stn ?_ | (refine AWP.cnd ?_ ?_ <;> intro h <;> (try simp only [zM, zN] at h)) | (refine ⟨fun h => ?_, fun h => ?_⟩ <;> (try simp only [zM, zN] at h) <;> try simp only [h]) | (clear hK K))
  all_goals (refine fin0 ?_; rw [e]; simp only [badTx, badMp, kindR, *, Int.reduceEq, decide_false, decide_true, Bool.not_true, Bool.not_false, Bool.or_true, Bool.true_or, Bool.or_false, Bool.false_or, Bool.and_true, Bool.true_and, Bool.and_false, Bool.false_and, cond_true, cond_false] <;> rfl)
theorem node_k16 (l : List NodeD) (r : Int) (x : NodeD) (hk : x.kind = 16) : PC zP 49 [Tt l r, Nt x] (Bo (nodeR l x)) := by
 refine PCB.ob Tryz.func49 Tryz.ntmps49 Tryz.results49 ?_
 repeat' (first | (simp only [go_sem, zA, zB, zC, zD, zE, zF, zG, reduceCtorEq, zH, zI, zJ, zK, zL, lB, hk, encNode_lit]; all_goals refine nf ?_) | (refine stp ?_; intro K hK) | (apply hK; clear hK K) | refine stn ?_ | fail)
 refine xE 3 4 rfl rfl fun hlen0 => ?_
 (try rw [lB] at hlen0)
 refine xC (S := Unit) (x.kids) encInt (fun k s => (5, I .i64 (k : Nat)) :: []) (fun k s => []) [2, 3] [2, 3] (fun k s => (x.kids.take k).all (inB l) = true) (()) (by refine sts ?_; exact Gh.tt []) ?_ ?_ ?_
 ·simp
 ·intro k s y hlt hy hy' hbb hok
  refine sts ?_
  have hat := all_take1 (p := inB l) hy
  rw [hok, Bool.true_and] at hat
  cases hi : inB l y
  ·
   repeat' (first | (simp only [go_sem, zA, zB, zC, zD, zE, zF, zG, reduceCtorEq, zH, zI, zJ, zK, zL, lB, hk, hbb, hi, encInt]; all_goals refine nf ?_) | (refine stp ?_; intro K hK) | (apply hK; clear hK K) | refine stn ?_ | (with_reducible first | refine ⟨by omega, encInt y, hy', ?_⟩ | refine ⟨_, index_f l r y, ?_⟩) | (refine stp' ?_; intro K hK) | (clear hK K))
   all_goals (refine fin0 ?_; rw [nodeR, all_no (lP hy) hi]; rfl)
  ·
   repeat' (first | (simp only [go_sem, zA, zB, zC, zD, zE, zF, zG, reduceCtorEq, zH, zI, zJ, zK, zL, lB, hk, hbb, hi, encInt]; all_goals refine nf ?_) | (refine stp ?_; intro K hK) | (apply hK; clear hK K) | refine stn ?_ | (with_reducible first | refine ⟨by omega, encInt y, hy', ?_⟩ | refine ⟨_, index_f l r y, ?_⟩) | (refine stp' ?_; intro K hK) | (clear hK K))
   all_goals (rw [wrap_succ hlt hlen0])
   all_goals (refine ⟨(), ?_, Gh.tt []⟩)
   all_goals (rw [hat, hi])
 ·intro s hbb hok
  refine sts ?_
  rw [lK] at hok
  have e : nodeR l x = bif badTx x then false else bif badMp x then false else kindR l x := by unfold nodeR; rw [hok]; rfl
  repeat' (first | (simp only [go_sem, zA, zB, zC, zD, zE, zF, zG, reduceCtorEq, zH, zI, zJ, zK, zL, lB, hk, hbb]; all_goals refine nf ?_) | (refine stp ?_; intro K hK) | (apply hK; clear hK K) | refine stn ?_ | (refine AWP.cnd ?_ ?_ <;> intro h <;> (try simp only [zM, zN] at h)) | (refine ⟨fun h => ?_, fun h => ?_⟩ <;> (try simp only [zM, zN] at h) <;> try simp only [h]) | (clear hK K))
  all_goals (refine fin0 ?_; rw [e]; simp only [badTx, badMp, kindR, *, Int.reduceEq, decide_false, decide_true, Bool.not_true, Bool.not_false, Bool.or_true, Bool.true_or, Bool.or_false, Bool.false_or, Bool.and_true, Bool.true_and, Bool.and_false, Bool.false_and, cond_true, cond_false] <;> rfl)
theorem node_k17 (l : List NodeD) (r : Int) (x : NodeD) (hk : x.kind = 17) : PC zP 49 [Tt l r, Nt x] (Bo (nodeR l x)) := by
 refine PCB.ob Tryz.func49 Tryz.ntmps49 Tryz.results49 ?_
 repeat' (first | (simp only [go_sem, zA, zB, zC, zD, zE, zF, zG, reduceCtorEq, zH, zI, zJ, zK, zL, lB, hk, encNode_lit]; all_goals refine nf ?_) | (refine stp ?_; intro K hK) | (apply hK; clear hK K) | refine stn ?_ | fail)
 refine xE 3 4 rfl rfl fun hlen0 => ?_
 (try rw [lB] at hlen0)
 refine xC (S := Unit) (x.kids) encInt (fun k s => (5, I .i64 (k : Nat)) :: []) (fun k s => []) [2, 3] [2, 3] (fun k s => (x.kids.take k).all (inB l) = true) (()) (by refine sts ?_; exact Gh.tt []) ?_ ?_ ?_
 ·simp
 ·intro k s y hlt hy hy' hbb hok
  refine sts ?_
  have hat := all_take1 (p := inB l) hy
  rw [hok, Bool.true_and] at hat
  cases hi : inB l y
  ·
   repeat' (first | (simp only [go_sem, zA, zB, zC, zD, zE, zF, zG, reduceCtorEq, zH, zI, zJ, zK, zL, lB, hk, hbb, hi, encInt]; all_goals refine nf ?_) | (refine stp ?_; intro K hK) | (apply hK; clear hK K) | refine stn ?_ | (with_reducible first | refine ⟨by omega, encInt y, hy', ?_⟩ | refine ⟨_, index_f l r y, ?_⟩) | (refine stp' ?_; intro K hK) | (clear hK K))
   all_goals (refine fin0 ?_; rw [nodeR, all_no (lP hy) hi]; rfl)
  ·
   repeat' (first | (simp only [go_sem, zA, zB, zC, zD, zE, zF, zG, reduceCtorEq, zH, zI, zJ, zK, zL, lB, hk, hbb, hi, encInt]; all_goals refine nf ?_) | (refine stp ?_; intro K hK) | (apply hK; clear hK K) | refine stn ?_ | (with_reducible first | refine ⟨by omega, encInt y, hy', ?_⟩ | refine ⟨_, index_f l r y, ?_⟩) | (refine stp' ?_; intro K hK) | (clear hK K))
   all_goals (rw [wrap_succ hlt hlen0])
   all_goals (refine ⟨(), ?_, Gh.tt []⟩)
   all_goals (rw [hat, hi])
 ·intro s hbb hok
  refine sts ?_
  rw [lK] at hok
  have e : nodeR l x = bif badTx x then false else bif badMp x then false else kindR l x := by unfold nodeR; rw [hok]; rfl
  repeat' (first | (simp only [go_sem, zA, zB, zC, zD, zE, zF, zG, reduceCtorEq, zH, zI, zJ, zK, zL, lB, hk, hbb]; all_goals refine nf ?_) | (refine stp ?_; intro K hK) | (apply hK; clear hK K) | refine stn ?_ | (refine AWP.cnd ?_ ?_ <;> intro h <;> (try simp only [zM, zN] at h)) | (refine ⟨fun h => ?_, fun h => ?_⟩ <;> (try simp only [zM, zN] at h) <;> try simp only [h]) | (clear hK K))
  all_goals (refine fin0 ?_; rw [e]; simp only [badTx, badMp, kindR, *, Int.reduceEq, decide_false, decide_true, Bool.not_true, Bool.not_false, Bool.or_true, Bool.true_or, Bool.or_false, Bool.false_or, Bool.and_true, Bool.true_and, Bool.and_false, Bool.false_and, cond_true, cond_false] <;> rfl)
theorem node_k18 (l : List NodeD) (r : Int) (x : NodeD) (hk : x.kind = 18) : PC zP 49 [Tt l r, Nt x] (Bo (nodeR l x)) := by
 refine PCB.ob Tryz.func49 Tryz.ntmps49 Tryz.results49 ?_
 repeat' (first | (simp only [go_sem, zA, zB, zC, zD, zE, zF, zG, reduceCtorEq, zH, zI, zJ, zK, zL, lB, hk, encNode_lit]; all_goals refine nf ?_) | (refine stp ?_; intro K hK) | (apply hK; clear hK K) | refine stn ?_ | fail)
 refine xE 3 4 rfl rfl fun hlen0 => ?_
 (try rw [lB] at hlen0)
 refine xC (S := Unit) (x.kids) encInt (fun k s => (5, I .i64 (k : Nat)) :: []) (fun k s => []) [2, 3] [2, 3] (fun k s => (x.kids.take k).all (inB l) = true) (()) (by refine sts ?_; exact Gh.tt []) ?_ ?_ ?_
 ·simp
 ·intro k s y hlt hy hy' hbb hok
  refine sts ?_
  have hat := all_take1 (p := inB l) hy
  rw [hok, Bool.true_and] at hat
  cases hi : inB l y
  ·
   repeat' (first | (simp only [go_sem, zA, zB, zC, zD, zE, zF, zG, reduceCtorEq, zH, zI, zJ, zK, zL, lB, hk, hbb, hi, encInt]; all_goals refine nf ?_) | (refine stp ?_; intro K hK) | (apply hK; clear hK K) | refine stn ?_ | (with_reducible first | refine ⟨by omega, encInt y, hy', ?_⟩ | refine ⟨_, index_f l r y, ?_⟩) | (refine stp' ?_; intro K hK) | (clear hK K))
   all_goals (refine fin0 ?_; rw [nodeR, all_no (lP hy) hi]; rfl)
  ·
   repeat' (first | (simp only [go_sem, zA, zB, zC, zD, zE, zF, zG, reduceCtorEq, zH, zI, zJ, zK, zL, lB, hk, hbb, hi, encInt]; all_goals refine nf ?_) | (refine stp ?_; intro K hK) | (apply hK; clear hK K) | refine stn ?_ | (with_reducible first | refine ⟨by omega, encInt y, hy', ?_⟩ | refine ⟨_, index_f l r y, ?_⟩) | (refine stp' ?_; intro K hK) | (clear hK K))
   all_goals (rw [wrap_succ hlt hlen0])
   all_goals (refine ⟨(), ?_, Gh.tt []⟩)
   all_goals (rw [hat, hi])
 ·intro s hbb hok
  refine sts ?_
  rw [lK] at hok
  have e : nodeR l x = bif badTx x then false else bif badMp x then false else kindR l x := by unfold nodeR; rw [hok]; rfl
  repeat' (first | (simp only [go_sem, zA, zB, zC, zD, zE, zF, zG, reduceCtorEq, zH, zI, zJ, zK, zL, lB, hk, hbb]; all_goals refine nf ?_) | (refine stp ?_; intro K hK) | (apply hK; clear hK K) | refine stn ?_ | (refine AWP.cnd ?_ ?_ <;> intro h <;> (try simp only [zM, zN] at h)) | (refine ⟨fun h => ?_, fun h => ?_⟩ <;> (try simp only [zM, zN] at h) <;> try simp only [h]) | (clear hK K))
  all_goals (refine fin0 ?_; rw [e]; simp only [badTx, badMp, kindR, *, Int.reduceEq, decide_false, decide_true, Bool.not_true, Bool.not_false, Bool.or_true, Bool.true_or, Bool.or_false, Bool.false_or, Bool.and_true, Bool.true_and, Bool.and_false, Bool.false_and, cond_true, cond_false] <;> rfl)
end Go.Proofs.YthbcdhfiibpeaaaGreat

