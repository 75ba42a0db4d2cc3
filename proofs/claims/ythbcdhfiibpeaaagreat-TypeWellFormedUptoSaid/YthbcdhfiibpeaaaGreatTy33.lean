/- Lemmas of the proof. -/
import Derived.Test.YthbcdhfiibpeaaaGreatTy32
open List renaming mem_singleton → lN
open Nat renaming reduceBEq → zA, reduceBNe → zB, reduceAdd → zC, reduceSub → zD, reduceMul → zE, reduceLeDiff → zF, reduceLT → zG, reduceEqDiff → zH
open Int renaming reduceToNat → zI, reduceLE → zJ, reduceLT → zK, reduceEq → zL
open Bool renaming not_eq_true' → zM, not_eq_false' → zN
set_option linter.unusedSimpArgs false
set_option linter.unusedVariables false
set_option maxRecDepth 20000
set_option maxHeartbeats 64000000
namespace Go.Proofs.YthbcdhfiibpeaaaGreat
open Go Go.Sx
def rangeL : List Int := [-9223372036854775808, 0, 1, 2, 9223372036854775807]
def plainL : List Int := [5, 8, 11, 15]
def anyL : List Int := [2, 1]
def kindN (k : Int) : NodeD := ⟨k, 0, 0, [], [], [], 0, 0⟩
def textN (k : Int) (t : List UInt8) : NodeD := ⟨k, 0, 0, t, [], [], 0, 0⟩
def kidsN (k : Int) (l : List Int) : NodeD := ⟨k, 0, 0, [], l, [], 0, 0⟩
def intN (a b : Int) : NodeD := ⟨3, a, b, [], [], [], 0, 0⟩
def kidsM (k : Int) (a n : Int) (m : Nat) (s : Src) : NodeD × Src := (kidsN k (listM (idx1 a n) m s).1, (listM (idx1 a n) m s).2)
def drawK (i n k : Int) (s : Src) : NodeD × Src :=
  bif decide (k = 0) then (intN (rangeL.getD (nextV s 5).toNat 0) (rangeL.getD (nextV s 5 + nextV (nextS s 5) (5 - nextV s 5)).toNat 0), nextS (nextS s 5) (5 - nextV s 5)) else
  bif decide (k = 1) then (textN 6 (atomV s), nextS s 4) else
  bif decide (k = 2) then (kindN 7, s) else
  bif decide (k = 3) then (textN 4 (wordV s), nextS s 4) else
  bif decide (k = 4) then (kindN (plainL.getD (nextV s 4).toNat 0), nextS s 4) else
  bif decide (k = 5) then (kindN 9, s) else
  bif decide (k = 6) then (kindN (anyL.getD (nextV s 2).toNat 0), nextS s 2) else
  bif decide (k = 7) then (textN 19 (labelV s), nextS s 3) else
  bif decide (k = 8) || decide (k = 9) then kidsM 10 0 n (nextV s 3).toNat (nextS s 3) else
  bif decide (k = 10) then kidsM 12 0 n 2 s else
  bif decide (k = 11) then mappingV n s else
  bif decide (k = 12) || decide (k = 13) then kidsM 14 0 n (1 + nextV s 3).toNat (nextS s 3) else
  bif decide (k = 14) then kidsM 18 (i + 1) n 1 s else
  bif decide (k = 15) then kidsM 17 (i + 1) n 2 s else kidsM 16 (i + 1) n (2 + nextV s 2).toNat (nextS s 2)
def mostV (i n : Int) : Int := bif decide (i = n - 1) then 14 else 18
def drawN (i n : Int) (s : Src) : NodeD × Src := drawK i n (nextV s (mostV i n)) (nextS s (mostV i n))
theorem most_in (i n : Int) : 1 ≤ mostV i n ∧ mostV i n ≤ 18 := by unfold mostV; cases decide (i = n - 1) <;> decide
theorem kidsM_ok (k a n : Int) (m : Nat) {s : Src} (h : s.ok) : (kidsM k a n m s).2.ok := listM_ok (idx1_ok a n) m s h
theorem drawK_ok (i n k : Int) {s : Src} (h : s.ok) : (drawK i n k s).2.ok := by
 unfold drawK
 cases decide (k = 0) <;> cases decide (k = 1) <;> cases decide (k = 2) <;> cases decide (k = 3) <;> cases decide (k = 4) <;> cases decide (k = 5) <;> cases decide (k = 6) <;> cases decide (k = 7) <;> first
  | exact ok_next (ok_next h 5) _
  | exact ok_next h _
  | exact h
  | skip
 cases decide (k = 8) || decide (k = 9)
 ·cases decide (k = 10)
  ·cases decide (k = 11)
   ·cases decide (k = 12) || decide (k = 13)
    ·cases decide (k = 14)
     ·cases decide (k = 15)
      ·exact kidsM_ok 16 _ n _ (ok_next h 2)
      ·exact kidsM_ok 17 _ n _ h
     ·exact kidsM_ok 18 _ n _ h
    ·exact kidsM_ok 14 _ n _ (ok_next h 3)
   ·exact fldsM_ok n _ (ok_next (ok_next h n) n)
  ·exact kidsM_ok 12 _ n _ h
 ·exact kidsM_ok 10 _ n _ (ok_next h 3)
theorem drawN_ok (i n : Int) {s : Src} (h : s.ok) : (drawN i n s).2.ok := drawK_ok i n _ (ok_next h _)
def NodeC (k : Int) : Prop := ∀ (s : Src) (i n : Int), s.ok → 0 ≤ i → i < n → n ≤ 1000 → nextV s (mostV i n) = k →
  PCB Tryz.prog 80 [Sp pin, I .i64 i, I .i64 n] [(pin, srcB s)] (Nt (drawK i n k (nextS s (mostV i n))).1) [(pin, srcB (drawK i n k (nextS s (mostV i n))).2)]
theorem node_n0 : NodeC 0 := by
 intro s i n hs hi0 hin hn hk
 have hmi := most_in i n
 have hwn := w64 (n := n - 1) (by omega)
 obtain ⟨s1, he1⟩ : ∃ s1, s1 = nextS s (mostV i n) := ⟨_, rfl⟩
 have hs1 : s1.ok := by rw [he1]; exact ok_next hs _
 have hN := next_k 1000000 s hs (mostV i n) (by omega)
 rw [hk, ← he1] at hN
 rw [← he1]
 have h5 := nextV_in s1 (n := 5) (by omega)
 have hs2 := ok_next hs1 5
 have h6 := nextV_in (nextS s1 5) (n := 5 - nextV s1 5) (by omega)
 have hw5 := w64 (n := 5 - nextV s1 5) (by omega)
 have hw6 := w64 (n := nextV s1 5 + nextV (nextS s1 5) (5 - nextV s1 5)) (by omega)
 have hg1 := lit_get (fun x => [C.int .i64 x]) rangeL 0 (v := nextV s1 5) ⟨h5.1, by show _ < (5 : Int); omega⟩
 have hg2 := lit_get (fun x => [C.int .i64 x]) rangeL 0 (v := nextV s1 5 + nextV (nextS s1 5) (5 - nextV s1 5)) ⟨by omega, by show _ < (5 : Int); omega⟩
 unfold drawK
 simp only [Int.reduceEq, decide_true, decide_false, cond_true, cond_false, Bool.or_true, Bool.true_or, Bool.or_false, kidsM]
 cases hm0 : decide (i = n - 1) with
 | false =>
  have hm1 : mostV i n = 18 := by unfold mostV; rw [hm0]; rfl
  rw [hm1] at hN
  refine PCB.ob Tryz.func80 Tryz.ntmps80 Tryz.results80 ?_
  repeat' (first | (simp only [go_sem, zA, zB, zC, zD, zE, zF, zG, reduceCtorEq, zH, zI, zJ, zK, zL, pin, hwn, hm0, hw5, hw6]; all_goals refine nf ?_) | (refine stp ?_; intro K hK) | (apply hK; clear hK K) | refine stn ?_ | (refine ⟨1000000, _, _, _, hN, rfl, ?_⟩) | (refine ⟨1000000, _, _, _, next_k 1000000 s1 hs1 5 (by omega), rfl, ?_⟩) | (refine ⟨1000000, _, _, _, next_k 1000000 _ hs2 (5 - nextV s1 5) (by omega), rfl, ?_⟩) | ( refine ⟨(by omega : _ ≤ _), _, hg1, ?_⟩) | ( refine ⟨(by omega : _ ≤ _), _, hg2, ?_⟩) | (with_reducible refine AWP.genR (id := 8) [9,14] [1000000,6] mixed (by kernel_rfl) fun K hK => ?_; simp only [Bx.outs, Bx.drop, cond_true, cond_false, Nat.reduceBEq, go_sem]) | refine stq ?_ | (clear hK K))
  all_goals (try simp only [*])
  all_goals first | exact ⟨rfl, fun x hx => by simp only [lN] at hx; subst hx; simp [pin]⟩ | (intro x hx; simp only [lN] at hx; subst hx; simp [pin]) | fail
 | true =>
  have hm1 : mostV i n = 14 := by unfold mostV; rw [hm0]; rfl
  rw [hm1] at hN
  refine PCB.ob Tryz.func80 Tryz.ntmps80 Tryz.results80 ?_
  repeat' (first | (simp only [go_sem, zA, zB, zC, zD, zE, zF, zG, reduceCtorEq, zH, zI, zJ, zK, zL, pin, hwn, hm0, hw5, hw6]; all_goals refine nf ?_) | (refine stp ?_; intro K hK) | (apply hK; clear hK K) | refine stn ?_ | (refine ⟨1000000, _, _, _, hN, rfl, ?_⟩) | (refine ⟨1000000, _, _, _, next_k 1000000 s1 hs1 5 (by omega), rfl, ?_⟩) | (refine ⟨1000000, _, _, _, next_k 1000000 _ hs2 (5 - nextV s1 5) (by omega), rfl, ?_⟩) | ( refine ⟨(by omega : _ ≤ _), _, hg1, ?_⟩) | ( refine ⟨(by omega : _ ≤ _), _, hg2, ?_⟩) | (with_reducible refine AWP.genR (id := 8) [9,14] [1000000,6] mixed (by kernel_rfl) fun K hK => ?_; simp only [Bx.outs, Bx.drop, cond_true, cond_false, Nat.reduceBEq, go_sem]) | refine stq ?_ | (clear hK K))
  all_goals (try simp only [*])
  all_goals first | exact ⟨rfl, fun x hx => by simp only [lN] at hx; subst hx; simp [pin]⟩ | (intro x hx; simp only [lN] at hx; subst hx; simp [pin]) | fail
theorem node_n1 : NodeC 1 := by
 intro s i n hs hi0 hin hn hk
 have hmi := most_in i n
 have hwn := w64 (n := n - 1) (by omega)
 obtain ⟨s1, he1⟩ : ∃ s1, s1 = nextS s (mostV i n) := ⟨_, rfl⟩
 have hs1 : s1.ok := by rw [he1]; exact ok_next hs _
 have hN := next_k 1000000 s hs (mostV i n) (by omega)
 rw [hk, ← he1] at hN
 rw [← he1]
 unfold drawK
 simp only [Int.reduceEq, decide_true, decide_false, cond_true, cond_false, Bool.or_true, Bool.true_or, Bool.or_false, kidsM]
 cases hm0 : decide (i = n - 1) with
 | false =>
  have hm1 : mostV i n = 18 := by unfold mostV; rw [hm0]; rfl
  rw [hm1] at hN
  refine PCB.ob Tryz.func80 Tryz.ntmps80 Tryz.results80 ?_
  repeat' (first | (simp only [go_sem, zA, zB, zC, zD, zE, zF, zG, reduceCtorEq, zH, zI, zJ, zK, zL, pin, hwn, hm0]; all_goals refine nf ?_) | (refine stp ?_; intro K hK) | (apply hK; clear hK K) | refine stn ?_ | (refine ⟨1000000, _, _, _, hN, rfl, ?_⟩) | (refine ⟨1000000, _, _, _, atomName_k 1000000 s1 hs1, rfl, ?_⟩) | refine stq ?_ | (clear hK K))
  all_goals (try simp only [*])
  all_goals first | exact ⟨rfl, fun x hx => by simp only [lN] at hx; subst hx; simp [pin]⟩ | (intro x hx; simp only [lN] at hx; subst hx; simp [pin]) | fail
 | true =>
  have hm1 : mostV i n = 14 := by unfold mostV; rw [hm0]; rfl
  rw [hm1] at hN
  refine PCB.ob Tryz.func80 Tryz.ntmps80 Tryz.results80 ?_
  repeat' (first | (simp only [go_sem, zA, zB, zC, zD, zE, zF, zG, reduceCtorEq, zH, zI, zJ, zK, zL, pin, hwn, hm0]; all_goals refine nf ?_) | (refine stp ?_; intro K hK) | (apply hK; clear hK K) | refine stn ?_ | (refine ⟨1000000, _, _, _, hN, rfl, ?_⟩) | (refine ⟨1000000, _, _, _, atomName_k 1000000 s1 hs1, rfl, ?_⟩) | refine stq ?_ | (clear hK K))
  all_goals (try simp only [*])
  all_goals first | exact ⟨rfl, fun x hx => by simp only [lN] at hx; subst hx; simp [pin]⟩ | (intro x hx; simp only [lN] at hx; subst hx; simp [pin]) | fail
theorem node_n2 : NodeC 2 := by
 intro s i n hs hi0 hin hn hk
 have hmi := most_in i n
 have hwn := w64 (n := n - 1) (by omega)
 obtain ⟨s1, he1⟩ : ∃ s1, s1 = nextS s (mostV i n) := ⟨_, rfl⟩
 have hs1 : s1.ok := by rw [he1]; exact ok_next hs _
 have hN := next_k 1000000 s hs (mostV i n) (by omega)
 rw [hk, ← he1] at hN
 rw [← he1]
 unfold drawK
 simp only [Int.reduceEq, decide_true, decide_false, cond_true, cond_false, Bool.or_true, Bool.true_or, Bool.or_false, kidsM]
 cases hm0 : decide (i = n - 1) with
 | false =>
  have hm1 : mostV i n = 18 := by unfold mostV; rw [hm0]; rfl
  rw [hm1] at hN
  refine PCB.ob Tryz.func80 Tryz.ntmps80 Tryz.results80 ?_
  repeat' (first | (simp only [go_sem, zA, zB, zC, zD, zE, zF, zG, reduceCtorEq, zH, zI, zJ, zK, zL, pin, hwn, hm0]; all_goals refine nf ?_) | (refine stp ?_; intro K hK) | (apply hK; clear hK K) | refine stn ?_ | (refine ⟨1000000, _, _, _, hN, rfl, ?_⟩) | refine stq ?_ | (clear hK K))
  all_goals (try simp only [*])
  all_goals first | exact ⟨rfl, fun x hx => by simp only [lN] at hx; subst hx; simp [pin]⟩ | (intro x hx; simp only [lN] at hx; subst hx; simp [pin]) | fail
 | true =>
  have hm1 : mostV i n = 14 := by unfold mostV; rw [hm0]; rfl
  rw [hm1] at hN
  refine PCB.ob Tryz.func80 Tryz.ntmps80 Tryz.results80 ?_
  repeat' (first | (simp only [go_sem, zA, zB, zC, zD, zE, zF, zG, reduceCtorEq, zH, zI, zJ, zK, zL, pin, hwn, hm0]; all_goals refine nf ?_) | (refine stp ?_; intro K hK) | (apply hK; clear hK K) | refine stn ?_ | (refine ⟨1000000, _, _, _, hN, rfl, ?_⟩) | refine stq ?_ | (clear hK K))
  all_goals (try simp only [*])
  all_goals first | exact ⟨rfl, fun x hx => by simp only [lN] at hx; subst hx; simp [pin]⟩ | (intro x hx; simp only [lN] at hx; subst hx; simp [pin]) | fail
theorem node_n3 : NodeC 3 := by
 intro s i n hs hi0 hin hn hk
 have hmi := most_in i n
 have hwn := w64 (n := n - 1) (by omega)
 obtain ⟨s1, he1⟩ : ∃ s1, s1 = nextS s (mostV i n) := ⟨_, rfl⟩
 have hs1 : s1.ok := by rw [he1]; exact ok_next hs _
 have hN := next_k 1000000 s hs (mostV i n) (by omega)
 rw [hk, ← he1] at hN
 rw [← he1]
 unfold drawK
 simp only [Int.reduceEq, decide_true, decide_false, cond_true, cond_false, Bool.or_true, Bool.true_or, Bool.or_false, kidsM]
 cases hm0 : decide (i = n - 1) with
 | false =>
  have hm1 : mostV i n = 18 := by unfold mostV; rw [hm0]; rfl
  rw [hm1] at hN
  refine PCB.ob Tryz.func80 Tryz.ntmps80 Tryz.results80 ?_
  repeat' (first | (simp only [go_sem, zA, zB, zC, zD, zE, zF, zG, reduceCtorEq, zH, zI, zJ, zK, zL, pin, hwn, hm0]; all_goals refine nf ?_) | (refine stp ?_; intro K hK) | (apply hK; clear hK K) | refine stn ?_ | (refine ⟨1000000, _, _, _, hN, rfl, ?_⟩) | (refine ⟨1000000, _, _, _, word_k 1000000 s1 hs1, rfl, ?_⟩) | refine stq ?_ | (clear hK K))
  all_goals (try simp only [*])
  all_goals first | exact ⟨rfl, fun x hx => by simp only [lN] at hx; subst hx; simp [pin]⟩ | (intro x hx; simp only [lN] at hx; subst hx; simp [pin]) | fail
 | true =>
  have hm1 : mostV i n = 14 := by unfold mostV; rw [hm0]; rfl
  rw [hm1] at hN
  refine PCB.ob Tryz.func80 Tryz.ntmps80 Tryz.results80 ?_
  repeat' (first | (simp only [go_sem, zA, zB, zC, zD, zE, zF, zG, reduceCtorEq, zH, zI, zJ, zK, zL, pin, hwn, hm0]; all_goals refine nf ?_) | (refine stp ?_; intro K hK) | (apply hK; clear hK K) | refine stn ?_ | (refine ⟨1000000, _, _, _, hN, rfl, ?_⟩) | (refine ⟨1000000, _, _, _, word_k 1000000 s1 hs1, rfl, ?_⟩) | refine stq ?_ | (clear hK K))
  all_goals (try simp only [*])
  all_goals first | exact ⟨rfl, fun x hx => by simp only [lN] at hx; subst hx; simp [pin]⟩ | (intro x hx; simp only [lN] at hx; subst hx; simp [pin]) | fail
theorem node_n4 : NodeC 4 := by
 intro s i n hs hi0 hin hn hk
 have hmi := most_in i n
 have hwn := w64 (n := n - 1) (by omega)
 obtain ⟨s1, he1⟩ : ∃ s1, s1 = nextS s (mostV i n) := ⟨_, rfl⟩
 have hs1 : s1.ok := by rw [he1]; exact ok_next hs _
 have hN := next_k 1000000 s hs (mostV i n) (by omega)
 rw [hk, ← he1] at hN
 rw [← he1]
 have h5 := nextV_in s1 (n := 4) (by omega)
 have hg1 := lit_get (fun x => [C.int .i64 x]) plainL 0 (v := nextV s1 4) ⟨h5.1, by show _ < (4 : Int); omega⟩
 unfold drawK
 simp only [Int.reduceEq, decide_true, decide_false, cond_true, cond_false, Bool.or_true, Bool.true_or, Bool.or_false, kidsM]
 cases hm0 : decide (i = n - 1) with
 | false =>
  have hm1 : mostV i n = 18 := by unfold mostV; rw [hm0]; rfl
  rw [hm1] at hN
  refine PCB.ob Tryz.func80 Tryz.ntmps80 Tryz.results80 ?_
  repeat' (first | (simp only [go_sem, zA, zB, zC, zD, zE, zF, zG, reduceCtorEq, zH, zI, zJ, zK, zL, pin, hwn, hm0]; all_goals refine nf ?_) | (refine stp ?_; intro K hK) | (apply hK; clear hK K) | refine stn ?_ | (refine ⟨1000000, _, _, _, hN, rfl, ?_⟩) | (refine ⟨1000000, _, _, _, next_k 1000000 s1 hs1 4 (by omega), rfl, ?_⟩) | ( refine ⟨(by omega : _ ≤ _), _, hg1, ?_⟩) | refine stq ?_ | (clear hK K))
  all_goals (try simp only [*])
  all_goals first | exact ⟨rfl, fun x hx => by simp only [lN] at hx; subst hx; simp [pin]⟩ | (intro x hx; simp only [lN] at hx; subst hx; simp [pin]) | fail
 | true =>
  have hm1 : mostV i n = 14 := by unfold mostV; rw [hm0]; rfl
  rw [hm1] at hN
  refine PCB.ob Tryz.func80 Tryz.ntmps80 Tryz.results80 ?_
  repeat' (first | (simp only [go_sem, zA, zB, zC, zD, zE, zF, zG, reduceCtorEq, zH, zI, zJ, zK, zL, pin, hwn, hm0]; all_goals refine nf ?_) | (refine stp ?_; intro K hK) | (apply hK; clear hK K) | refine stn ?_ | (refine ⟨1000000, _, _, _, hN, rfl, ?_⟩) | (refine ⟨1000000, _, _, _, next_k 1000000 s1 hs1 4 (by omega), rfl, ?_⟩) | ( refine ⟨(by omega : _ ≤ _), _, hg1, ?_⟩) | refine stq ?_ | (clear hK K))
  all_goals (try simp only [*])
  all_goals first | exact ⟨rfl, fun x hx => by simp only [lN] at hx; subst hx; simp [pin]⟩ | (intro x hx; simp only [lN] at hx; subst hx; simp [pin]) | fail
theorem node_n5 : NodeC 5 := by
 intro s i n hs hi0 hin hn hk
 have hmi := most_in i n
 have hwn := w64 (n := n - 1) (by omega)
 obtain ⟨s1, he1⟩ : ∃ s1, s1 = nextS s (mostV i n) := ⟨_, rfl⟩
 have hs1 : s1.ok := by rw [he1]; exact ok_next hs _
 have hN := next_k 1000000 s hs (mostV i n) (by omega)
 rw [hk, ← he1] at hN
 rw [← he1]
 unfold drawK
 simp only [Int.reduceEq, decide_true, decide_false, cond_true, cond_false, Bool.or_true, Bool.true_or, Bool.or_false, kidsM]
 cases hm0 : decide (i = n - 1) with
 | false =>
  have hm1 : mostV i n = 18 := by unfold mostV; rw [hm0]; rfl
  rw [hm1] at hN
  refine PCB.ob Tryz.func80 Tryz.ntmps80 Tryz.results80 ?_
  repeat' (first | (simp only [go_sem, zA, zB, zC, zD, zE, zF, zG, reduceCtorEq, zH, zI, zJ, zK, zL, pin, hwn, hm0]; all_goals refine nf ?_) | (refine stp ?_; intro K hK) | (apply hK; clear hK K) | refine stn ?_ | (refine ⟨1000000, _, _, _, hN, rfl, ?_⟩) | refine stq ?_ | (clear hK K))
  all_goals (try simp only [*])
  all_goals first | exact ⟨rfl, fun x hx => by simp only [lN] at hx; subst hx; simp [pin]⟩ | (intro x hx; simp only [lN] at hx; subst hx; simp [pin]) | fail
 | true =>
  have hm1 : mostV i n = 14 := by unfold mostV; rw [hm0]; rfl
  rw [hm1] at hN
  refine PCB.ob Tryz.func80 Tryz.ntmps80 Tryz.results80 ?_
  repeat' (first | (simp only [go_sem, zA, zB, zC, zD, zE, zF, zG, reduceCtorEq, zH, zI, zJ, zK, zL, pin, hwn, hm0]; all_goals refine nf ?_) | (refine stp ?_; intro K hK) | (apply hK; clear hK K) | refine stn ?_ | (refine ⟨1000000, _, _, _, hN, rfl, ?_⟩) | refine stq ?_ | (clear hK K))
  all_goals (try simp only [*])
  all_goals first | exact ⟨rfl, fun x hx => by simp only [lN] at hx; subst hx; simp [pin]⟩ | (intro x hx; simp only [lN] at hx; subst hx; simp [pin]) | fail
theorem node_n6 : NodeC 6 := by
 intro s i n hs hi0 hin hn hk
 have hmi := most_in i n
 have hwn := w64 (n := n - 1) (by omega)
 obtain ⟨s1, he1⟩ : ∃ s1, s1 = nextS s (mostV i n) := ⟨_, rfl⟩
 have hs1 : s1.ok := by rw [he1]; exact ok_next hs _
 have hN := next_k 1000000 s hs (mostV i n) (by omega)
 rw [hk, ← he1] at hN
 rw [← he1]
 have h5 := nextV_in s1 (n := 2) (by omega)
 have hg1 := lit_get (fun x => [C.int .i64 x]) anyL 0 (v := nextV s1 2) ⟨h5.1, by show _ < (2 : Int); omega⟩
 unfold drawK
 simp only [Int.reduceEq, decide_true, decide_false, cond_true, cond_false, Bool.or_true, Bool.true_or, Bool.or_false, kidsM]
 cases hm0 : decide (i = n - 1) with
 | false =>
  have hm1 : mostV i n = 18 := by unfold mostV; rw [hm0]; rfl
  rw [hm1] at hN
  refine PCB.ob Tryz.func80 Tryz.ntmps80 Tryz.results80 ?_
  repeat' (first | (simp only [go_sem, zA, zB, zC, zD, zE, zF, zG, reduceCtorEq, zH, zI, zJ, zK, zL, pin, hwn, hm0]; all_goals refine nf ?_) | (refine stp ?_; intro K hK) | (apply hK; clear hK K) | refine stn ?_ | (refine ⟨1000000, _, _, _, hN, rfl, ?_⟩) | (refine ⟨1000000, _, _, _, next_k 1000000 s1 hs1 2 (by omega), rfl, ?_⟩) | ( refine ⟨(by omega : _ ≤ _), _, hg1, ?_⟩) | refine stq ?_ | (clear hK K))
  all_goals (try simp only [*])
  all_goals first | exact ⟨rfl, fun x hx => by simp only [lN] at hx; subst hx; simp [pin]⟩ | (intro x hx; simp only [lN] at hx; subst hx; simp [pin]) | fail
 | true =>
  have hm1 : mostV i n = 14 := by unfold mostV; rw [hm0]; rfl
  rw [hm1] at hN
  refine PCB.ob Tryz.func80 Tryz.ntmps80 Tryz.results80 ?_
  repeat' (first | (simp only [go_sem, zA, zB, zC, zD, zE, zF, zG, reduceCtorEq, zH, zI, zJ, zK, zL, pin, hwn, hm0]; all_goals refine nf ?_) | (refine stp ?_; intro K hK) | (apply hK; clear hK K) | refine stn ?_ | (refine ⟨1000000, _, _, _, hN, rfl, ?_⟩) | (refine ⟨1000000, _, _, _, next_k 1000000 s1 hs1 2 (by omega), rfl, ?_⟩) | ( refine ⟨(by omega : _ ≤ _), _, hg1, ?_⟩) | refine stq ?_ | (clear hK K))
  all_goals (try simp only [*])
  all_goals first | exact ⟨rfl, fun x hx => by simp only [lN] at hx; subst hx; simp [pin]⟩ | (intro x hx; simp only [lN] at hx; subst hx; simp [pin]) | fail
theorem node_n7 : NodeC 7 := by
 intro s i n hs hi0 hin hn hk
 have hmi := most_in i n
 have hwn := w64 (n := n - 1) (by omega)
 obtain ⟨s1, he1⟩ : ∃ s1, s1 = nextS s (mostV i n) := ⟨_, rfl⟩
 have hs1 : s1.ok := by rw [he1]; exact ok_next hs _
 have hN := next_k 1000000 s hs (mostV i n) (by omega)
 rw [hk, ← he1] at hN
 rw [← he1]
 unfold drawK
 simp only [Int.reduceEq, decide_true, decide_false, cond_true, cond_false, Bool.or_true, Bool.true_or, Bool.or_false, kidsM]
 cases hm0 : decide (i = n - 1) with
 | false =>
  have hm1 : mostV i n = 18 := by unfold mostV; rw [hm0]; rfl
  rw [hm1] at hN
  refine PCB.ob Tryz.func80 Tryz.ntmps80 Tryz.results80 ?_
  repeat' (first | (simp only [go_sem, zA, zB, zC, zD, zE, zF, zG, reduceCtorEq, zH, zI, zJ, zK, zL, pin, hwn, hm0]; all_goals refine nf ?_) | (refine stp ?_; intro K hK) | (apply hK; clear hK K) | refine stn ?_ | (refine ⟨1000000, _, _, _, hN, rfl, ?_⟩) | (refine ⟨1000000, _, _, _, label_k 1000000 s1 hs1, rfl, ?_⟩) | refine stq ?_ | (clear hK K))
  all_goals (try simp only [*])
  all_goals first | exact ⟨rfl, fun x hx => by simp only [lN] at hx; subst hx; simp [pin]⟩ | (intro x hx; simp only [lN] at hx; subst hx; simp [pin]) | fail
 | true =>
  have hm1 : mostV i n = 14 := by unfold mostV; rw [hm0]; rfl
  rw [hm1] at hN
  refine PCB.ob Tryz.func80 Tryz.ntmps80 Tryz.results80 ?_
  repeat' (first | (simp only [go_sem, zA, zB, zC, zD, zE, zF, zG, reduceCtorEq, zH, zI, zJ, zK, zL, pin, hwn, hm0]; all_goals refine nf ?_) | (refine stp ?_; intro K hK) | (apply hK; clear hK K) | refine stn ?_ | (refine ⟨1000000, _, _, _, hN, rfl, ?_⟩) | (refine ⟨1000000, _, _, _, label_k 1000000 s1 hs1, rfl, ?_⟩) | refine stq ?_ | (clear hK K))
  all_goals (try simp only [*])
  all_goals first | exact ⟨rfl, fun x hx => by simp only [lN] at hx; subst hx; simp [pin]⟩ | (intro x hx; simp only [lN] at hx; subst hx; simp [pin]) | fail
theorem node_n8 : NodeC 8 := by
 intro s i n hs hi0 hin hn hk
 have hmi := most_in i n
 have hwn := w64 (n := n - 1) (by omega)
 obtain ⟨s1, he1⟩ : ∃ s1, s1 = nextS s (mostV i n) := ⟨_, rfl⟩
 have hs1 : s1.ok := by rw [he1]; exact ok_next hs _
 have hN := next_k 1000000 s hs (mostV i n) (by omega)
 rw [hk, ← he1] at hN
 rw [← he1]
 have h5 := nextV_in s1 (n := 3) (by omega)
 have hs2 := ok_next hs1 3
 obtain ⟨m, hm⟩ : ∃ m : Nat, m = (nextV s1 3).toNat := ⟨_, rfl⟩
 have hmm : nextV s1 3 = (m : Int) := by omega
 have hI := indices_k 1000000 _ hs2 m (by omega) 0 n (by omega) (by omega) hn
 unfold drawK
 simp only [Int.reduceEq, decide_true, decide_false, cond_true, cond_false, Bool.or_true, Bool.true_or, Bool.or_false, kidsM]
 cases hm0 : decide (i = n - 1) with
 | false =>
  have hm1 : mostV i n = 18 := by unfold mostV; rw [hm0]; rfl
  rw [hm1] at hN
  refine PCB.ob Tryz.func80 Tryz.ntmps80 Tryz.results80 ?_
  repeat' (first | (simp only [go_sem, zA, zB, zC, zD, zE, zF, zG, reduceCtorEq, zH, zI, zJ, zK, zL, pin, hwn, hm0, hmm]; all_goals refine nf ?_) | (refine stp ?_; intro K hK) | (apply hK; clear hK K) | refine stn ?_ | (refine ⟨1000000, _, _, _, hN, rfl, ?_⟩) | (refine ⟨1000000, _, _, _, next_k 1000000 s1 hs1 3 (by omega), rfl, ?_⟩) | (refine ⟨1000000, _, _, _, hI, rfl, ?_⟩) | refine stq ?_ | (clear hK K))
  all_goals (try rw [← hm]; try simp only [*])
  all_goals first | exact ⟨rfl, fun x hx => by simp only [lN] at hx; subst hx; simp [pin]⟩ | (intro x hx; simp only [lN] at hx; subst hx; simp [pin]) | fail
 | true =>
  have hm1 : mostV i n = 14 := by unfold mostV; rw [hm0]; rfl
  rw [hm1] at hN
  refine PCB.ob Tryz.func80 Tryz.ntmps80 Tryz.results80 ?_
  repeat' (first | (simp only [go_sem, zA, zB, zC, zD, zE, zF, zG, reduceCtorEq, zH, zI, zJ, zK, zL, pin, hwn, hm0, hmm]; all_goals refine nf ?_) | (refine stp ?_; intro K hK) | (apply hK; clear hK K) | refine stn ?_ | (refine ⟨1000000, _, _, _, hN, rfl, ?_⟩) | (refine ⟨1000000, _, _, _, next_k 1000000 s1 hs1 3 (by omega), rfl, ?_⟩) | (refine ⟨1000000, _, _, _, hI, rfl, ?_⟩) | refine stq ?_ | (clear hK K))
  all_goals (try rw [← hm]; try simp only [*])
  all_goals first | exact ⟨rfl, fun x hx => by simp only [lN] at hx; subst hx; simp [pin]⟩ | (intro x hx; simp only [lN] at hx; subst hx; simp [pin]) | fail
theorem node_n9 : NodeC 9 := by
 intro s i n hs hi0 hin hn hk
 have hmi := most_in i n
 have hwn := w64 (n := n - 1) (by omega)
 obtain ⟨s1, he1⟩ : ∃ s1, s1 = nextS s (mostV i n) := ⟨_, rfl⟩
 have hs1 : s1.ok := by rw [he1]; exact ok_next hs _
 have hN := next_k 1000000 s hs (mostV i n) (by omega)
 rw [hk, ← he1] at hN
 rw [← he1]
 have h5 := nextV_in s1 (n := 3) (by omega)
 have hs2 := ok_next hs1 3
 obtain ⟨m, hm⟩ : ∃ m : Nat, m = (nextV s1 3).toNat := ⟨_, rfl⟩
 have hmm : nextV s1 3 = (m : Int) := by omega
 have hI := indices_k 1000000 _ hs2 m (by omega) 0 n (by omega) (by omega) hn
 unfold drawK
 simp only [Int.reduceEq, decide_true, decide_false, cond_true, cond_false, Bool.or_true, Bool.true_or, Bool.or_false, kidsM]
 cases hm0 : decide (i = n - 1) with
 | false =>
  have hm1 : mostV i n = 18 := by unfold mostV; rw [hm0]; rfl
  rw [hm1] at hN
  refine PCB.ob Tryz.func80 Tryz.ntmps80 Tryz.results80 ?_
  repeat' (first | (simp only [go_sem, zA, zB, zC, zD, zE, zF, zG, reduceCtorEq, zH, zI, zJ, zK, zL, pin, hwn, hm0, hmm]; all_goals refine nf ?_) | (refine stp ?_; intro K hK) | (apply hK; clear hK K) | refine stn ?_ | (refine ⟨1000000, _, _, _, hN, rfl, ?_⟩) | (refine ⟨1000000, _, _, _, next_k 1000000 s1 hs1 3 (by omega), rfl, ?_⟩) | (refine ⟨1000000, _, _, _, hI, rfl, ?_⟩) | refine stq ?_ | (clear hK K))
  all_goals (try rw [← hm]; try simp only [*])
  all_goals first | exact ⟨rfl, fun x hx => by simp only [lN] at hx; subst hx; simp [pin]⟩ | (intro x hx; simp only [lN] at hx; subst hx; simp [pin]) | fail
 | true =>
  have hm1 : mostV i n = 14 := by unfold mostV; rw [hm0]; rfl
  rw [hm1] at hN
  refine PCB.ob Tryz.func80 Tryz.ntmps80 Tryz.results80 ?_
  repeat' (first | (simp only [go_sem, zA, zB, zC, zD, zE, zF, zG, reduceCtorEq, zH, zI, zJ, zK, zL, pin, hwn, hm0, hmm]; all_goals refine nf ?_) | (refine stp ?_; intro K hK) | (apply hK; clear hK K) | refine stn ?_ | (refine ⟨1000000, _, _, _, hN, rfl, ?_⟩) | (refine ⟨1000000, _, _, _, next_k 1000000 s1 hs1 3 (by omega), rfl, ?_⟩) | (refine ⟨1000000, _, _, _, hI, rfl, ?_⟩) | refine stq ?_ | (clear hK K))
  all_goals (try rw [← hm]; try simp only [*])
  all_goals first | exact ⟨rfl, fun x hx => by simp only [lN] at hx; subst hx; simp [pin]⟩ | (intro x hx; simp only [lN] at hx; subst hx; simp [pin]) | fail
theorem node_n10 : NodeC 10 := by
 intro s i n hs hi0 hin hn hk
 have hmi := most_in i n
 have hwn := w64 (n := n - 1) (by omega)
 obtain ⟨s1, he1⟩ : ∃ s1, s1 = nextS s (mostV i n) := ⟨_, rfl⟩
 have hs1 : s1.ok := by rw [he1]; exact ok_next hs _
 have hN := next_k 1000000 s hs (mostV i n) (by omega)
 rw [hk, ← he1] at hN
 rw [← he1]
 have hI := indices_k 1000000 s1 hs1 2 (by omega) 0 n (by omega) (by omega) hn
 unfold drawK
 simp only [Int.reduceEq, decide_true, decide_false, cond_true, cond_false, Bool.or_true, Bool.true_or, Bool.or_false, kidsM]
 cases hm0 : decide (i = n - 1) with
 | false =>
  have hm1 : mostV i n = 18 := by unfold mostV; rw [hm0]; rfl
  rw [hm1] at hN
  refine PCB.ob Tryz.func80 Tryz.ntmps80 Tryz.results80 ?_
  repeat' (first | (simp only [go_sem, zA, zB, zC, zD, zE, zF, zG, reduceCtorEq, zH, zI, zJ, zK, zL, pin, hwn, hm0]; all_goals refine nf ?_) | (refine stp ?_; intro K hK) | (apply hK; clear hK K) | refine stn ?_ | (refine ⟨1000000, _, _, _, hN, rfl, ?_⟩) | (refine ⟨1000000, _, _, _, hI, rfl, ?_⟩) | refine stq ?_ | (clear hK K))
  all_goals (try simp only [*])
  all_goals first | exact ⟨rfl, fun x hx => by simp only [lN] at hx; subst hx; simp [pin]⟩ | (intro x hx; simp only [lN] at hx; subst hx; simp [pin]) | fail
 | true =>
  have hm1 : mostV i n = 14 := by unfold mostV; rw [hm0]; rfl
  rw [hm1] at hN
  refine PCB.ob Tryz.func80 Tryz.ntmps80 Tryz.results80 ?_
  repeat' (first | (simp only [go_sem, zA, zB, zC, zD, zE, zF, zG, reduceCtorEq, zH, zI, zJ, zK, zL, pin, hwn, hm0]; all_goals refine nf ?_) | (refine stp ?_; intro K hK) | (apply hK; clear hK K) | refine stn ?_ | (refine ⟨1000000, _, _, _, hN, rfl, ?_⟩) | (refine ⟨1000000, _, _, _, hI, rfl, ?_⟩) | refine stq ?_ | (clear hK K))
  all_goals (try simp only [*])
  all_goals first | exact ⟨rfl, fun x hx => by simp only [lN] at hx; subst hx; simp [pin]⟩ | (intro x hx; simp only [lN] at hx; subst hx; simp [pin]) | fail
theorem node_n11 : NodeC 11 := by
 intro s i n hs hi0 hin hn hk
 have hmi := most_in i n
 have hwn := w64 (n := n - 1) (by omega)
 obtain ⟨s1, he1⟩ : ∃ s1, s1 = nextS s (mostV i n) := ⟨_, rfl⟩
 have hs1 : s1.ok := by rw [he1]; exact ok_next hs _
 have hN := next_k 1000000 s hs (mostV i n) (by omega)
 rw [hk, ← he1] at hN
 rw [← he1]
 have hM := mapping_k 1000000 s1 hs1 n (by omega)
 unfold drawK
 simp only [Int.reduceEq, decide_true, decide_false, cond_true, cond_false, Bool.or_true, Bool.true_or, Bool.or_false, kidsM]
 cases hm0 : decide (i = n - 1) with
 | false =>
  have hm1 : mostV i n = 18 := by unfold mostV; rw [hm0]; rfl
  rw [hm1] at hN
  refine PCB.ob Tryz.func80 Tryz.ntmps80 Tryz.results80 ?_
  repeat' (first | (simp only [go_sem, zA, zB, zC, zD, zE, zF, zG, reduceCtorEq, zH, zI, zJ, zK, zL, pin, hwn, hm0]; all_goals refine nf ?_) | (refine stp ?_; intro K hK) | (apply hK; clear hK K) | refine stn ?_ | (refine ⟨1000000, _, _, _, hN, rfl, ?_⟩) | (refine ⟨1000000, _, _, _, hM, rfl, ?_⟩) | refine stq ?_ | (clear hK K))
  all_goals (try simp only [*])
  all_goals first | exact ⟨rfl, fun x hx => by simp only [lN] at hx; subst hx; simp [pin]⟩ | (intro x hx; simp only [lN] at hx; subst hx; simp [pin]) | fail
 | true =>
  have hm1 : mostV i n = 14 := by unfold mostV; rw [hm0]; rfl
  rw [hm1] at hN
  refine PCB.ob Tryz.func80 Tryz.ntmps80 Tryz.results80 ?_
  repeat' (first | (simp only [go_sem, zA, zB, zC, zD, zE, zF, zG, reduceCtorEq, zH, zI, zJ, zK, zL, pin, hwn, hm0]; all_goals refine nf ?_) | (refine stp ?_; intro K hK) | (apply hK; clear hK K) | refine stn ?_ | (refine ⟨1000000, _, _, _, hN, rfl, ?_⟩) | (refine ⟨1000000, _, _, _, hM, rfl, ?_⟩) | refine stq ?_ | (clear hK K))
  all_goals (try simp only [*])
  all_goals first | exact ⟨rfl, fun x hx => by simp only [lN] at hx; subst hx; simp [pin]⟩ | (intro x hx; simp only [lN] at hx; subst hx; simp [pin]) | fail
theorem node_n12 : NodeC 12 := by
 intro s i n hs hi0 hin hn hk
 have hmi := most_in i n
 have hwn := w64 (n := n - 1) (by omega)
 obtain ⟨s1, he1⟩ : ∃ s1, s1 = nextS s (mostV i n) := ⟨_, rfl⟩
 have hs1 : s1.ok := by rw [he1]; exact ok_next hs _
 have hN := next_k 1000000 s hs (mostV i n) (by omega)
 rw [hk, ← he1] at hN
 rw [← he1]
 have h5 := nextV_in s1 (n := 3) (by omega)
 have hs2 := ok_next hs1 3
 obtain ⟨m, hm⟩ : ∃ m : Nat, m = (1 + nextV s1 3).toNat := ⟨_, rfl⟩
 have hmm : IntKind.i64.wrap (1 + nextV s1 3) = (m : Int) := by rw [w64 (by omega)]; omega
 have hI := indices_k 1000000 _ hs2 m (by omega) 0 n (by omega) (by omega) hn
 unfold drawK
 simp only [Int.reduceEq, decide_true, decide_false, cond_true, cond_false, Bool.or_true, Bool.true_or, Bool.or_false, kidsM]
 cases hm0 : decide (i = n - 1) with
 | false =>
  have hm1 : mostV i n = 18 := by unfold mostV; rw [hm0]; rfl
  rw [hm1] at hN
  refine PCB.ob Tryz.func80 Tryz.ntmps80 Tryz.results80 ?_
  repeat' (first | (simp only [go_sem, zA, zB, zC, zD, zE, zF, zG, reduceCtorEq, zH, zI, zJ, zK, zL, pin, hwn, hm0, hmm]; all_goals refine nf ?_) | (refine stp ?_; intro K hK) | (apply hK; clear hK K) | refine stn ?_ | (refine ⟨1000000, _, _, _, hN, rfl, ?_⟩) | (refine ⟨1000000, _, _, _, next_k 1000000 s1 hs1 3 (by omega), rfl, ?_⟩) | (refine ⟨1000000, _, _, _, hI, rfl, ?_⟩) | refine stq ?_ | (clear hK K))
  all_goals (try rw [← hm]; try simp only [*])
  all_goals first | exact ⟨rfl, fun x hx => by simp only [lN] at hx; subst hx; simp [pin]⟩ | (intro x hx; simp only [lN] at hx; subst hx; simp [pin]) | fail
 | true =>
  have hm1 : mostV i n = 14 := by unfold mostV; rw [hm0]; rfl
  rw [hm1] at hN
  refine PCB.ob Tryz.func80 Tryz.ntmps80 Tryz.results80 ?_
  repeat' (first | (simp only [go_sem, zA, zB, zC, zD, zE, zF, zG, reduceCtorEq, zH, zI, zJ, zK, zL, pin, hwn, hm0, hmm]; all_goals refine nf ?_) | (refine stp ?_; intro K hK) | (apply hK; clear hK K) | refine stn ?_ | (refine ⟨1000000, _, _, _, hN, rfl, ?_⟩) | (refine ⟨1000000, _, _, _, next_k 1000000 s1 hs1 3 (by omega), rfl, ?_⟩) | (refine ⟨1000000, _, _, _, hI, rfl, ?_⟩) | refine stq ?_ | (clear hK K))
  all_goals (try rw [← hm]; try simp only [*])
  all_goals first | exact ⟨rfl, fun x hx => by simp only [lN] at hx; subst hx; simp [pin]⟩ | (intro x hx; simp only [lN] at hx; subst hx; simp [pin]) | fail
theorem node_n13 : NodeC 13 := by
 intro s i n hs hi0 hin hn hk
 have hmi := most_in i n
 have hwn := w64 (n := n - 1) (by omega)
 obtain ⟨s1, he1⟩ : ∃ s1, s1 = nextS s (mostV i n) := ⟨_, rfl⟩
 have hs1 : s1.ok := by rw [he1]; exact ok_next hs _
 have hN := next_k 1000000 s hs (mostV i n) (by omega)
 rw [hk, ← he1] at hN
 rw [← he1]
 have h5 := nextV_in s1 (n := 3) (by omega)
 have hs2 := ok_next hs1 3
 obtain ⟨m, hm⟩ : ∃ m : Nat, m = (1 + nextV s1 3).toNat := ⟨_, rfl⟩
 have hmm : IntKind.i64.wrap (1 + nextV s1 3) = (m : Int) := by rw [w64 (by omega)]; omega
 have hI := indices_k 1000000 _ hs2 m (by omega) 0 n (by omega) (by omega) hn
 unfold drawK
 simp only [Int.reduceEq, decide_true, decide_false, cond_true, cond_false, Bool.or_true, Bool.true_or, Bool.or_false, kidsM]
 cases hm0 : decide (i = n - 1) with
 | false =>
  have hm1 : mostV i n = 18 := by unfold mostV; rw [hm0]; rfl
  rw [hm1] at hN
  refine PCB.ob Tryz.func80 Tryz.ntmps80 Tryz.results80 ?_
  repeat' (first | (simp only [go_sem, zA, zB, zC, zD, zE, zF, zG, reduceCtorEq, zH, zI, zJ, zK, zL, pin, hwn, hm0, hmm]; all_goals refine nf ?_) | (refine stp ?_; intro K hK) | (apply hK; clear hK K) | refine stn ?_ | (refine ⟨1000000, _, _, _, hN, rfl, ?_⟩) | (refine ⟨1000000, _, _, _, next_k 1000000 s1 hs1 3 (by omega), rfl, ?_⟩) | (refine ⟨1000000, _, _, _, hI, rfl, ?_⟩) | refine stq ?_ | (clear hK K))
  all_goals (try rw [← hm]; try simp only [*])
  all_goals first | exact ⟨rfl, fun x hx => by simp only [lN] at hx; subst hx; simp [pin]⟩ | (intro x hx; simp only [lN] at hx; subst hx; simp [pin]) | fail
 | true =>
  have hm1 : mostV i n = 14 := by unfold mostV; rw [hm0]; rfl
  rw [hm1] at hN
  refine PCB.ob Tryz.func80 Tryz.ntmps80 Tryz.results80 ?_
  repeat' (first | (simp only [go_sem, zA, zB, zC, zD, zE, zF, zG, reduceCtorEq, zH, zI, zJ, zK, zL, pin, hwn, hm0, hmm]; all_goals refine nf ?_) | (refine stp ?_; intro K hK) | (apply hK; clear hK K) | refine stn ?_ | (refine ⟨1000000, _, _, _, hN, rfl, ?_⟩) | (refine ⟨1000000, _, _, _, next_k 1000000 s1 hs1 3 (by omega), rfl, ?_⟩) | (refine ⟨1000000, _, _, _, hI, rfl, ?_⟩) | refine stq ?_ | (clear hK K))
  all_goals (try rw [← hm]; try simp only [*])
  all_goals first | exact ⟨rfl, fun x hx => by simp only [lN] at hx; subst hx; simp [pin]⟩ | (intro x hx; simp only [lN] at hx; subst hx; simp [pin]) | fail
theorem node_n14 : NodeC 14 := by
 intro s i n hs hi0 hin hn hk
 have hmi := most_in i n
 have hwn := w64 (n := n - 1) (by omega)
 obtain ⟨s1, he1⟩ : ∃ s1, s1 = nextS s (mostV i n) := ⟨_, rfl⟩
 have hs1 : s1.ok := by rw [he1]; exact ok_next hs _
 have hN := next_k 1000000 s hs (mostV i n) (by omega)
 rw [hk, ← he1] at hN
 rw [← he1]
 have hi : i + 1 < n := by
  rcases Decidable.em (i = n - 1) with h | h
  ·exfalso; have := nextV_in s (n := mostV i n) (most_in i n).1; rw [show mostV i n = 14 from by unfold mostV; rw [decide_eq_true h]; rfl] at this hk; omega
  ·omega
 have hw5 := w64 (n := i + 1) (by omega)
 have hI := indices_k 1000000 s1 hs1 1 (by omega) (i + 1) n (by omega) (by omega) hn
 unfold drawK
 simp only [Int.reduceEq, decide_true, decide_false, cond_true, cond_false, Bool.or_true, Bool.true_or, Bool.or_false, kidsM]
 cases hm0 : decide (i = n - 1) with
 | false =>
  have hm1 : mostV i n = 18 := by unfold mostV; rw [hm0]; rfl
  rw [hm1] at hN
  refine PCB.ob Tryz.func80 Tryz.ntmps80 Tryz.results80 ?_
  repeat' (first | (simp only [go_sem, zA, zB, zC, zD, zE, zF, zG, reduceCtorEq, zH, zI, zJ, zK, zL, pin, hwn, hm0, hw5]; all_goals refine nf ?_) | (refine stp ?_; intro K hK) | (apply hK; clear hK K) | refine stn ?_ | (refine ⟨1000000, _, _, _, hN, rfl, ?_⟩) | (refine ⟨1000000, _, _, _, hI, rfl, ?_⟩) | refine stq ?_ | (clear hK K))
  all_goals (try simp only [*])
  all_goals first | exact ⟨rfl, fun x hx => by simp only [lN] at hx; subst hx; simp [pin]⟩ | (intro x hx; simp only [lN] at hx; subst hx; simp [pin]) | fail
 | true =>
  have hm1 : mostV i n = 14 := by unfold mostV; rw [hm0]; rfl
  rw [hm1] at hN
  refine PCB.ob Tryz.func80 Tryz.ntmps80 Tryz.results80 ?_
  repeat' (first | (simp only [go_sem, zA, zB, zC, zD, zE, zF, zG, reduceCtorEq, zH, zI, zJ, zK, zL, pin, hwn, hm0, hw5]; all_goals refine nf ?_) | (refine stp ?_; intro K hK) | (apply hK; clear hK K) | refine stn ?_ | (refine ⟨1000000, _, _, _, hN, rfl, ?_⟩) | (refine ⟨1000000, _, _, _, hI, rfl, ?_⟩) | refine stq ?_ | (clear hK K))
  all_goals (try simp only [*])
  all_goals first | exact ⟨rfl, fun x hx => by simp only [lN] at hx; subst hx; simp [pin]⟩ | (intro x hx; simp only [lN] at hx; subst hx; simp [pin]) | fail
theorem node_n15 : NodeC 15 := by
 intro s i n hs hi0 hin hn hk
 have hmi := most_in i n
 have hwn := w64 (n := n - 1) (by omega)
 obtain ⟨s1, he1⟩ : ∃ s1, s1 = nextS s (mostV i n) := ⟨_, rfl⟩
 have hs1 : s1.ok := by rw [he1]; exact ok_next hs _
 have hN := next_k 1000000 s hs (mostV i n) (by omega)
 rw [hk, ← he1] at hN
 rw [← he1]
 have hi : i + 1 < n := by
  rcases Decidable.em (i = n - 1) with h | h
  ·exfalso; have := nextV_in s (n := mostV i n) (most_in i n).1; rw [show mostV i n = 14 from by unfold mostV; rw [decide_eq_true h]; rfl] at this hk; omega
  ·omega
 have hw5 := w64 (n := i + 1) (by omega)
 have hI := indices_k 1000000 s1 hs1 2 (by omega) (i + 1) n (by omega) (by omega) hn
 unfold drawK
 simp only [Int.reduceEq, decide_true, decide_false, cond_true, cond_false, Bool.or_true, Bool.true_or, Bool.or_false, kidsM]
 cases hm0 : decide (i = n - 1) with
 | false =>
  have hm1 : mostV i n = 18 := by unfold mostV; rw [hm0]; rfl
  rw [hm1] at hN
  refine PCB.ob Tryz.func80 Tryz.ntmps80 Tryz.results80 ?_
  repeat' (first | (simp only [go_sem, zA, zB, zC, zD, zE, zF, zG, reduceCtorEq, zH, zI, zJ, zK, zL, pin, hwn, hm0, hw5]; all_goals refine nf ?_) | (refine stp ?_; intro K hK) | (apply hK; clear hK K) | refine stn ?_ | (refine ⟨1000000, _, _, _, hN, rfl, ?_⟩) | (refine ⟨1000000, _, _, _, hI, rfl, ?_⟩) | refine stq ?_ | (clear hK K))
  all_goals (try simp only [*])
  all_goals first | exact ⟨rfl, fun x hx => by simp only [lN] at hx; subst hx; simp [pin]⟩ | (intro x hx; simp only [lN] at hx; subst hx; simp [pin]) | fail
 | true =>
  have hm1 : mostV i n = 14 := by unfold mostV; rw [hm0]; rfl
  rw [hm1] at hN
  refine PCB.ob Tryz.func80 Tryz.ntmps80 Tryz.results80 ?_
  repeat' (first | (simp only [go_sem, zA, zB, zC, zD, zE, zF, zG, reduceCtorEq, zH, zI, zJ, zK, zL, pin, hwn, hm0, hw5]; all_goals refine nf ?_) | (refine stp ?_; intro K hK) | (apply hK; clear hK K) | refine stn ?_ | (refine ⟨1000000, _, _, _, hN, rfl, ?_⟩) | (refine ⟨1000000, _, _, _, hI, rfl, ?_⟩) | refine stq ?_ | (clear hK K))
  all_goals (try simp only [*])
  all_goals first | exact ⟨rfl, fun x hx => by simp only [lN] at hx; subst hx; simp [pin]⟩ | (intro x hx; simp only [lN] at hx; subst hx; simp [pin]) | fail
theorem node_n16 : NodeC 16 := by
 intro s i n hs hi0 hin hn hk
 have hmi := most_in i n
 have hwn := w64 (n := n - 1) (by omega)
 obtain ⟨s1, he1⟩ : ∃ s1, s1 = nextS s (mostV i n) := ⟨_, rfl⟩
 have hs1 : s1.ok := by rw [he1]; exact ok_next hs _
 have hN := next_k 1000000 s hs (mostV i n) (by omega)
 rw [hk, ← he1] at hN
 rw [← he1]
 have hi : i + 1 < n := by
  rcases Decidable.em (i = n - 1) with h | h
  ·exfalso; have := nextV_in s (n := mostV i n) (most_in i n).1; rw [show mostV i n = 14 from by unfold mostV; rw [decide_eq_true h]; rfl] at this hk; omega
  ·omega
 have h5 := nextV_in s1 (n := 2) (by omega)
 have hs2 := ok_next hs1 2
 obtain ⟨m, hm⟩ : ∃ m : Nat, m = (2 + nextV s1 2).toNat := ⟨_, rfl⟩
 have hmm : IntKind.i64.wrap (2 + nextV s1 2) = (m : Int) := by rw [w64 (by omega)]; omega
 have hw5 := w64 (n := i + 1) (by omega)
 have hI := indices_k 1000000 _ hs2 m (by omega) (i + 1) n (by omega) (by omega) hn
 unfold drawK
 simp only [Int.reduceEq, decide_true, decide_false, cond_true, cond_false, Bool.or_true, Bool.true_or, Bool.or_false, kidsM]
 cases hm0 : decide (i = n - 1) with
 | false =>
  have hm1 : mostV i n = 18 := by unfold mostV; rw [hm0]; rfl
  rw [hm1] at hN
  refine PCB.ob Tryz.func80 Tryz.ntmps80 Tryz.results80 ?_
  repeat' (first | (simp only [go_sem, zA, zB, zC, zD, zE, zF, zG, reduceCtorEq, zH, zI, zJ, zK, zL, pin, hwn, hm0, hmm, hw5]; all_goals refine nf ?_) | (refine stp ?_; intro K hK) | (apply hK; clear hK K) | refine stn ?_ | (refine ⟨1000000, _, _, _, hN, rfl, ?_⟩) | (refine ⟨1000000, _, _, _, next_k 1000000 s1 hs1 2 (by omega), rfl, ?_⟩) | (refine ⟨1000000, _, _, _, hI, rfl, ?_⟩) | refine stq ?_ | fail)
  all_goals (try rw [← hm]; try simp only [*])
  all_goals first | exact ⟨rfl, fun x hx => by simp only [lN] at hx; subst hx; simp [pin]⟩ | (intro x hx; simp only [lN] at hx; subst hx; simp [pin]) | fail
 | true =>
  have hm1 : mostV i n = 14 := by unfold mostV; rw [hm0]; rfl
  rw [hm1] at hN
  refine PCB.ob Tryz.func80 Tryz.ntmps80 Tryz.results80 ?_
  repeat' (first | (simp only [go_sem, zA, zB, zC, zD, zE, zF, zG, reduceCtorEq, zH, zI, zJ, zK, zL, pin, hwn, hm0, hmm, hw5]; all_goals refine nf ?_) | (refine stp ?_; intro K hK) | (apply hK; clear hK K) | refine stn ?_ | (refine ⟨1000000, _, _, _, hN, rfl, ?_⟩) | (refine ⟨1000000, _, _, _, next_k 1000000 s1 hs1 2 (by omega), rfl, ?_⟩) | (refine ⟨1000000, _, _, _, hI, rfl, ?_⟩) | refine stq ?_ | fail)
  all_goals (try rw [← hm]; try simp only [*])
  all_goals first | exact ⟨rfl, fun x hx => by simp only [lN] at hx; subst hx; simp [pin]⟩ | (intro x hx; simp only [lN] at hx; subst hx; simp [pin]) | fail
theorem node_n17 : NodeC 17 := by
 intro s i n hs hi0 hin hn hk
 have hmi := most_in i n
 have hwn := w64 (n := n - 1) (by omega)
 obtain ⟨s1, he1⟩ : ∃ s1, s1 = nextS s (mostV i n) := ⟨_, rfl⟩
 have hs1 : s1.ok := by rw [he1]; exact ok_next hs _
 have hN := next_k 1000000 s hs (mostV i n) (by omega)
 rw [hk, ← he1] at hN
 rw [← he1]
 have hi : i + 1 < n := by
  rcases Decidable.em (i = n - 1) with h | h
  ·exfalso; have := nextV_in s (n := mostV i n) (most_in i n).1; rw [show mostV i n = 14 from by unfold mostV; rw [decide_eq_true h]; rfl] at this hk; omega
  ·omega
 have h5 := nextV_in s1 (n := 2) (by omega)
 have hs2 := ok_next hs1 2
 obtain ⟨m, hm⟩ : ∃ m : Nat, m = (2 + nextV s1 2).toNat := ⟨_, rfl⟩
 have hmm : IntKind.i64.wrap (2 + nextV s1 2) = (m : Int) := by rw [w64 (by omega)]; omega
 have hw5 := w64 (n := i + 1) (by omega)
 have hI := indices_k 1000000 _ hs2 m (by omega) (i + 1) n (by omega) (by omega) hn
 unfold drawK
 simp only [Int.reduceEq, decide_true, decide_false, cond_true, cond_false, Bool.or_true, Bool.true_or, Bool.or_false, kidsM]
 cases hm0 : decide (i = n - 1) with
 | false =>
  have hm1 : mostV i n = 18 := by unfold mostV; rw [hm0]; rfl
  rw [hm1] at hN
  refine PCB.ob Tryz.func80 Tryz.ntmps80 Tryz.results80 ?_
  repeat' (first | (simp only [go_sem, zA, zB, zC, zD, zE, zF, zG, reduceCtorEq, zH, zI, zJ, zK, zL, pin, hwn, hm0, hmm, hw5]; all_goals refine nf ?_) | (refine stp ?_; intro K hK) | (apply hK; clear hK K) | refine stn ?_ | (refine ⟨1000000, _, _, _, hN, rfl, ?_⟩) | (refine ⟨1000000, _, _, _, next_k 1000000 s1 hs1 2 (by omega), rfl, ?_⟩) | (refine ⟨1000000, _, _, _, hI, rfl, ?_⟩) | refine stq ?_ | fail)
  all_goals (try rw [← hm]; try simp only [*])
  all_goals first | exact ⟨rfl, fun x hx => by simp only [lN] at hx; subst hx; simp [pin]⟩ | (intro x hx; simp only [lN] at hx; subst hx; simp [pin]) | fail
 | true =>
  have hm1 : mostV i n = 14 := by unfold mostV; rw [hm0]; rfl
  rw [hm1] at hN
  refine PCB.ob Tryz.func80 Tryz.ntmps80 Tryz.results80 ?_
  repeat' (first | (simp only [go_sem, zA, zB, zC, zD, zE, zF, zG, reduceCtorEq, zH, zI, zJ, zK, zL, pin, hwn, hm0, hmm, hw5]; all_goals refine nf ?_) | (refine stp ?_; intro K hK) | (apply hK; clear hK K) | refine stn ?_ | (refine ⟨1000000, _, _, _, hN, rfl, ?_⟩) | (refine ⟨1000000, _, _, _, next_k 1000000 s1 hs1 2 (by omega), rfl, ?_⟩) | (refine ⟨1000000, _, _, _, hI, rfl, ?_⟩) | refine stq ?_ | fail)
  all_goals (try rw [← hm]; try simp only [*])
  all_goals first | exact ⟨rfl, fun x hx => by simp only [lN] at hx; subst hx; simp [pin]⟩ | (intro x hx; simp only [lN] at hx; subst hx; simp [pin]) | fail
theorem node_all (k : Int) (h0 : 0 ≤ k) (h1 : k < 18) : NodeC k := by
  have hk : k = 0 ∨ k = 1 ∨ k = 2 ∨ k = 3 ∨ k = 4 ∨ k = 5 ∨ k = 6 ∨ k = 7 ∨ k = 8 ∨ k = 9 ∨ k = 10 ∨ k = 11 ∨ k = 12 ∨ k = 13 ∨ k = 14 ∨ k = 15 ∨ k = 16 ∨ k = 17 := by omega
  rcases hk with rfl | rfl | rfl | rfl | rfl | rfl | rfl | rfl | rfl | rfl | rfl | rfl | rfl | rfl | rfl | rfl | rfl | rfl
  · exact node_n0
  · exact node_n1
  · exact node_n2
  · exact node_n3
  · exact node_n4
  · exact node_n5
  · exact node_n6
  · exact node_n7
  · exact node_n8
  · exact node_n9
  · exact node_n10
  · exact node_n11
  · exact node_n12
  · exact node_n13
  · exact node_n14
  · exact node_n15
  · exact node_n16
  · exact node_n17
theorem nodeG_c (s : Src) (hs : s.ok) (i n : Int) (hi0 : 0 ≤ i) (hin : i < n) (hn : n ≤ 1000) : PCB Tryz.prog 80 [Sp pin, I .i64 i, I .i64 n] [(pin, srcB s)] (Nt (drawN i n s).1) [(pin, srcB (drawN i n s).2)] := by
  have hv := nextV_in s (n := mostV i n) (most_in i n).1
  have := (most_in i n).2
  exact node_all _ hv.1 (by omega) s i n hs hi0 hin hn rfl
theorem nodeG_k (k : Nat) (s : Src) (hs : s.ok) (i n : Int) (hi0 : 0 ≤ i) (hin : i < n) (hn : n ≤ 1000) : PCBk Tryz.prog 80 [Sp k, I .i64 i, I .i64 n] k (srcB s) (Nt (drawN i n s).1) (srcB (drawN i n s).2) := PCBk.mk k (nodeG_c s hs i n hi0 hin hn)
end Go.Proofs.YthbcdhfiibpeaaaGreat

