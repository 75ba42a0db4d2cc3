/- A part of the proof: lemmas about the walk of the program and about plain integers and lists. No conditions beyond those that each lemma states. -/
import Derived.Test.YtmpfdejckbceiaaOp16
import Derived.Test.YtmpfdejckbceiaaOp17
set_option linter.unusedSimpArgs false
set_option linter.unusedVariables false
set_option maxRecDepth 20000
set_option maxHeartbeats 400000
namespace Go.Proofs.Ytmpfdejckbceiaa
open Go Go.Sx

/-- the source of numbers -/
structure Src where
  l : List Int
  pos : Nat
def Src.ok (s : Src) : Prop := (∀ x ∈ s.l, -9223372036854775808 ≤ x ∧ x ≤ 9223372036854775807) ∧ s.l.length ≤ 1000000
abbrev srcB (s : Src) : Res := .cells [.dat (.sl 1 (s.l.map encInt)), .dat (.int .i64 s.pos)]
abbrev Sp (k : Nat) : T := .one (.ptr k 0)
def emptyS (s : Src) (n : Int) : Bool := decide (n < 1) || decide ((s.l.length : Int) ≤ (s.pos : Int))
def nextV (s : Src) (n : Int) : Int := bif emptyS s n then 0 else bif decide (((s.l[s.pos]?).getD 0).tmod n < 0) then ((s.l[s.pos]?).getD 0).tmod n + n else ((s.l[s.pos]?).getD 0).tmod n
def nextS (s : Src) (n : Int) : Src := bif emptyS s n then s else { s with pos := s.pos + 1 }
theorem ok_next {s : Src} (h : s.ok) (n : Int) : (nextS s n).ok := by
  unfold nextS; cases emptyS s n <;> exact h
theorem nextV_in (s : Src) {n : Int} (hn : 1 ≤ n) : 0 ≤ nextV s n ∧ nextV s n < n := by
  unfold nextV
  cases emptyS s n with
  | true => simp only [cond_true]; omega
  | false =>
    simp only [cond_false]
    generalize (s.l[s.pos]?).getD 0 = x
    have h1 : (x.tmod n) < n := Int.tmod_lt_of_pos x (by omega)
    have h2 : -n < x.tmod n := by
      have := Int.lt_tmod_of_pos x (show 0 < n by omega)
      omega
    cases hc : decide (x.tmod n < 0) with
    | true => simp only [decide_eq_true_eq] at hc; simp only [cond_true]; omega
    | false => simp only [decide_eq_false_iff_not] at hc; simp only [cond_false]; omega

theorem next_c (s : Src) (hs : s.ok) (n : Int) (hn : 1 ≤ n ∧ n ≤ 1000000) : PCB Try.prog 30 [Sp pin, I .i64 n] [(pin, srcB s)] (I .i64 (nextV s n)) [(pin, srcB (nextS s n))] := by
  refine PCB.of_body Try.func30 rfl (by decide) Try.ntmps30 Try.results30 rfl rfl rfl ?_ rfl rfl
  have h1 : decide (n < 1) = false := by simp; omega
  by_cases hp : s.pos < s.l.length
  · have h2 : decide ((s.l.length : Int) ≤ (s.pos : Int)) = false := by simp; omega
    have hx : s.l[s.pos]? = some s.l[s.pos] := by simp [hp]
    have hx' : (s.l.map encInt)[s.pos]? = some (encInt s.l[s.pos]) := by simp [hp]
    have hn0 : ¬ n = 0 := by omega
    have hw : IntKind.i64.wrap ((s.pos : Int) + 1) = ((s.pos + 1 : Nat) : Int) := wrap_succ hp (by have := hs.2; omega)
    have hb1 := Int.tmod_lt_of_pos s.l[s.pos] (show 0 < n by omega)
    have hb2 := Int.lt_tmod_of_pos s.l[s.pos] (show 0 < n by omega)
    have hw2 : IntKind.i64.wrap (s.l[s.pos].tmod n + n) = s.l[s.pos].tmod n + n := by rw [w64 (by omega)]
    have he : emptyS s n = false := by unfold emptyS; rw [h1, h2]; rfl
    repeat' (first
      | ((first | with_reducible refine seqVC_stepN rfl fun K hK => ?_ | with_reducible refine seqVC_stepG rfl (by with_unfolding_all rfl) fun K hK => ?_); (try simp only [go_sem, Nat.reduceBEq, Nat.reduceBNe, Nat.reduceAdd, Nat.reduceSub, Nat.reduceMul, Nat.reduceLeDiff, Nat.reduceLT, reduceCtorEq, Nat.reduceEqDiff, Int.reduceToNat, Int.reduceLE, Int.reduceLT, Int.reduceEq, pin, List.length_map, h1, h2, hw, hw2]); all_goals fail_if_success guard_target =ₛ False)
      | with_reducible refine seqVC_nil ?_
      | (with_reducible refine hK _ _ _ ?_; clear hK K)
      | (with_reducible refine hK _ _ ?_; clear hK K)
      | (with_reducible refine hK _ ?_; clear hK K)
      | with_reducible refine AWP.seq fun K hK => ?_
      | (with_reducible refine AWP.seqR (by kernel_rfl) fun K hK => ?_)
      | ((first | with_reducible refine parVC_stepN rfl fun K hK => ?_ | with_reducible refine parVC_stepG rfl (by with_unfolding_all rfl) fun K hK => ?_ | with_reducible refine parEVC_stepN rfl fun K hK => ?_ | with_reducible refine parEVC_stepG rfl (by with_unfolding_all rfl) fun K hK => ?_ | with_reducible refine genVC_stepN rfl fun K hK => ?_ | with_reducible refine genVC_stepG rfl (by with_unfolding_all rfl) fun K hK => ?_); (try simp only [go_sem, Nat.reduceBEq, Nat.reduceBNe, Nat.reduceAdd, Nat.reduceSub, Nat.reduceMul, Nat.reduceLeDiff, Nat.reduceLT, reduceCtorEq, Nat.reduceEqDiff, Int.reduceToNat, Int.reduceLE, Int.reduceLT, Int.reduceEq, pin, List.length_map, h1, h2, hw, hw2]); all_goals fail_if_success guard_target =ₛ False)
      | with_reducible refine parVC_nil ?_
      | with_reducible refine parEVC_nil ?_
      | with_reducible refine genVC_nil ?_
      | (with_reducible refine AWP.cond (by with_unfolding_all rfl) (fun h => ?_) (fun h => ?_); all_goals (try simp only [Bool.not_eq_true', Bool.not_eq_false'] at h); (all_goals try first | (exact absurd h Bool.false_ne_true) | (exact absurd h.symm Bool.false_ne_true) | (exact absurd h (by decide))))
      | with_reducible refine AWP.skip ?_
      | with_reducible refine AWP.ret ?_
      | with_reducible refine AWP.block ?_
      | with_reducible refine AWP.exit ?_
      | (with_reducible refine ⟨fun h => ?_, fun h => ?_⟩ <;> (try simp only [Bool.not_eq_true', Bool.not_eq_false'] at h) <;> simp only [h, go_sem, Nat.reduceBEq, Nat.reduceBNe, Nat.reduceAdd, Nat.reduceSub, Nat.reduceMul, Nat.reduceLeDiff, Nat.reduceLT, reduceCtorEq, Nat.reduceEqDiff, Int.reduceToNat, Int.reduceLE, Int.reduceLT, Int.reduceEq, pin, List.length_map, h1, h2, hw, hw2])
      | (with_reducible refine ⟨by omega, encInt s.l[s.pos], hx', ?_⟩)
      | (with_reducible refine ⟨by omega, ?_⟩)
      | (with_reducible refine ⟨hn0, ?_⟩)
      | (with_reducible refine AWP.parR mixed (by kernel_rfl) fun K hK => ?_)
      | (with_reducible refine Or.inl ?_)
      | (simp only [go_sem, Nat.reduceBEq, Nat.reduceBNe, Nat.reduceAdd, Nat.reduceSub, Nat.reduceMul, Nat.reduceLeDiff, Nat.reduceLT, reduceCtorEq, Nat.reduceEqDiff, Int.reduceToNat, Int.reduceLE, Int.reduceLT, Int.reduceEq, pin, List.length_map, h1, h2, hw, hw2])
      | (clear hK K))
    all_goals (simp only [decide_eq_true_eq, decide_eq_false_iff_not] at h)
    all_goals (refine ⟨by simp only [nextV, he, cond_false, hx, Option.getD_some, h, decide_true, decide_false, cond_true], fun x hx => by simpa only [nextS, he, cond_false] using hx⟩)
  · have h2 : decide ((s.l.length : Int) ≤ (s.pos : Int)) = true := by simp; omega
    have he : emptyS s n = true := by unfold emptyS; rw [h1, h2]; rfl
    repeat' (first
      | ((first | with_reducible refine seqVC_stepN rfl fun K hK => ?_ | with_reducible refine seqVC_stepG rfl (by with_unfolding_all rfl) fun K hK => ?_); (try simp only [go_sem, Nat.reduceBEq, Nat.reduceBNe, Nat.reduceAdd, Nat.reduceSub, Nat.reduceMul, Nat.reduceLeDiff, Nat.reduceLT, reduceCtorEq, Nat.reduceEqDiff, Int.reduceToNat, Int.reduceLE, Int.reduceLT, Int.reduceEq, pin, List.length_map, h1, h2]); all_goals fail_if_success guard_target =ₛ False)
      | with_reducible refine seqVC_nil ?_
      | (with_reducible refine hK _ _ _ ?_; clear hK K)
      | (with_reducible refine hK _ _ ?_; clear hK K)
      | (with_reducible refine hK _ ?_; clear hK K)
      | with_reducible refine AWP.seq fun K hK => ?_
      | (with_reducible refine AWP.seqR (by kernel_rfl) fun K hK => ?_)
      | ((first | with_reducible refine parVC_stepN rfl fun K hK => ?_ | with_reducible refine parVC_stepG rfl (by with_unfolding_all rfl) fun K hK => ?_ | with_reducible refine parEVC_stepN rfl fun K hK => ?_ | with_reducible refine parEVC_stepG rfl (by with_unfolding_all rfl) fun K hK => ?_ | with_reducible refine genVC_stepN rfl fun K hK => ?_ | with_reducible refine genVC_stepG rfl (by with_unfolding_all rfl) fun K hK => ?_); (try simp only [go_sem, Nat.reduceBEq, Nat.reduceBNe, Nat.reduceAdd, Nat.reduceSub, Nat.reduceMul, Nat.reduceLeDiff, Nat.reduceLT, reduceCtorEq, Nat.reduceEqDiff, Int.reduceToNat, Int.reduceLE, Int.reduceLT, Int.reduceEq, pin, List.length_map, h1, h2]); all_goals fail_if_success guard_target =ₛ False)
      | with_reducible refine parVC_nil ?_
      | with_reducible refine parEVC_nil ?_
      | with_reducible refine genVC_nil ?_
      | (with_reducible refine AWP.cond (by with_unfolding_all rfl) (fun h => ?_) (fun h => ?_); all_goals (try simp only [Bool.not_eq_true', Bool.not_eq_false'] at h); (all_goals try first | (exact absurd h Bool.false_ne_true) | (exact absurd h.symm Bool.false_ne_true) | (exact absurd h (by decide))))
      | with_reducible refine AWP.skip ?_
      | with_reducible refine AWP.ret ?_
      | with_reducible refine AWP.block ?_
      | with_reducible refine AWP.exit ?_
      | (with_reducible refine ⟨fun h => ?_, fun h => ?_⟩ <;> (try simp only [Bool.not_eq_true', Bool.not_eq_false'] at h) <;> simp only [h, go_sem, Nat.reduceBEq, Nat.reduceBNe, Nat.reduceAdd, Nat.reduceSub, Nat.reduceMul, Nat.reduceLeDiff, Nat.reduceLT, reduceCtorEq, Nat.reduceEqDiff, Int.reduceToNat, Int.reduceLE, Int.reduceLT, Int.reduceEq, pin, List.length_map, h1, h2])
      | (with_reducible refine AWP.parR mixed (by kernel_rfl) fun K hK => ?_)
      | (with_reducible refine Or.inl ?_)
      | (simp only [go_sem, Nat.reduceBEq, Nat.reduceBNe, Nat.reduceAdd, Nat.reduceSub, Nat.reduceMul, Nat.reduceLeDiff, Nat.reduceLT, reduceCtorEq, Nat.reduceEqDiff, Int.reduceToNat, Int.reduceLE, Int.reduceLT, Int.reduceEq, pin, List.length_map, h1, h2])
      | (clear hK K))
    all_goals exact ⟨by simp only [nextV, he, cond_true], fun x hx => by simpa only [nextS, he, cond_true] using hx⟩
theorem next_k (k : Nat) (s : Src) (hs : s.ok) (n : Int) (hn : 1 ≤ n ∧ n ≤ 1000000) : PCBk Try.prog 30 [Sp k, I .i64 n] k (srcB s) (I .i64 (nextV s n)) (srcB (nextS s n)) := PCBk.mk k (next_c s hs n hn)

/-- a place of a literal -/
theorem lit_get {α : Type} (f : α → List C) (l : List α) (d : α) {v : Int} (hv : 0 ≤ v ∧ v < l.length) : (l.map f)[v.toNat]? = some (f (l.getD v.toNat d)) := by
  have h : v.toNat < l.length := by omega
  simp [List.getElem?_map, h]

def wordL : List (List UInt8) := [[], [115], [120, 32, 121], [97]]
def atomL : List (List UInt8) := [[97], [98], [111, 107], [101, 114, 114, 111, 114]]
def numL : List Int := [0, 1, -1, 2, 3, -2, 7, -9223372036854775808, 9223372036854775807, 10]
def wordV (s : Src) : List UInt8 := wordL.getD (nextV s 4).toNat []
def atomV (s : Src) : List UInt8 := atomL.getD (nextV s 4).toNat []
def numV (s : Src) : Int := numL.getD (nextV s 10).toNat 0
theorem word_c (s : Src) (hs : s.ok) : PCB Try.prog 31 [Sp pin] [(pin, srcB s)] (S (wordV s)) [(pin, srcB (nextS s 4))] := by
  refine PCB.of_body Try.func31 rfl (by decide) Try.ntmps31 Try.results31 rfl rfl rfl ?_ rfl rfl
  have hv := nextV_in s (n := 4) (by omega)
  repeat' (first
    | ((first | with_reducible refine seqVC_stepN rfl fun K hK => ?_ | with_reducible refine seqVC_stepG rfl (by with_unfolding_all rfl) fun K hK => ?_); (try simp only [go_sem, Nat.reduceBEq, Nat.reduceBNe, Nat.reduceAdd, Nat.reduceSub, Nat.reduceMul, Nat.reduceLeDiff, Nat.reduceLT, reduceCtorEq, Nat.reduceEqDiff, Int.reduceToNat, Int.reduceLE, Int.reduceLT, Int.reduceEq, pin]); all_goals fail_if_success guard_target =ₛ False)
    | with_reducible refine seqVC_nil ?_
    | (with_reducible refine hK _ _ _ ?_; clear hK K)
    | (with_reducible refine hK _ _ ?_; clear hK K)
    | (with_reducible refine hK _ ?_; clear hK K)
    | with_reducible refine AWP.seq fun K hK => ?_
    | (with_reducible refine AWP.seqR (by kernel_rfl) fun K hK => ?_)
    | ((first | with_reducible refine parVC_stepN rfl fun K hK => ?_ | with_reducible refine parVC_stepG rfl (by with_unfolding_all rfl) fun K hK => ?_ | with_reducible refine parEVC_stepN rfl fun K hK => ?_ | with_reducible refine parEVC_stepG rfl (by with_unfolding_all rfl) fun K hK => ?_ | with_reducible refine genVC_stepN rfl fun K hK => ?_ | with_reducible refine genVC_stepG rfl (by with_unfolding_all rfl) fun K hK => ?_); (try simp only [go_sem, Nat.reduceBEq, Nat.reduceBNe, Nat.reduceAdd, Nat.reduceSub, Nat.reduceMul, Nat.reduceLeDiff, Nat.reduceLT, reduceCtorEq, Nat.reduceEqDiff, Int.reduceToNat, Int.reduceLE, Int.reduceLT, Int.reduceEq, pin]); all_goals fail_if_success guard_target =ₛ False)
    | with_reducible refine parVC_nil ?_
    | with_reducible refine parEVC_nil ?_
    | with_reducible refine genVC_nil ?_
    | (with_reducible refine AWP.cond (by with_unfolding_all rfl) (fun h => ?_) (fun h => ?_); all_goals (try simp only [Bool.not_eq_true', Bool.not_eq_false'] at h); (all_goals try first | (exact absurd h Bool.false_ne_true) | (exact absurd h.symm Bool.false_ne_true) | (exact absurd h (by decide))))
    | with_reducible refine AWP.skip ?_
    | with_reducible refine AWP.ret ?_
    | with_reducible refine AWP.block ?_
    | with_reducible refine AWP.exit ?_
    | (with_reducible refine ⟨fun h => ?_, fun h => ?_⟩ <;> (try simp only [Bool.not_eq_true', Bool.not_eq_false'] at h) <;> simp only [h, go_sem, Nat.reduceBEq, Nat.reduceBNe, Nat.reduceAdd, Nat.reduceSub, Nat.reduceMul, Nat.reduceLeDiff, Nat.reduceLT, reduceCtorEq, Nat.reduceEqDiff, Int.reduceToNat, Int.reduceLE, Int.reduceLT, Int.reduceEq, pin])
    | ((first | (refine ⟨1000000, _, _, _, next_k 1000000 s hs 4 (by omega), rfl, ?_⟩)); try simp only [go_sem, Nat.reduceBEq, Nat.reduceBNe, Nat.reduceAdd, Nat.reduceSub, Nat.reduceMul, Nat.reduceLeDiff, Nat.reduceLT, reduceCtorEq, Nat.reduceEqDiff, Int.reduceToNat, Int.reduceLE, Int.reduceLT, Int.reduceEq, pin])
    | ( refine ⟨hv.1, [.str (wordV s)], lit_get (fun x => [C.str x]) wordL [] hv, ?_⟩)
    | (with_reducible refine AWP.parR mixed (by kernel_rfl) fun K hK => ?_)
    | (with_reducible refine Or.inl ?_)
    | (simp only [go_sem, Nat.reduceBEq, Nat.reduceBNe, Nat.reduceAdd, Nat.reduceSub, Nat.reduceMul, Nat.reduceLeDiff, Nat.reduceLT, reduceCtorEq, Nat.reduceEqDiff, Int.reduceToNat, Int.reduceLE, Int.reduceLT, Int.reduceEq, pin])
    | (clear hK K))
  all_goals exact fun x hx => hx
theorem atomName_c (s : Src) (hs : s.ok) : PCB Try.prog 52 [Sp pin] [(pin, srcB s)] (S (atomV s)) [(pin, srcB (nextS s 4))] := by
  refine PCB.of_body Try.func52 rfl (by decide) Try.ntmps52 Try.results52 rfl rfl rfl ?_ rfl rfl
  have hv := nextV_in s (n := 4) (by omega)
  repeat' (first
    | ((first | with_reducible refine seqVC_stepN rfl fun K hK => ?_ | with_reducible refine seqVC_stepG rfl (by with_unfolding_all rfl) fun K hK => ?_); (try simp only [go_sem, Nat.reduceBEq, Nat.reduceBNe, Nat.reduceAdd, Nat.reduceSub, Nat.reduceMul, Nat.reduceLeDiff, Nat.reduceLT, reduceCtorEq, Nat.reduceEqDiff, Int.reduceToNat, Int.reduceLE, Int.reduceLT, Int.reduceEq, pin]); all_goals fail_if_success guard_target =ₛ False)
    | with_reducible refine seqVC_nil ?_
    | (with_reducible refine hK _ _ _ ?_; clear hK K)
    | (with_reducible refine hK _ _ ?_; clear hK K)
    | (with_reducible refine hK _ ?_; clear hK K)
    | with_reducible refine AWP.seq fun K hK => ?_
    | (with_reducible refine AWP.seqR (by kernel_rfl) fun K hK => ?_)
    | ((first | with_reducible refine parVC_stepN rfl fun K hK => ?_ | with_reducible refine parVC_stepG rfl (by with_unfolding_all rfl) fun K hK => ?_ | with_reducible refine parEVC_stepN rfl fun K hK => ?_ | with_reducible refine parEVC_stepG rfl (by with_unfolding_all rfl) fun K hK => ?_ | with_reducible refine genVC_stepN rfl fun K hK => ?_ | with_reducible refine genVC_stepG rfl (by with_unfolding_all rfl) fun K hK => ?_); (try simp only [go_sem, Nat.reduceBEq, Nat.reduceBNe, Nat.reduceAdd, Nat.reduceSub, Nat.reduceMul, Nat.reduceLeDiff, Nat.reduceLT, reduceCtorEq, Nat.reduceEqDiff, Int.reduceToNat, Int.reduceLE, Int.reduceLT, Int.reduceEq, pin]); all_goals fail_if_success guard_target =ₛ False)
    | with_reducible refine parVC_nil ?_
    | with_reducible refine parEVC_nil ?_
    | with_reducible refine genVC_nil ?_
    | (with_reducible refine AWP.cond (by with_unfolding_all rfl) (fun h => ?_) (fun h => ?_); all_goals (try simp only [Bool.not_eq_true', Bool.not_eq_false'] at h); (all_goals try first | (exact absurd h Bool.false_ne_true) | (exact absurd h.symm Bool.false_ne_true) | (exact absurd h (by decide))))
    | with_reducible refine AWP.skip ?_
    | with_reducible refine AWP.ret ?_
    | with_reducible refine AWP.block ?_
    | with_reducible refine AWP.exit ?_
    | (with_reducible refine ⟨fun h => ?_, fun h => ?_⟩ <;> (try simp only [Bool.not_eq_true', Bool.not_eq_false'] at h) <;> simp only [h, go_sem, Nat.reduceBEq, Nat.reduceBNe, Nat.reduceAdd, Nat.reduceSub, Nat.reduceMul, Nat.reduceLeDiff, Nat.reduceLT, reduceCtorEq, Nat.reduceEqDiff, Int.reduceToNat, Int.reduceLE, Int.reduceLT, Int.reduceEq, pin])
    | ((first | (refine ⟨1000000, _, _, _, next_k 1000000 s hs 4 (by omega), rfl, ?_⟩)); try simp only [go_sem, Nat.reduceBEq, Nat.reduceBNe, Nat.reduceAdd, Nat.reduceSub, Nat.reduceMul, Nat.reduceLeDiff, Nat.reduceLT, reduceCtorEq, Nat.reduceEqDiff, Int.reduceToNat, Int.reduceLE, Int.reduceLT, Int.reduceEq, pin])
    | ( refine ⟨hv.1, [.str (atomV s)], lit_get (fun x => [C.str x]) atomL [] hv, ?_⟩)
    | (with_reducible refine AWP.parR mixed (by kernel_rfl) fun K hK => ?_)
    | (with_reducible refine Or.inl ?_)
    | (simp only [go_sem, Nat.reduceBEq, Nat.reduceBNe, Nat.reduceAdd, Nat.reduceSub, Nat.reduceMul, Nat.reduceLeDiff, Nat.reduceLT, reduceCtorEq, Nat.reduceEqDiff, Int.reduceToNat, Int.reduceLE, Int.reduceLT, Int.reduceEq, pin])
    | (clear hK K))
  all_goals exact fun x hx => hx
theorem number_c (s : Src) (hs : s.ok) : PCB Try.prog 32 [Sp pin] [(pin, srcB s)] (I .i64 (numV s)) [(pin, srcB (nextS s 10))] := by
  refine PCB.of_body Try.func32 rfl (by decide) Try.ntmps32 Try.results32 rfl rfl rfl ?_ rfl rfl
  have hv := nextV_in s (n := 10) (by omega)
  repeat' (first
    | ((first | with_reducible refine seqVC_stepN rfl fun K hK => ?_ | with_reducible refine seqVC_stepG rfl (by with_unfolding_all rfl) fun K hK => ?_); (try simp only [go_sem, Nat.reduceBEq, Nat.reduceBNe, Nat.reduceAdd, Nat.reduceSub, Nat.reduceMul, Nat.reduceLeDiff, Nat.reduceLT, reduceCtorEq, Nat.reduceEqDiff, Int.reduceToNat, Int.reduceLE, Int.reduceLT, Int.reduceEq, pin]); all_goals fail_if_success guard_target =ₛ False)
    | with_reducible refine seqVC_nil ?_
    | (with_reducible refine hK _ _ _ ?_; clear hK K)
    | (with_reducible refine hK _ _ ?_; clear hK K)
    | (with_reducible refine hK _ ?_; clear hK K)
    | with_reducible refine AWP.seq fun K hK => ?_
    | (with_reducible refine AWP.seqR (by kernel_rfl) fun K hK => ?_)
    | ((first | with_reducible refine parVC_stepN rfl fun K hK => ?_ | with_reducible refine parVC_stepG rfl (by with_unfolding_all rfl) fun K hK => ?_ | with_reducible refine parEVC_stepN rfl fun K hK => ?_ | with_reducible refine parEVC_stepG rfl (by with_unfolding_all rfl) fun K hK => ?_ | with_reducible refine genVC_stepN rfl fun K hK => ?_ | with_reducible refine genVC_stepG rfl (by with_unfolding_all rfl) fun K hK => ?_); (try simp only [go_sem, Nat.reduceBEq, Nat.reduceBNe, Nat.reduceAdd, Nat.reduceSub, Nat.reduceMul, Nat.reduceLeDiff, Nat.reduceLT, reduceCtorEq, Nat.reduceEqDiff, Int.reduceToNat, Int.reduceLE, Int.reduceLT, Int.reduceEq, pin]); all_goals fail_if_success guard_target =ₛ False)
    | with_reducible refine parVC_nil ?_
    | with_reducible refine parEVC_nil ?_
    | with_reducible refine genVC_nil ?_
    | (with_reducible refine AWP.cond (by with_unfolding_all rfl) (fun h => ?_) (fun h => ?_); all_goals (try simp only [Bool.not_eq_true', Bool.not_eq_false'] at h); (all_goals try first | (exact absurd h Bool.false_ne_true) | (exact absurd h.symm Bool.false_ne_true) | (exact absurd h (by decide))))
    | with_reducible refine AWP.skip ?_
    | with_reducible refine AWP.ret ?_
    | with_reducible refine AWP.block ?_
    | with_reducible refine AWP.exit ?_
    | (with_reducible refine ⟨fun h => ?_, fun h => ?_⟩ <;> (try simp only [Bool.not_eq_true', Bool.not_eq_false'] at h) <;> simp only [h, go_sem, Nat.reduceBEq, Nat.reduceBNe, Nat.reduceAdd, Nat.reduceSub, Nat.reduceMul, Nat.reduceLeDiff, Nat.reduceLT, reduceCtorEq, Nat.reduceEqDiff, Int.reduceToNat, Int.reduceLE, Int.reduceLT, Int.reduceEq, pin])
    | ((first | (refine ⟨1000000, _, _, _, next_k 1000000 s hs 10 (by omega), rfl, ?_⟩)); try simp only [go_sem, Nat.reduceBEq, Nat.reduceBNe, Nat.reduceAdd, Nat.reduceSub, Nat.reduceMul, Nat.reduceLeDiff, Nat.reduceLT, reduceCtorEq, Nat.reduceEqDiff, Int.reduceToNat, Int.reduceLE, Int.reduceLT, Int.reduceEq, pin])
    | ( refine ⟨hv.1, [.int .i64 (numV s)], lit_get (fun x => [C.int .i64 x]) numL 0 hv, ?_⟩)
    | (with_reducible refine AWP.parR mixed (by kernel_rfl) fun K hK => ?_)
    | (with_reducible refine Or.inl ?_)
    | (simp only [go_sem, Nat.reduceBEq, Nat.reduceBNe, Nat.reduceAdd, Nat.reduceSub, Nat.reduceMul, Nat.reduceLeDiff, Nat.reduceLT, reduceCtorEq, Nat.reduceEqDiff, Int.reduceToNat, Int.reduceLE, Int.reduceLT, Int.reduceEq, pin])
    | (clear hK K))
  all_goals exact fun x hx => hx
theorem word_k (k : Nat) (s : Src) (hs : s.ok) : PCBk Try.prog 31 [Sp k] k (srcB s) (S (wordV s)) (srcB (nextS s 4)) := PCBk.mk k (word_c s hs)
theorem atomName_k (k : Nat) (s : Src) (hs : s.ok) : PCBk Try.prog 52 [Sp k] k (srcB s) (S (atomV s)) (srcB (nextS s 4)) := PCBk.mk k (atomName_c s hs)
theorem number_k (k : Nat) (s : Src) (hs : s.ok) : PCBk Try.prog 32 [Sp k] k (srcB s) (I .i64 (numV s)) (srcB (nextS s 10)) := PCBk.mk k (number_c s hs)
def keyV (s : Src) : KeyD × Src := bif decide (nextV s 2 = 0) then (⟨0, atomV (nextS s 2)⟩, nextS (nextS s 2) 4) else (⟨1, wordV (nextS s 2)⟩, nextS (nextS s 2) 4)
theorem key_c (s : Src) (hs : s.ok) : PCB Try.prog 23 [Sp pin] [(pin, srcB s)] (.st (encKey (keyV s).1)) [(pin, srcB (keyV s).2)] := by
  refine PCB.of_body Try.func23 rfl (by decide) Try.ntmps23 Try.results23 rfl rfl rfl ?_ rfl rfl
  have hs2 := ok_next hs 2
  repeat' (first
    | ((first | with_reducible refine seqVC_stepN rfl fun K hK => ?_ | with_reducible refine seqVC_stepG rfl (by with_unfolding_all rfl) fun K hK => ?_); (try simp only [go_sem, Nat.reduceBEq, Nat.reduceBNe, Nat.reduceAdd, Nat.reduceSub, Nat.reduceMul, Nat.reduceLeDiff, Nat.reduceLT, reduceCtorEq, Nat.reduceEqDiff, Int.reduceToNat, Int.reduceLE, Int.reduceLT, Int.reduceEq, pin]); all_goals fail_if_success guard_target =ₛ False)
    | with_reducible refine seqVC_nil ?_
    | (with_reducible refine hK _ _ _ ?_; clear hK K)
    | (with_reducible refine hK _ _ ?_; clear hK K)
    | (with_reducible refine hK _ ?_; clear hK K)
    | with_reducible refine AWP.seq fun K hK => ?_
    | (with_reducible refine AWP.seqR (by kernel_rfl) fun K hK => ?_)
    | ((first | with_reducible refine parVC_stepN rfl fun K hK => ?_ | with_reducible refine parVC_stepG rfl (by with_unfolding_all rfl) fun K hK => ?_ | with_reducible refine parEVC_stepN rfl fun K hK => ?_ | with_reducible refine parEVC_stepG rfl (by with_unfolding_all rfl) fun K hK => ?_ | with_reducible refine genVC_stepN rfl fun K hK => ?_ | with_reducible refine genVC_stepG rfl (by with_unfolding_all rfl) fun K hK => ?_); (try simp only [go_sem, Nat.reduceBEq, Nat.reduceBNe, Nat.reduceAdd, Nat.reduceSub, Nat.reduceMul, Nat.reduceLeDiff, Nat.reduceLT, reduceCtorEq, Nat.reduceEqDiff, Int.reduceToNat, Int.reduceLE, Int.reduceLT, Int.reduceEq, pin]); all_goals fail_if_success guard_target =ₛ False)
    | with_reducible refine parVC_nil ?_
    | with_reducible refine parEVC_nil ?_
    | with_reducible refine genVC_nil ?_
    | (with_reducible refine AWP.cond (by with_unfolding_all rfl) (fun h => ?_) (fun h => ?_); all_goals (try simp only [Bool.not_eq_true', Bool.not_eq_false'] at h); (all_goals try first | (exact absurd h Bool.false_ne_true) | (exact absurd h.symm Bool.false_ne_true) | (exact absurd h (by decide))))
    | with_reducible refine AWP.skip ?_
    | with_reducible refine AWP.ret ?_
    | with_reducible refine AWP.block ?_
    | with_reducible refine AWP.exit ?_
    | (with_reducible refine ⟨fun h => ?_, fun h => ?_⟩ <;> (try simp only [Bool.not_eq_true', Bool.not_eq_false'] at h) <;> simp only [h, go_sem, Nat.reduceBEq, Nat.reduceBNe, Nat.reduceAdd, Nat.reduceSub, Nat.reduceMul, Nat.reduceLeDiff, Nat.reduceLT, reduceCtorEq, Nat.reduceEqDiff, Int.reduceToNat, Int.reduceLE, Int.reduceLT, Int.reduceEq, pin])
    | ((first | (refine ⟨1000000, _, _, _, next_k 1000000 s hs 2 (by omega), rfl, ?_⟩) | (refine ⟨1000000, _, _, _, atomName_k 1000000 _ hs2, rfl, ?_⟩) | (refine ⟨1000000, _, _, _, word_k 1000000 _ hs2, rfl, ?_⟩)); try simp only [go_sem, Nat.reduceBEq, Nat.reduceBNe, Nat.reduceAdd, Nat.reduceSub, Nat.reduceMul, Nat.reduceLeDiff, Nat.reduceLT, reduceCtorEq, Nat.reduceEqDiff, Int.reduceToNat, Int.reduceLE, Int.reduceLT, Int.reduceEq, pin])
    | (with_reducible refine AWP.parR mixed (by kernel_rfl) fun K hK => ?_)
    | (with_reducible refine Or.inl ?_)
    | (simp only [go_sem, Nat.reduceBEq, Nat.reduceBNe, Nat.reduceAdd, Nat.reduceSub, Nat.reduceMul, Nat.reduceLeDiff, Nat.reduceLT, reduceCtorEq, Nat.reduceEqDiff, Int.reduceToNat, Int.reduceLE, Int.reduceLT, Int.reduceEq, pin])
    | (clear hK K))
  all_goals (simp only [keyV, h, cond_true, cond_false]; exact ⟨rfl, fun x hx => by simp only [List.mem_singleton] at hx; subst hx; simp⟩)
theorem key_k (k : Nat) (s : Src) (hs : s.ok) : PCBk Try.prog 23 [Sp k] k (srcB s) (.st (encKey (keyV s).1)) (srcB (keyV s).2) := PCBk.mk k (key_c s hs)
theorem ok_key {s : Src} (h : s.ok) : (keyV s).2.ok := by unfold keyV; cases decide (nextV s 2 = 0) <;> exact ok_next (ok_next h 2) 4
end Go.Proofs.Ytmpfdejckbceiaa
