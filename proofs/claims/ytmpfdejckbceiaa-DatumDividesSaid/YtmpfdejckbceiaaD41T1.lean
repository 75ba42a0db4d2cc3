/- A part of the proof: lemmas about the walk of the program (module D41.T1 of the prover). No conditions beyond those that each lemma states. -/
import Derived.Test.YtmpfdejckbceiaaD41Tab
import Derived.Test.YtmpfdejckbceiaaSxLoop
set_option linter.unusedSimpArgs false
set_option linter.unusedVariables false
set_option maxRecDepth 20000
namespace Go.Proofs.Ytmpfdejckbceiaa
open Go Go.Sx

abbrev Dt (d : Dat) : T := .st (encDat d)
def sTrue : List UInt8 := [116, 114, 117, 101]
def sFalse : List UInt8 := [102, 97, 108, 115, 101]
def sZero : List UInt8 := [122, 101, 114, 111]
def sOver : List UInt8 := [111, 118, 101, 114, 102, 108, 111, 119]
def boolDat (b : Bool) : Dat := atomDat (bif b then sTrue else sFalse)
def errDat (s : List UInt8) : T := .tup [Dt zeroDat, I .i64 0, S s]
def okDat (d : Dat) : T := .tup [Dt d, I .i64 0, S []]
def failDat : T := .tup [Dt zeroDat, I .i64 1, S []]

theorem abs_c (a : Int) : PC Try.prog 14 [I .i64 a] (I .i64 (if a < 0 then IntKind.i64.wrap (0 - a) else a)) := by
  refine PCB.of_body Try.func14 rfl (by decide) Try.ntmps14 Try.results14 rfl rfl rfl ?_ rfl rfl
  repeat' (first
    | (with_reducible refine seqVC_stepN rfl fun K hK => ?_; (try simp only [go_sem, Nat.reduceBEq, Nat.reduceBNe, Nat.reduceAdd, Nat.reduceSub, Nat.reduceMul, Nat.reduceLeDiff, Nat.reduceLT, reduceCtorEq, Nat.reduceEqDiff, Int.reduceToNat, Int.reduceLE, Int.reduceLT, Int.reduceEq]); all_goals fail_if_success guard_target =ₛ False)
    | (with_reducible refine seqVC_stepG rfl (by with_unfolding_all rfl) fun K hK => ?_; (try simp only [go_sem, Nat.reduceBEq, Nat.reduceBNe, Nat.reduceAdd, Nat.reduceSub, Nat.reduceMul, Nat.reduceLeDiff, Nat.reduceLT, reduceCtorEq, Nat.reduceEqDiff, Int.reduceToNat, Int.reduceLE, Int.reduceLT, Int.reduceEq]); all_goals fail_if_success guard_target =ₛ False)
    | with_reducible refine seqVC_nil ?_
    | (with_reducible refine hK _ _ ?_; clear hK K)
    | (with_reducible refine hK _ ?_; clear hK K)
    | with_reducible refine AWP.seq fun K hK => ?_
    | (with_reducible refine AWP.seqR (by kernel_rfl) fun K hK => ?_)
    | (with_reducible refine parVC_stepN rfl fun K hK => ?_; (try simp only [go_sem, Nat.reduceBEq, Nat.reduceBNe, Nat.reduceAdd, Nat.reduceSub, Nat.reduceMul, Nat.reduceLeDiff, Nat.reduceLT, reduceCtorEq, Nat.reduceEqDiff, Int.reduceToNat, Int.reduceLE, Int.reduceLT, Int.reduceEq]); all_goals fail_if_success guard_target =ₛ False)
    | (with_reducible refine parVC_stepG rfl (by with_unfolding_all rfl) fun K hK => ?_; (try simp only [go_sem, Nat.reduceBEq, Nat.reduceBNe, Nat.reduceAdd, Nat.reduceSub, Nat.reduceMul, Nat.reduceLeDiff, Nat.reduceLT, reduceCtorEq, Nat.reduceEqDiff, Int.reduceToNat, Int.reduceLE, Int.reduceLT, Int.reduceEq]); all_goals fail_if_success guard_target =ₛ False)
    | with_reducible refine parVC_nil ?_
    | (with_reducible refine parEVC_stepN rfl fun K hK => ?_; (try simp only [go_sem, Nat.reduceBEq, Nat.reduceBNe, Nat.reduceAdd, Nat.reduceSub, Nat.reduceMul, Nat.reduceLeDiff, Nat.reduceLT, reduceCtorEq, Nat.reduceEqDiff, Int.reduceToNat, Int.reduceLE, Int.reduceLT, Int.reduceEq]); all_goals fail_if_success guard_target =ₛ False)
    | (with_reducible refine parEVC_stepG rfl (by with_unfolding_all rfl) fun K hK => ?_; (try simp only [go_sem, Nat.reduceBEq, Nat.reduceBNe, Nat.reduceAdd, Nat.reduceSub, Nat.reduceMul, Nat.reduceLeDiff, Nat.reduceLT, reduceCtorEq, Nat.reduceEqDiff, Int.reduceToNat, Int.reduceLE, Int.reduceLT, Int.reduceEq]); all_goals fail_if_success guard_target =ₛ False)
    | with_reducible refine parEVC_nil ?_
    | (with_reducible refine AWP.cond (by with_unfolding_all rfl) (fun h => ?_) (fun h => ?_); all_goals (try simp only [Bool.not_eq_true', Bool.not_eq_false'] at h); (all_goals try first | (exact absurd h Bool.false_ne_true) | (exact absurd h.symm Bool.false_ne_true) | (exact absurd h (by decide))))
    | with_reducible refine AWP.skip ?_
    | with_reducible refine AWP.ret ?_
    | with_reducible refine AWP.block ?_
    | with_reducible refine AWP.exit ?_
    | (with_reducible refine ⟨fun h => ?_, fun h => ?_⟩ <;> (try simp only [Bool.not_eq_true', Bool.not_eq_false'] at h) <;> simp only [h, go_sem, Nat.reduceBEq, Nat.reduceBNe, Nat.reduceAdd, Nat.reduceSub, Nat.reduceMul, Nat.reduceLeDiff, Nat.reduceLT, reduceCtorEq, Nat.reduceEqDiff, Int.reduceToNat, Int.reduceLE, Int.reduceLT, Int.reduceEq])
    | (with_reducible refine AWP.parR mixed (by kernel_rfl) fun K hK => ?_)
    | (simp only [go_sem, Nat.reduceBEq, Nat.reduceBNe, Nat.reduceAdd, Nat.reduceSub, Nat.reduceMul, Nat.reduceLeDiff, Nat.reduceLT, reduceCtorEq, Nat.reduceEqDiff, Int.reduceToNat, Int.reduceLE, Int.reduceLT, Int.reduceEq])
    | (clear hK K))
  all_goals (simp only [decide_eq_true_eq, decide_eq_false_iff_not] at h; refine ⟨by simp only [h, if_true, if_false], fun _ h => h⟩)


theorem atom_c (b : Bool) : PC Try.prog 34 [Bo b] (Dt (boolDat b)) := by
  refine PCB.of_body Try.func34 rfl (by decide) Try.ntmps34 Try.results34 rfl rfl rfl ?_ rfl rfl
  repeat' (first
    | (with_reducible refine seqVC_stepN rfl fun K hK => ?_; (try simp only [go_sem, Nat.reduceBEq, Nat.reduceBNe, Nat.reduceAdd, Nat.reduceSub, Nat.reduceMul, Nat.reduceLeDiff, Nat.reduceLT, reduceCtorEq, Nat.reduceEqDiff, Int.reduceToNat, Int.reduceLE, Int.reduceLT, Int.reduceEq]); all_goals fail_if_success guard_target =ₛ False)
    | (with_reducible refine seqVC_stepG rfl (by with_unfolding_all rfl) fun K hK => ?_; (try simp only [go_sem, Nat.reduceBEq, Nat.reduceBNe, Nat.reduceAdd, Nat.reduceSub, Nat.reduceMul, Nat.reduceLeDiff, Nat.reduceLT, reduceCtorEq, Nat.reduceEqDiff, Int.reduceToNat, Int.reduceLE, Int.reduceLT, Int.reduceEq]); all_goals fail_if_success guard_target =ₛ False)
    | with_reducible refine seqVC_nil ?_
    | (with_reducible refine hK _ _ ?_; clear hK K)
    | (with_reducible refine hK _ ?_; clear hK K)
    | with_reducible refine AWP.seq fun K hK => ?_
    | (with_reducible refine AWP.seqR (by kernel_rfl) fun K hK => ?_)
    | (with_reducible refine parVC_stepN rfl fun K hK => ?_; (try simp only [go_sem, Nat.reduceBEq, Nat.reduceBNe, Nat.reduceAdd, Nat.reduceSub, Nat.reduceMul, Nat.reduceLeDiff, Nat.reduceLT, reduceCtorEq, Nat.reduceEqDiff, Int.reduceToNat, Int.reduceLE, Int.reduceLT, Int.reduceEq]); all_goals fail_if_success guard_target =ₛ False)
    | (with_reducible refine parVC_stepG rfl (by with_unfolding_all rfl) fun K hK => ?_; (try simp only [go_sem, Nat.reduceBEq, Nat.reduceBNe, Nat.reduceAdd, Nat.reduceSub, Nat.reduceMul, Nat.reduceLeDiff, Nat.reduceLT, reduceCtorEq, Nat.reduceEqDiff, Int.reduceToNat, Int.reduceLE, Int.reduceLT, Int.reduceEq]); all_goals fail_if_success guard_target =ₛ False)
    | with_reducible refine parVC_nil ?_
    | (with_reducible refine parEVC_stepN rfl fun K hK => ?_; (try simp only [go_sem, Nat.reduceBEq, Nat.reduceBNe, Nat.reduceAdd, Nat.reduceSub, Nat.reduceMul, Nat.reduceLeDiff, Nat.reduceLT, reduceCtorEq, Nat.reduceEqDiff, Int.reduceToNat, Int.reduceLE, Int.reduceLT, Int.reduceEq]); all_goals fail_if_success guard_target =ₛ False)
    | (with_reducible refine parEVC_stepG rfl (by with_unfolding_all rfl) fun K hK => ?_; (try simp only [go_sem, Nat.reduceBEq, Nat.reduceBNe, Nat.reduceAdd, Nat.reduceSub, Nat.reduceMul, Nat.reduceLeDiff, Nat.reduceLT, reduceCtorEq, Nat.reduceEqDiff, Int.reduceToNat, Int.reduceLE, Int.reduceLT, Int.reduceEq]); all_goals fail_if_success guard_target =ₛ False)
    | with_reducible refine parEVC_nil ?_
    | (with_reducible refine AWP.cond (by with_unfolding_all rfl) (fun h => ?_) (fun h => ?_); all_goals (try simp only [Bool.not_eq_true', Bool.not_eq_false'] at h); (all_goals try first | (exact absurd h Bool.false_ne_true) | (exact absurd h.symm Bool.false_ne_true) | (exact absurd h (by decide))))
    | with_reducible refine AWP.skip ?_
    | with_reducible refine AWP.ret ?_
    | with_reducible refine AWP.block ?_
    | with_reducible refine AWP.exit ?_
    | (with_reducible refine ⟨fun h => ?_, fun h => ?_⟩ <;> (try simp only [Bool.not_eq_true', Bool.not_eq_false'] at h) <;> simp only [h, go_sem, Nat.reduceBEq, Nat.reduceBNe, Nat.reduceAdd, Nat.reduceSub, Nat.reduceMul, Nat.reduceLeDiff, Nat.reduceLT, reduceCtorEq, Nat.reduceEqDiff, Int.reduceToNat, Int.reduceLE, Int.reduceLT, Int.reduceEq])
    | (with_reducible refine AWP.parR mixed (by kernel_rfl) fun K hK => ?_)
    | (simp only [go_sem, Nat.reduceBEq, Nat.reduceBNe, Nat.reduceAdd, Nat.reduceSub, Nat.reduceMul, Nat.reduceLeDiff, Nat.reduceLT, reduceCtorEq, Nat.reduceEqDiff, Int.reduceToNat, Int.reduceLE, Int.reduceLT, Int.reduceEq])
    | (clear hK K))
  all_goals (subst h; refine ⟨rfl, fun _ h => by cases h⟩)

def sizeS (a : Int) : Int := if a < 0 then IntKind.u64.wrap (0 - IntKind.u64.wrap a) else IntKind.u64.wrap a
theorem size_c (a : Int) : PC Try.prog 95 [I .i64 a] (I .u64 (sizeS a)) := by
  refine PCB.of_body Try.func95 rfl (by decide) Try.ntmps95 Try.results95 rfl rfl rfl ?_ rfl rfl
  repeat' (first
    | (with_reducible refine seqVC_stepN rfl fun K hK => ?_; (try simp only [go_sem, Nat.reduceBEq, Nat.reduceBNe, Nat.reduceAdd, Nat.reduceSub, Nat.reduceMul, Nat.reduceLeDiff, Nat.reduceLT, reduceCtorEq, Nat.reduceEqDiff, Int.reduceToNat, Int.reduceLE, Int.reduceLT, Int.reduceEq]); all_goals fail_if_success guard_target =ₛ False)
    | (with_reducible refine seqVC_stepG rfl (by with_unfolding_all rfl) fun K hK => ?_; (try simp only [go_sem, Nat.reduceBEq, Nat.reduceBNe, Nat.reduceAdd, Nat.reduceSub, Nat.reduceMul, Nat.reduceLeDiff, Nat.reduceLT, reduceCtorEq, Nat.reduceEqDiff, Int.reduceToNat, Int.reduceLE, Int.reduceLT, Int.reduceEq]); all_goals fail_if_success guard_target =ₛ False)
    | with_reducible refine seqVC_nil ?_
    | (with_reducible refine hK _ _ ?_; clear hK K)
    | (with_reducible refine hK _ ?_; clear hK K)
    | with_reducible refine AWP.seq fun K hK => ?_
    | (with_reducible refine AWP.seqR (by kernel_rfl) fun K hK => ?_)
    | (with_reducible refine parVC_stepN rfl fun K hK => ?_; (try simp only [go_sem, Nat.reduceBEq, Nat.reduceBNe, Nat.reduceAdd, Nat.reduceSub, Nat.reduceMul, Nat.reduceLeDiff, Nat.reduceLT, reduceCtorEq, Nat.reduceEqDiff, Int.reduceToNat, Int.reduceLE, Int.reduceLT, Int.reduceEq]); all_goals fail_if_success guard_target =ₛ False)
    | (with_reducible refine parVC_stepG rfl (by with_unfolding_all rfl) fun K hK => ?_; (try simp only [go_sem, Nat.reduceBEq, Nat.reduceBNe, Nat.reduceAdd, Nat.reduceSub, Nat.reduceMul, Nat.reduceLeDiff, Nat.reduceLT, reduceCtorEq, Nat.reduceEqDiff, Int.reduceToNat, Int.reduceLE, Int.reduceLT, Int.reduceEq]); all_goals fail_if_success guard_target =ₛ False)
    | with_reducible refine parVC_nil ?_
    | (with_reducible refine parEVC_stepN rfl fun K hK => ?_; (try simp only [go_sem, Nat.reduceBEq, Nat.reduceBNe, Nat.reduceAdd, Nat.reduceSub, Nat.reduceMul, Nat.reduceLeDiff, Nat.reduceLT, reduceCtorEq, Nat.reduceEqDiff, Int.reduceToNat, Int.reduceLE, Int.reduceLT, Int.reduceEq]); all_goals fail_if_success guard_target =ₛ False)
    | (with_reducible refine parEVC_stepG rfl (by with_unfolding_all rfl) fun K hK => ?_; (try simp only [go_sem, Nat.reduceBEq, Nat.reduceBNe, Nat.reduceAdd, Nat.reduceSub, Nat.reduceMul, Nat.reduceLeDiff, Nat.reduceLT, reduceCtorEq, Nat.reduceEqDiff, Int.reduceToNat, Int.reduceLE, Int.reduceLT, Int.reduceEq]); all_goals fail_if_success guard_target =ₛ False)
    | with_reducible refine parEVC_nil ?_
    | (with_reducible refine AWP.cond (by with_unfolding_all rfl) (fun h => ?_) (fun h => ?_); all_goals (try simp only [Bool.not_eq_true', Bool.not_eq_false'] at h); (all_goals try first | (exact absurd h Bool.false_ne_true) | (exact absurd h.symm Bool.false_ne_true) | (exact absurd h (by decide))))
    | with_reducible refine AWP.skip ?_
    | with_reducible refine AWP.ret ?_
    | with_reducible refine AWP.block ?_
    | with_reducible refine AWP.exit ?_
    | (with_reducible refine ⟨fun h => ?_, fun h => ?_⟩ <;> (try simp only [Bool.not_eq_true', Bool.not_eq_false'] at h) <;> simp only [h, go_sem, Nat.reduceBEq, Nat.reduceBNe, Nat.reduceAdd, Nat.reduceSub, Nat.reduceMul, Nat.reduceLeDiff, Nat.reduceLT, reduceCtorEq, Nat.reduceEqDiff, Int.reduceToNat, Int.reduceLE, Int.reduceLT, Int.reduceEq])
    | (with_reducible refine AWP.parR mixed (by kernel_rfl) fun K hK => ?_)
    | (simp only [go_sem, Nat.reduceBEq, Nat.reduceBNe, Nat.reduceAdd, Nat.reduceSub, Nat.reduceMul, Nat.reduceLeDiff, Nat.reduceLT, reduceCtorEq, Nat.reduceEqDiff, Int.reduceToNat, Int.reduceLE, Int.reduceLT, Int.reduceEq])
    | (clear hK K))
  all_goals (simp only [decide_eq_true_eq, decide_eq_false_iff_not] at h; refine ⟨by simp only [sizeS, h, if_true, if_false], fun _ h => h⟩)

abbrev andU (a b : Int) : Int := IntKind.u64.wrap (BitVec.ofInt IntKind.u64.bits a &&& BitVec.ofInt IntKind.u64.bits b).toNat
abbrev shrU (a : Int) : Int := a.fdiv (2 ^ min (Int.toNat 32) IntKind.u64.bits)
/-- the words of math/bits.Mul64 -/
def mulHi (x y : Int) : Int :=
  let x0 := andU x 4294967295
  let x1 := shrU x
  let y0 := andU y 4294967295
  let y1 := shrU y
  let w0 := IntKind.u64.wrap (x0 * y0)
  let t := IntKind.u64.wrap (IntKind.u64.wrap (x1 * y0) + shrU w0)
  let w1 := andU t 4294967295
  let w2 := shrU t
  let w1' := IntKind.u64.wrap (w1 + IntKind.u64.wrap (x0 * y1))
  IntKind.u64.wrap (IntKind.u64.wrap (IntKind.u64.wrap (x1 * y1) + w2) + shrU w1')
theorem mul64_c (x y : Int) : PC Try.prog 94 [I .u64 x, I .u64 y] (.tup [I .u64 (mulHi x y), I .u64 (IntKind.u64.wrap (x * y))]) := by
  refine PCB.of_body Try.func94 rfl (by decide) Try.ntmps94 Try.results94 rfl rfl rfl ?_ rfl rfl
  repeat' (first
    | (with_reducible refine seqVC_stepN rfl fun K hK => ?_; (try simp only [go_sem, Nat.reduceBEq, Nat.reduceBNe, Nat.reduceAdd, Nat.reduceSub, Nat.reduceMul, Nat.reduceLeDiff, Nat.reduceLT, reduceCtorEq, Nat.reduceEqDiff, Int.reduceToNat, Int.reduceLE, Int.reduceLT, Int.reduceEq]); all_goals fail_if_success guard_target =ₛ False)
    | (with_reducible refine seqVC_stepG rfl (by with_unfolding_all rfl) fun K hK => ?_; (try simp only [go_sem, Nat.reduceBEq, Nat.reduceBNe, Nat.reduceAdd, Nat.reduceSub, Nat.reduceMul, Nat.reduceLeDiff, Nat.reduceLT, reduceCtorEq, Nat.reduceEqDiff, Int.reduceToNat, Int.reduceLE, Int.reduceLT, Int.reduceEq]); all_goals fail_if_success guard_target =ₛ False)
    | with_reducible refine seqVC_nil ?_
    | (with_reducible refine hK _ _ ?_; clear hK K)
    | (with_reducible refine hK _ ?_; clear hK K)
    | with_reducible refine AWP.seq fun K hK => ?_
    | (with_reducible refine AWP.seqR (by kernel_rfl) fun K hK => ?_)
    | (with_reducible refine parVC_stepN rfl fun K hK => ?_; (try simp only [go_sem, Nat.reduceBEq, Nat.reduceBNe, Nat.reduceAdd, Nat.reduceSub, Nat.reduceMul, Nat.reduceLeDiff, Nat.reduceLT, reduceCtorEq, Nat.reduceEqDiff, Int.reduceToNat, Int.reduceLE, Int.reduceLT, Int.reduceEq]); all_goals fail_if_success guard_target =ₛ False)
    | (with_reducible refine parVC_stepG rfl (by with_unfolding_all rfl) fun K hK => ?_; (try simp only [go_sem, Nat.reduceBEq, Nat.reduceBNe, Nat.reduceAdd, Nat.reduceSub, Nat.reduceMul, Nat.reduceLeDiff, Nat.reduceLT, reduceCtorEq, Nat.reduceEqDiff, Int.reduceToNat, Int.reduceLE, Int.reduceLT, Int.reduceEq]); all_goals fail_if_success guard_target =ₛ False)
    | with_reducible refine parVC_nil ?_
    | (with_reducible refine parEVC_stepN rfl fun K hK => ?_; (try simp only [go_sem, Nat.reduceBEq, Nat.reduceBNe, Nat.reduceAdd, Nat.reduceSub, Nat.reduceMul, Nat.reduceLeDiff, Nat.reduceLT, reduceCtorEq, Nat.reduceEqDiff, Int.reduceToNat, Int.reduceLE, Int.reduceLT, Int.reduceEq]); all_goals fail_if_success guard_target =ₛ False)
    | (with_reducible refine parEVC_stepG rfl (by with_unfolding_all rfl) fun K hK => ?_; (try simp only [go_sem, Nat.reduceBEq, Nat.reduceBNe, Nat.reduceAdd, Nat.reduceSub, Nat.reduceMul, Nat.reduceLeDiff, Nat.reduceLT, reduceCtorEq, Nat.reduceEqDiff, Int.reduceToNat, Int.reduceLE, Int.reduceLT, Int.reduceEq]); all_goals fail_if_success guard_target =ₛ False)
    | with_reducible refine parEVC_nil ?_
    | (with_reducible refine AWP.cond (by with_unfolding_all rfl) (fun h => ?_) (fun h => ?_); all_goals (try simp only [Bool.not_eq_true', Bool.not_eq_false'] at h); (all_goals try first | (exact absurd h Bool.false_ne_true) | (exact absurd h.symm Bool.false_ne_true) | (exact absurd h (by decide))))
    | with_reducible refine AWP.skip ?_
    | with_reducible refine AWP.ret ?_
    | with_reducible refine AWP.block ?_
    | with_reducible refine AWP.exit ?_
    | (with_reducible refine ⟨fun h => ?_, fun h => ?_⟩ <;> (try simp only [Bool.not_eq_true', Bool.not_eq_false'] at h) <;> simp only [h, go_sem, Nat.reduceBEq, Nat.reduceBNe, Nat.reduceAdd, Nat.reduceSub, Nat.reduceMul, Nat.reduceLeDiff, Nat.reduceLT, reduceCtorEq, Nat.reduceEqDiff, Int.reduceToNat, Int.reduceLE, Int.reduceLT, Int.reduceEq])
    | (refine ⟨by decide, ?_⟩)
    | (with_reducible refine AWP.parR mixed (by kernel_rfl) fun K hK => ?_)
    | (simp only [go_sem, Nat.reduceBEq, Nat.reduceBNe, Nat.reduceAdd, Nat.reduceSub, Nat.reduceMul, Nat.reduceLeDiff, Nat.reduceLT, reduceCtorEq, Nat.reduceEqDiff, Int.reduceToNat, Int.reduceLE, Int.reduceLT, Int.reduceEq])
    | (clear hK K))
  all_goals exact ⟨rfl, fun _ h => h⟩

def mulN (a b : Int) : Int :=
  if (!(decide (a < 0) == decide (b < 0))) = true then IntKind.i64.wrap (0 - IntKind.i64.wrap (IntKind.u64.wrap (sizeS a * sizeS b))) else IntKind.i64.wrap (IntKind.u64.wrap (sizeS a * sizeS b))
def mulOk (a b : Int) : Bool :=
  decide (mulHi (sizeS a) (sizeS b) = 0) && (if (!(decide (a < 0) == decide (b < 0))) = true then decide (IntKind.u64.wrap (sizeS a * sizeS b) ≤ 9223372036854775808) else decide (IntKind.u64.wrap (sizeS a * sizeS b) < 9223372036854775808))
theorem multiply_c (a b : Int) : PC Try.prog 62 [I .i64 a, I .i64 b] (.tup [I .i64 (mulN a b), Bo (mulOk a b)]) := by
  refine PCB.of_body Try.func62 rfl (by decide) Try.ntmps62 Try.results62 rfl rfl rfl ?_ rfl rfl
  repeat' (first
    | (with_reducible refine seqVC_stepN rfl fun K hK => ?_; (try simp only [go_sem, Nat.reduceBEq, Nat.reduceBNe, Nat.reduceAdd, Nat.reduceSub, Nat.reduceMul, Nat.reduceLeDiff, Nat.reduceLT, reduceCtorEq, Nat.reduceEqDiff, Int.reduceToNat, Int.reduceLE, Int.reduceLT, Int.reduceEq]); all_goals fail_if_success guard_target =ₛ False)
    | (with_reducible refine seqVC_stepG rfl (by with_unfolding_all rfl) fun K hK => ?_; (try simp only [go_sem, Nat.reduceBEq, Nat.reduceBNe, Nat.reduceAdd, Nat.reduceSub, Nat.reduceMul, Nat.reduceLeDiff, Nat.reduceLT, reduceCtorEq, Nat.reduceEqDiff, Int.reduceToNat, Int.reduceLE, Int.reduceLT, Int.reduceEq]); all_goals fail_if_success guard_target =ₛ False)
    | with_reducible refine seqVC_nil ?_
    | (with_reducible refine hK _ _ ?_; clear hK K)
    | (with_reducible refine hK _ ?_; clear hK K)
    | with_reducible refine AWP.seq fun K hK => ?_
    | (with_reducible refine AWP.seqR (by kernel_rfl) fun K hK => ?_)
    | (with_reducible refine parVC_stepN rfl fun K hK => ?_; (try simp only [go_sem, Nat.reduceBEq, Nat.reduceBNe, Nat.reduceAdd, Nat.reduceSub, Nat.reduceMul, Nat.reduceLeDiff, Nat.reduceLT, reduceCtorEq, Nat.reduceEqDiff, Int.reduceToNat, Int.reduceLE, Int.reduceLT, Int.reduceEq]); all_goals fail_if_success guard_target =ₛ False)
    | (with_reducible refine parVC_stepG rfl (by with_unfolding_all rfl) fun K hK => ?_; (try simp only [go_sem, Nat.reduceBEq, Nat.reduceBNe, Nat.reduceAdd, Nat.reduceSub, Nat.reduceMul, Nat.reduceLeDiff, Nat.reduceLT, reduceCtorEq, Nat.reduceEqDiff, Int.reduceToNat, Int.reduceLE, Int.reduceLT, Int.reduceEq]); all_goals fail_if_success guard_target =ₛ False)
    | with_reducible refine parVC_nil ?_
    | (with_reducible refine parEVC_stepN rfl fun K hK => ?_; (try simp only [go_sem, Nat.reduceBEq, Nat.reduceBNe, Nat.reduceAdd, Nat.reduceSub, Nat.reduceMul, Nat.reduceLeDiff, Nat.reduceLT, reduceCtorEq, Nat.reduceEqDiff, Int.reduceToNat, Int.reduceLE, Int.reduceLT, Int.reduceEq]); all_goals fail_if_success guard_target =ₛ False)
    | (with_reducible refine parEVC_stepG rfl (by with_unfolding_all rfl) fun K hK => ?_; (try simp only [go_sem, Nat.reduceBEq, Nat.reduceBNe, Nat.reduceAdd, Nat.reduceSub, Nat.reduceMul, Nat.reduceLeDiff, Nat.reduceLT, reduceCtorEq, Nat.reduceEqDiff, Int.reduceToNat, Int.reduceLE, Int.reduceLT, Int.reduceEq]); all_goals fail_if_success guard_target =ₛ False)
    | with_reducible refine parEVC_nil ?_
    | (with_reducible refine AWP.cond (by with_unfolding_all rfl) (fun h => ?_) (fun h => ?_); all_goals (try simp only [Bool.not_eq_true', Bool.not_eq_false'] at h); (all_goals try first | (exact absurd h Bool.false_ne_true) | (exact absurd h.symm Bool.false_ne_true) | (exact absurd h (by decide))))
    | with_reducible refine AWP.skip ?_
    | with_reducible refine AWP.ret ?_
    | with_reducible refine AWP.block ?_
    | with_reducible refine AWP.exit ?_
    | (with_reducible refine ⟨fun h => ?_, fun h => ?_⟩ <;> (try simp only [Bool.not_eq_true', Bool.not_eq_false'] at h) <;> simp only [h, go_sem, Nat.reduceBEq, Nat.reduceBNe, Nat.reduceAdd, Nat.reduceSub, Nat.reduceMul, Nat.reduceLeDiff, Nat.reduceLT, reduceCtorEq, Nat.reduceEqDiff, Int.reduceToNat, Int.reduceLE, Int.reduceLT, Int.reduceEq])
    | (with_reducible refine ⟨_, size_c _, ?_⟩; try simp only [go_sem, Nat.reduceBEq, Nat.reduceBNe, Nat.reduceAdd, Nat.reduceSub, Nat.reduceMul, Nat.reduceLeDiff, Nat.reduceLT, reduceCtorEq, Nat.reduceEqDiff, Int.reduceToNat, Int.reduceLE, Int.reduceLT, Int.reduceEq])
    | (with_reducible refine ⟨_, mul64_c _ _, ?_⟩; try simp only [go_sem, Nat.reduceBEq, Nat.reduceBNe, Nat.reduceAdd, Nat.reduceSub, Nat.reduceMul, Nat.reduceLeDiff, Nat.reduceLT, reduceCtorEq, Nat.reduceEqDiff, Int.reduceToNat, Int.reduceLE, Int.reduceLT, Int.reduceEq])
    | (with_reducible refine AWP.parR mixed (by kernel_rfl) fun K hK => ?_)
    | (simp only [go_sem, Nat.reduceBEq, Nat.reduceBNe, Nat.reduceAdd, Nat.reduceSub, Nat.reduceMul, Nat.reduceLeDiff, Nat.reduceLT, reduceCtorEq, Nat.reduceEqDiff, Int.reduceToNat, Int.reduceLE, Int.reduceLT, Int.reduceEq])
    | (clear hK K))
  all_goals exact ⟨by simp only [mulN, mulOk, *, Bool.not_true, Bool.not_false, if_true, if_false, Bool.true_and, Bool.false_and, reduceCtorEq], fun _ h => h⟩

def intRes (op : List UInt8) (a b : Int) : Dat × List UInt8 :=
  bif decide (op = [60]) then (boolDat (decide (a < b)), []) else bif decide (op = [61, 60]) then (boolDat (decide (a ≤ b)), []) else
  bif decide (op = [43]) then (bif !(decide (a < IntKind.i64.wrap (a + b)) == decide (0 < b)) then (zeroDat, sOver) else (intDat (IntKind.i64.wrap (a + b)), [])) else
  bif decide (op = [45]) then (bif !(decide (IntKind.i64.wrap (a - b) < a) == decide (0 < b)) then (zeroDat, sOver) else (intDat (IntKind.i64.wrap (a - b)), [])) else
  bif decide (op = [42]) then (bif !mulOk a b then (zeroDat, sOver) else (intDat (mulN a b), [])) else
  bif decide (b = 0) then (zeroDat, sZero) else
  bif decide (b = -1) && (decide (a = IntKind.i64.wrap (0 - a)) && !decide (a = 0)) then (zeroDat, sOver) else
  bif decide (op = [114, 101, 109]) then (intDat (a.tmod b), []) else (intDat (IntKind.i64.wrap (a.tdiv b)), [])
theorem integers_c (op : List UInt8) (a b : Int) : PC Try.prog 33 [S op, I .i64 a, I .i64 b] (.tup [Dt (intRes op a b).1, I .i64 0, S (intRes op a b).2]) := by
  refine PCB.of_body Try.func33 rfl (by decide) Try.ntmps33 Try.results33 rfl rfl rfl ?_ rfl rfl
  repeat' (first
    | (with_reducible refine seqVC_stepN rfl fun K hK => ?_; (try simp only [go_sem, Nat.reduceBEq, Nat.reduceBNe, Nat.reduceAdd, Nat.reduceSub, Nat.reduceMul, Nat.reduceLeDiff, Nat.reduceLT, reduceCtorEq, Nat.reduceEqDiff, Int.reduceToNat, Int.reduceLE, Int.reduceLT, Int.reduceEq]); all_goals fail_if_success guard_target =ₛ False)
    | (with_reducible refine seqVC_stepG rfl (by with_unfolding_all rfl) fun K hK => ?_; (try simp only [go_sem, Nat.reduceBEq, Nat.reduceBNe, Nat.reduceAdd, Nat.reduceSub, Nat.reduceMul, Nat.reduceLeDiff, Nat.reduceLT, reduceCtorEq, Nat.reduceEqDiff, Int.reduceToNat, Int.reduceLE, Int.reduceLT, Int.reduceEq]); all_goals fail_if_success guard_target =ₛ False)
    | with_reducible refine seqVC_nil ?_
    | (with_reducible refine hK _ _ ?_; clear hK K)
    | (with_reducible refine hK _ ?_; clear hK K)
    | with_reducible refine AWP.seq fun K hK => ?_
    | (with_reducible refine AWP.seqR (by kernel_rfl) fun K hK => ?_)
    | (with_reducible refine parVC_stepN rfl fun K hK => ?_; (try simp only [go_sem, Nat.reduceBEq, Nat.reduceBNe, Nat.reduceAdd, Nat.reduceSub, Nat.reduceMul, Nat.reduceLeDiff, Nat.reduceLT, reduceCtorEq, Nat.reduceEqDiff, Int.reduceToNat, Int.reduceLE, Int.reduceLT, Int.reduceEq]); all_goals fail_if_success guard_target =ₛ False)
    | (with_reducible refine parVC_stepG rfl (by with_unfolding_all rfl) fun K hK => ?_; (try simp only [go_sem, Nat.reduceBEq, Nat.reduceBNe, Nat.reduceAdd, Nat.reduceSub, Nat.reduceMul, Nat.reduceLeDiff, Nat.reduceLT, reduceCtorEq, Nat.reduceEqDiff, Int.reduceToNat, Int.reduceLE, Int.reduceLT, Int.reduceEq]); all_goals fail_if_success guard_target =ₛ False)
    | with_reducible refine parVC_nil ?_
    | (with_reducible refine parEVC_stepN rfl fun K hK => ?_; (try simp only [go_sem, Nat.reduceBEq, Nat.reduceBNe, Nat.reduceAdd, Nat.reduceSub, Nat.reduceMul, Nat.reduceLeDiff, Nat.reduceLT, reduceCtorEq, Nat.reduceEqDiff, Int.reduceToNat, Int.reduceLE, Int.reduceLT, Int.reduceEq]); all_goals fail_if_success guard_target =ₛ False)
    | (with_reducible refine parEVC_stepG rfl (by with_unfolding_all rfl) fun K hK => ?_; (try simp only [go_sem, Nat.reduceBEq, Nat.reduceBNe, Nat.reduceAdd, Nat.reduceSub, Nat.reduceMul, Nat.reduceLeDiff, Nat.reduceLT, reduceCtorEq, Nat.reduceEqDiff, Int.reduceToNat, Int.reduceLE, Int.reduceLT, Int.reduceEq]); all_goals fail_if_success guard_target =ₛ False)
    | with_reducible refine parEVC_nil ?_
    | (with_reducible refine AWP.cond (by with_unfolding_all rfl) (fun h => ?_) (fun h => ?_); all_goals (try simp only [Bool.not_eq_true', Bool.not_eq_false'] at h); (all_goals try first | (exact absurd h Bool.false_ne_true) | (exact absurd h.symm Bool.false_ne_true) | (exact absurd h (by decide))))
    | with_reducible refine AWP.skip ?_
    | with_reducible refine AWP.ret ?_
    | with_reducible refine AWP.block ?_
    | with_reducible refine AWP.exit ?_
    | (with_reducible refine ⟨fun h => ?_, fun h => ?_⟩ <;> (try simp only [Bool.not_eq_true', Bool.not_eq_false'] at h) <;> simp only [h, go_sem, Nat.reduceBEq, Nat.reduceBNe, Nat.reduceAdd, Nat.reduceSub, Nat.reduceMul, Nat.reduceLeDiff, Nat.reduceLT, reduceCtorEq, Nat.reduceEqDiff, Int.reduceToNat, Int.reduceLE, Int.reduceLT, Int.reduceEq])
    | (with_reducible refine ⟨_, atom_c _, ?_⟩; try simp only [go_sem, Nat.reduceBEq, Nat.reduceBNe, Nat.reduceAdd, Nat.reduceSub, Nat.reduceMul, Nat.reduceLeDiff, Nat.reduceLT, reduceCtorEq, Nat.reduceEqDiff, Int.reduceToNat, Int.reduceLE, Int.reduceLT, Int.reduceEq])
    | (with_reducible refine ⟨_, multiply_c _ _, ?_⟩; try simp only [go_sem, Nat.reduceBEq, Nat.reduceBNe, Nat.reduceAdd, Nat.reduceSub, Nat.reduceMul, Nat.reduceLeDiff, Nat.reduceLT, reduceCtorEq, Nat.reduceEqDiff, Int.reduceToNat, Int.reduceLE, Int.reduceLT, Int.reduceEq])
    | (refine ⟨by simpa using ‹decide (b = 0) = false›, ?_⟩)
    | (with_reducible refine AWP.parR mixed (by kernel_rfl) fun K hK => ?_)
    | (simp only [go_sem, Nat.reduceBEq, Nat.reduceBNe, Nat.reduceAdd, Nat.reduceSub, Nat.reduceMul, Nat.reduceLeDiff, Nat.reduceLT, reduceCtorEq, Nat.reduceEqDiff, Int.reduceToNat, Int.reduceLE, Int.reduceLT, Int.reduceEq])
    | (clear hK K))
  all_goals (refine ⟨?_, fun _ h => by cases h⟩)
  all_goals simp only [intRes, *, cond_true, cond_false, encDat_eq, Bool.true_and, Bool.and_true, Bool.false_and, Bool.and_false]
  all_goals first | rfl | (exact absurd h (by decide)) | trace_state
end Go.Proofs.Ytmpfdejckbceiaa
