/- A part of the proof: lemmas about the walk of the program and about plain integers and lists. No conditions beyond those that each lemma states. -/
import Derived.Test.YtmpfdejckbceiaaBk4
import Derived.Test.YtmpfdejckbceiaaBk3
import Derived.Lib.SliceRun
import Derived.Lib.Bytealg
import Derived.Lib.Walk
set_option linter.unusedSimpArgs false
set_option linter.unusedVariables false
set_option maxRecDepth 20000
set_option maxHeartbeats 400000
namespace Go.Proofs.Ytmpfdejckbceiaa
open Go Go.Sx
open Nat renaming reduceBEq → zA, reduceBNe → zB, reduceAdd → zC, reduceSub → zD, reduceMul → zE, reduceLeDiff → zF, reduceLT → zG, reduceEqDiff → zH
open Int renaming reduceToNat → zI, reduceLE → zJ, reduceLT → zK, reduceEq → zL
def lowB (b : UInt8) : Bool := decide ((97 : Int) ≤ (b.toNat : Int)) && decide ((b.toNat : Int) ≤ 122)
def digB (b : UInt8) : Bool := decide ((48 : Int) ≤ (b.toNat : Int)) && decide ((b.toNat : Int) ≤ 57)
theorem lower_c (b : UInt8) : PC Try.prog 121 [I .u8 b.toNat] (Bo (lowB b)) := by
  refine PCB.of_body Try.func121 rfl (by decide) Try.ntmps121 Try.results121 rfl rfl rfl ?_ rfl rfl
  repeat' (first
    | (simp only [go_sem, zA, zB, zC, zD, zE, zF, zG, reduceCtorEq, zH, zI, zJ, zK, zL]; all_goals fail_if_success guard_target =ₛ False)
    | (with_reducible first
      | refine seqVC_stepN rfl fun K hK => ?_
      | refine seqVC_stepG rfl (by with_unfolding_all rfl) fun K hK => ?_
      | refine seqVC_nil ?_
      | (refine hK _ _ _ ?_; clear hK K)
      | (refine hK _ _ ?_; clear hK K)
      | (refine hK _ ?_; clear hK K)
      | refine AWP.seq fun K hK => ?_
      | refine AWP.seqR (by kernel_rfl) fun K hK => ?_
      | (refine AWP.cond (by with_unfolding_all rfl) (fun h => ?_) (fun h => ?_); all_goals (try simp only [Bool.not_eq_true', Bool.not_eq_false'] at h); (all_goals try first | (exact absurd h Bool.false_ne_true) | (exact absurd h.symm Bool.false_ne_true) | (exact absurd h (by decide))))
      | refine AWP.skip ?_
      | refine AWP.ret ?_
      | refine AWP.block ?_
      | refine AWP.exit ?_
      | (refine ⟨fun h => ?_, fun h => ?_⟩ <;> (try simp only [Bool.not_eq_true', Bool.not_eq_false'] at h) <;> try simp only [h])
      | refine Or.inl ?_)
    | (clear hK K))
  all_goals (refine fin0 ?_; simp only [lowB, h, Bool.true_and, Bool.false_and])
theorem digit_c (b : UInt8) : PC Try.prog 122 [I .u8 b.toNat] (Bo (digB b)) := by
  refine PCB.of_body Try.func122 rfl (by decide) Try.ntmps122 Try.results122 rfl rfl rfl ?_ rfl rfl
  repeat' (first
    | (simp only [go_sem, zA, zB, zC, zD, zE, zF, zG, reduceCtorEq, zH, zI, zJ, zK, zL]; all_goals fail_if_success guard_target =ₛ False)
    | (with_reducible first
      | refine seqVC_stepN rfl fun K hK => ?_
      | refine seqVC_stepG rfl (by with_unfolding_all rfl) fun K hK => ?_
      | refine seqVC_nil ?_
      | (refine hK _ _ _ ?_; clear hK K)
      | (refine hK _ _ ?_; clear hK K)
      | (refine hK _ ?_; clear hK K)
      | refine AWP.seq fun K hK => ?_
      | refine AWP.seqR (by kernel_rfl) fun K hK => ?_
      | (refine AWP.cond (by with_unfolding_all rfl) (fun h => ?_) (fun h => ?_); all_goals (try simp only [Bool.not_eq_true', Bool.not_eq_false'] at h); (all_goals try first | (exact absurd h Bool.false_ne_true) | (exact absurd h.symm Bool.false_ne_true) | (exact absurd h (by decide))))
      | refine AWP.skip ?_
      | refine AWP.ret ?_
      | refine AWP.block ?_
      | refine AWP.exit ?_
      | (refine ⟨fun h => ?_, fun h => ?_⟩ <;> (try simp only [Bool.not_eq_true', Bool.not_eq_false'] at h) <;> try simp only [h])
      | refine Or.inl ?_)
    | (clear hK K))
  all_goals (refine fin0 ?_; simp only [digB, h, Bool.true_and, Bool.false_and])
def tailB (b : UInt8) : Bool := lowB b || (digB b || decide ((b.toNat : Int) = 95))
def isAtomB (s : List UInt8) : Bool := !(decide ((s.length : Int) < 1) || (decide ((16 : Int) < (s.length : Int)) || !lowB (s.headD 0))) && (s.drop 1).all tailB
theorem isAtom_c (s : List UInt8) : PC Try.prog 93 [S s] (Bo (isAtomB s)) := by
  refine PCB.of_body Try.func93 rfl (by decide) Try.ntmps93 Try.results93 rfl rfl rfl ?_ rfl rfl
  cases hl1 : decide ((s.length : Int) < 1) with
  | true =>
    repeat' (first
      | (simp only [go_sem, zA, zB, zC, zD, zE, zF, zG, reduceCtorEq, zH, zI, zJ, zK, zL, hl1]; all_goals fail_if_success guard_target =ₛ False)
      | (with_reducible first
        | refine seqVC_stepN rfl fun K hK => ?_
        | refine seqVC_stepG rfl (by with_unfolding_all rfl) fun K hK => ?_
        | refine seqVC_nil ?_
        | (refine hK _ _ _ ?_; clear hK K)
        | (refine hK _ _ ?_; clear hK K)
        | (refine hK _ ?_; clear hK K)
        | refine AWP.seq fun K hK => ?_
        | refine AWP.seqR (by kernel_rfl) fun K hK => ?_
        | (refine AWP.cond (by with_unfolding_all rfl) (fun h => ?_) (fun h => ?_); all_goals (try simp only [Bool.not_eq_true', Bool.not_eq_false'] at h); (all_goals try first | (exact absurd h Bool.false_ne_true) | (exact absurd h.symm Bool.false_ne_true) | (exact absurd h (by decide))))
        | refine AWP.skip ?_
        | refine AWP.ret ?_
        | refine AWP.block ?_
        | refine AWP.exit ?_
        | (refine ⟨fun h => ?_, fun h => ?_⟩ <;> (try simp only [Bool.not_eq_true', Bool.not_eq_false'] at h) <;> try simp only [h])
        | refine Or.inl ?_)
      | (clear hK K))
    all_goals (first | exact fun _ h => (by cases h) | refine fin0 ?_)
    all_goals simp only [isAtomB, hl1, Bool.true_or, Bool.not_true, Bool.false_and]
  | false =>
    have hpos : 0 < s.length := by simp only [decide_eq_false_iff_not] at hl1; omega
    obtain ⟨b, hb0⟩ : ∃ b, s[0]? = some b := ⟨s[0], by simp [hpos]⟩
    have hhd : s.headD 0 = b := by cases s <;> simp at hb0 hpos ⊢; exact hb0
    cases hlong : decide ((16 : Int) < (s.length : Int)) with
    | true =>
      repeat' (first
        | (simp only [go_sem, zA, zB, zC, zD, zE, zF, zG, reduceCtorEq, zH, zI, zJ, zK, zL, hl1, hlong]; all_goals fail_if_success guard_target =ₛ False)
        | (with_reducible first
          | refine seqVC_stepN rfl fun K hK => ?_
          | refine seqVC_stepG rfl (by with_unfolding_all rfl) fun K hK => ?_
          | refine seqVC_nil ?_
          | (refine hK _ _ _ ?_; clear hK K)
          | (refine hK _ _ ?_; clear hK K)
          | (refine hK _ ?_; clear hK K)
          | refine AWP.seq fun K hK => ?_
          | refine AWP.seqR (by kernel_rfl) fun K hK => ?_
          | (refine AWP.cond (by with_unfolding_all rfl) (fun h => ?_) (fun h => ?_); all_goals (try simp only [Bool.not_eq_true', Bool.not_eq_false'] at h); (all_goals try first | (exact absurd h Bool.false_ne_true) | (exact absurd h.symm Bool.false_ne_true) | (exact absurd h (by decide))))
          | refine AWP.skip ?_
          | refine AWP.ret ?_
          | refine AWP.block ?_
          | refine AWP.exit ?_
          | (refine ⟨fun h => ?_, fun h => ?_⟩ <;> (try simp only [Bool.not_eq_true', Bool.not_eq_false'] at h) <;> try simp only [h])
          | refine Or.inl ?_)
        | (clear hK K))
      all_goals (first | exact fun _ h => (by cases h) | refine fin0 ?_)
      all_goals simp only [isAtomB, hlong, Bool.true_or, Bool.or_true, Bool.not_true, Bool.false_and]
    | false =>
      have hlen : s.length ≤ 9223372036854775807 := by simp only [decide_eq_false_iff_not] at hlong; omega
      cases hlow : lowB b with
      | false =>
        repeat' (first
          | (simp only [go_sem, zA, zB, zC, zD, zE, zF, zG, reduceCtorEq, zH, zI, zJ, zK, zL, hl1, hlong, hlow]; all_goals fail_if_success guard_target =ₛ False)
          | (with_reducible first
            | refine seqVC_stepN rfl fun K hK => ?_
            | refine seqVC_stepG rfl (by with_unfolding_all rfl) fun K hK => ?_
            | refine seqVC_nil ?_
            | (refine hK _ _ _ ?_; clear hK K)
            | (refine hK _ _ ?_; clear hK K)
            | (refine hK _ ?_; clear hK K)
            | refine AWP.seq fun K hK => ?_
            | refine AWP.seqR (by kernel_rfl) fun K hK => ?_
            | (refine AWP.cond (by with_unfolding_all rfl) (fun h => ?_) (fun h => ?_); all_goals (try simp only [Bool.not_eq_true', Bool.not_eq_false'] at h); (all_goals try first | (exact absurd h Bool.false_ne_true) | (exact absurd h.symm Bool.false_ne_true) | (exact absurd h (by decide))))
            | refine AWP.skip ?_
            | refine AWP.ret ?_
            | refine AWP.block ?_
            | refine AWP.exit ?_
            | (refine ⟨fun h => ?_, fun h => ?_⟩ <;> (try simp only [Bool.not_eq_true', Bool.not_eq_false'] at h) <;> try simp only [h])
            | refine ⟨_, lower_c b, ?_⟩
            | refine ⟨by omega, b, hb0, ?_⟩
            | refine ⟨b, hb0, ?_⟩
            | refine Or.inl ?_)
          | (clear hK K))
        all_goals (first | exact fun _ h => (by cases h) | refine fin0 ?_)
        all_goals simp only [isAtomB, hl1, hlong, hhd, hlow, Bool.false_or, Bool.not_false, Bool.not_true, Bool.false_and]
      | true =>
        have hmod : isAtomB s = (s.drop 1).all tailB := by simp only [isAtomB, hl1, hlong, hhd, hlow, Bool.not_true, Bool.false_or, Bool.not_false, Bool.true_and]
        repeat' (first
          | (simp only [go_sem, zA, zB, zC, zD, zE, zF, zG, reduceCtorEq, zH, zI, zJ, zK, zL, hl1, hlong, hlow]; all_goals fail_if_success guard_target =ₛ False)
          | (with_reducible first
            | refine seqVC_stepN rfl fun K hK => ?_
            | refine seqVC_stepG rfl (by with_unfolding_all rfl) fun K hK => ?_
            | refine seqVC_nil ?_
            | (refine hK _ _ _ ?_; clear hK K)
            | (refine hK _ _ ?_; clear hK K)
            | (refine hK _ ?_; clear hK K)
            | refine AWP.seq fun K hK => ?_
            | refine AWP.seqR (by kernel_rfl) fun K hK => ?_
            | (refine AWP.cond (by with_unfolding_all rfl) (fun h => ?_) (fun h => ?_); all_goals (try simp only [Bool.not_eq_true', Bool.not_eq_false'] at h); (all_goals try first | (exact absurd h Bool.false_ne_true) | (exact absurd h.symm Bool.false_ne_true) | (exact absurd h (by decide))))
            | refine AWP.skip ?_
            | refine AWP.ret ?_
            | refine AWP.block ?_
            | refine AWP.exit ?_
            | (refine ⟨fun h => ?_, fun h => ?_⟩ <;> (try simp only [Bool.not_eq_true', Bool.not_eq_false'] at h) <;> try simp only [h])
            | refine ⟨_, lower_c b, ?_⟩
            | refine ⟨by omega, b, hb0, ?_⟩
            | refine ⟨b, hb0, ?_⟩
            | refine Or.inl ?_)
          | (clear hK K))
        refine AWP.loopS (X := Nat) (fun k => [(3, I .i64 k), (0, S s)]) (fun _ => []) (fun k => 1 ≤ k ∧ k ≤ s.length ∧ (s.drop 1).all tailB = (s.drop k).all tailB) (fun k => s.length - k) 1 (Gh.to [] (by repeat (first | exact trivial | refine ⟨rfl, ?_⟩ | refine ⟨by (simp only [go_sem, zA, zB, zC, zD, zE, zF, zG, reduceCtorEq, zH, zI, zJ, zK, zL, List.length_append, List.length_map, List.length_cons, List.length_nil, Nat.zero_add]) <;> rfl, ?_⟩)) (by repeat (first | exact trivial | refine ⟨rfl, ?_⟩ | refine ⟨by (simp only [go_sem, zA, zB, zC, zD, zE, zF, zG, reduceCtorEq, zH, zI, zJ, zK, zL, List.length_append, List.length_map, List.length_cons, List.length_nil, Nat.zero_add]) <;> rfl, ?_⟩)) rfl rfl rfl) ⟨Nat.le_refl _, by omega, rfl⟩ ?_
        rintro k ⟨hk1, hk, hp⟩
        by_cases hlt : k < s.length
        · have hdrop := List.drop_eq_getElem_cons hlt
          have hd : s[k]? = some s[k] := List.getElem?_eq_getElem hlt
          have hbt : decide ((k : Int) < (s.length : Int)) = true := by simpa using hlt
          generalize s[k] = d at hd hdrop
          rw [hdrop, List.all_cons] at hp
          cases ht1 : lowB d <;> cases ht2 : digB d <;> cases ht3 : decide ((d.toNat : Int) = 95)
          all_goals simp only [tailB, ht1, ht2, ht3, Bool.or_true, Bool.or_false, Bool.true_or, Bool.true_and, Bool.false_and] at hp
          repeat' (first
            | (simp only [go_sem, zA, zB, zC, zD, zE, zF, zG, reduceCtorEq, zH, zI, zJ, zK, zL, hbt, ht1, ht2, ht3]; all_goals fail_if_success guard_target =ₛ False)
            | (with_reducible first
              | refine seqVC_stepN rfl fun K hK => ?_
              | refine seqVC_stepG rfl (by with_unfolding_all rfl) fun K hK => ?_
              | refine seqVC_nil ?_
              | (refine hK _ _ _ ?_; clear hK K)
              | (refine hK _ _ ?_; clear hK K)
              | (refine hK _ ?_; clear hK K)
              | refine AWP.seq fun K hK => ?_
              | refine AWP.seqR (by kernel_rfl) fun K hK => ?_
              | (refine AWP.cond (by with_unfolding_all rfl) (fun h => ?_) (fun h => ?_); all_goals (try simp only [Bool.not_eq_true', Bool.not_eq_false'] at h); (all_goals try first | (exact absurd h Bool.false_ne_true) | (exact absurd h.symm Bool.false_ne_true) | (exact absurd h (by decide))))
              | refine AWP.skip ?_
              | refine AWP.ret ?_
              | refine AWP.block ?_
              | refine AWP.exit ?_
              | (refine ⟨fun h => ?_, fun h => ?_⟩ <;> (try simp only [Bool.not_eq_true', Bool.not_eq_false'] at h) <;> try simp only [h])
              | refine ⟨_, lower_c d, ?_⟩
              | refine ⟨_, digit_c d, ?_⟩
              | refine ⟨by omega, d, hd, ?_⟩
              | refine ⟨d, hd, ?_⟩
              | refine Or.inl ?_)
            | (clear hK K))
          all_goals first
            | (refine fin0 ?_; rw [hmod, hp])
            | (rw [wrap_succ hlt hlen]; refine ⟨k + 1, by omega, ⟨by omega, by omega, hp⟩, Gh.to [] (by repeat (first | exact trivial | refine ⟨rfl, ?_⟩ | refine ⟨by (simp only [go_sem, zA, zB, zC, zD, zE, zF, zG, reduceCtorEq, zH, zI, zJ, zK, zL, List.length_append, List.length_map, List.length_cons, List.length_nil, Nat.zero_add]) <;> rfl, ?_⟩)) (by repeat (first | exact trivial | refine ⟨rfl, ?_⟩ | refine ⟨by (simp only [go_sem, zA, zB, zC, zD, zE, zF, zG, reduceCtorEq, zH, zI, zJ, zK, zL, List.length_append, List.length_map, List.length_cons, List.length_nil, Nat.zero_add]) <;> rfl, ?_⟩)) rfl rfl rfl⟩)
        · have hbt : decide ((k : Int) < (s.length : Int)) = false := by simpa using hlt
          rw [show s.drop k = [] from List.drop_eq_nil_of_le (by omega)] at hp
          repeat' (first
            | (simp only [go_sem, zA, zB, zC, zD, zE, zF, zG, reduceCtorEq, zH, zI, zJ, zK, zL, hbt]; all_goals fail_if_success guard_target =ₛ False)
            | (with_reducible first
              | refine seqVC_stepN rfl fun K hK => ?_
              | refine seqVC_stepG rfl (by with_unfolding_all rfl) fun K hK => ?_
              | refine seqVC_nil ?_
              | (refine hK _ _ _ ?_; clear hK K)
              | (refine hK _ _ ?_; clear hK K)
              | (refine hK _ ?_; clear hK K)
              | refine AWP.seq fun K hK => ?_
              | refine AWP.seqR (by kernel_rfl) fun K hK => ?_
              | (refine AWP.cond (by with_unfolding_all rfl) (fun h => ?_) (fun h => ?_); all_goals (try simp only [Bool.not_eq_true', Bool.not_eq_false'] at h); (all_goals try first | (exact absurd h Bool.false_ne_true) | (exact absurd h.symm Bool.false_ne_true) | (exact absurd h (by decide))))
              | refine AWP.skip ?_
              | refine AWP.ret ?_
              | refine AWP.block ?_
              | refine AWP.exit ?_
              | (refine ⟨fun h => ?_, fun h => ?_⟩ <;> (try simp only [Bool.not_eq_true', Bool.not_eq_false'] at h) <;> try simp only [h])
              | refine Or.inl ?_)
            | (clear hK K))
          all_goals (refine fin0 ?_; rw [hmod, hp]; rfl)
def validKeyB (k : KeyD) : Bool := (decide (k.kind = 0) && isAtomB k.text) || (decide (k.kind = 1) && decide ((k.text.length : Int) ≤ 64))
theorem validKey_c (k : KeyD) : PC Try.prog 60 [.st (encKey k)] (Bo (validKeyB k)) := by
  refine PCB.of_body Try.func60 rfl (by decide) Try.ntmps60 Try.results60 rfl rfl rfl ?_ rfl rfl
  repeat' (first
    | (simp only [go_sem, zA, zB, zC, zD, zE, zF, zG, reduceCtorEq, zH, zI, zJ, zK, zL]; all_goals fail_if_success guard_target =ₛ False)
    | (with_reducible first
      | refine seqVC_stepN rfl fun K hK => ?_
      | refine seqVC_stepG rfl (by with_unfolding_all rfl) fun K hK => ?_
      | refine seqVC_nil ?_
      | (refine hK _ _ _ ?_; clear hK K)
      | (refine hK _ _ ?_; clear hK K)
      | (refine hK _ ?_; clear hK K)
      | refine AWP.seq fun K hK => ?_
      | refine AWP.seqR (by kernel_rfl) fun K hK => ?_
      | (refine AWP.cond (by with_unfolding_all rfl) (fun h => ?_) (fun h => ?_); all_goals (try simp only [Bool.not_eq_true', Bool.not_eq_false'] at h); (all_goals try first | (exact absurd h Bool.false_ne_true) | (exact absurd h.symm Bool.false_ne_true) | (exact absurd h (by decide))))
      | refine AWP.skip ?_
      | refine AWP.ret ?_
      | refine AWP.block ?_
      | refine AWP.exit ?_
      | (refine ⟨fun h => ?_, fun h => ?_⟩ <;> (try simp only [Bool.not_eq_true', Bool.not_eq_false'] at h) <;> try simp only [h])
      | refine ⟨_, isAtom_c _, ?_⟩
      | refine Or.inl ?_)
    | (clear hK K))
  all_goals (refine fin0 ?_; simp only [validKeyB, *, Bool.true_and, Bool.false_and, Bool.true_or, Bool.false_or, Bool.or_false])
theorem order_c (a b : Int) : PC Try.prog 78 [I .i64 a, I .i64 b] (I .i64 (bif decide (a < b) then -1 else bif decide (b < a) then 1 else 0)) := by
  refine PCB.of_body Try.func78 rfl (by decide) Try.ntmps78 Try.results78 rfl rfl rfl ?_ rfl rfl
  repeat' (first
    | (simp only [go_sem, zA, zB, zC, zD, zE, zF, zG, reduceCtorEq, zH, zI, zJ, zK, zL]; all_goals fail_if_success guard_target =ₛ False)
    | (with_reducible first
      | refine seqVC_stepN rfl fun K hK => ?_
      | refine seqVC_nil ?_
      | (refine hK _ _ _ ?_; clear hK K)
      | (refine hK _ _ ?_; clear hK K)
      | (refine hK _ ?_; clear hK K)
      | refine AWP.seq fun K hK => ?_
      | refine AWP.seqR (by kernel_rfl) fun K hK => ?_
      | (refine AWP.cond (by with_unfolding_all rfl) (fun h => ?_) (fun h => ?_); all_goals (try simp only [Bool.not_eq_true', Bool.not_eq_false'] at h); (all_goals try first | (exact absurd h Bool.false_ne_true) | (exact absurd h.symm Bool.false_ne_true) | (exact absurd h (by decide))))
      | refine AWP.skip ?_
      | refine AWP.ret ?_
      | refine AWP.block ?_
      | refine AWP.exit ?_
      | refine Or.inl ?_)
    | (clear hK K))
  all_goals (refine fin0 ?_; simp only [*, cond_true, cond_false])
def textCmp (a b : List UInt8) : Int := bif Op.bytesLess a b then -1 else bif Op.bytesLess a b || decide (a = b) then 0 else 1
theorem text_c (a b : List UInt8) : PC Try.prog 79 [S a, S b] (I .i64 (textCmp a b)) := by
  refine PCB.of_body Try.func79 rfl (by decide) Try.ntmps79 Try.results79 rfl rfl rfl ?_ rfl rfl
  repeat' (first
    | (simp only [go_sem, zA, zB, zC, zD, zE, zF, zG, reduceCtorEq, zH, zI, zJ, zK, zL]; all_goals fail_if_success guard_target =ₛ False)
    | (with_reducible first
      | refine seqVC_stepN rfl fun K hK => ?_
      | refine seqVC_nil ?_
      | (refine hK _ _ _ ?_; clear hK K)
      | (refine hK _ _ ?_; clear hK K)
      | (refine hK _ ?_; clear hK K)
      | refine AWP.seq fun K hK => ?_
      | refine AWP.seqR (by kernel_rfl) fun K hK => ?_
      | (refine AWP.cond (by with_unfolding_all rfl) (fun h => ?_) (fun h => ?_); all_goals (try simp only [Bool.not_eq_true', Bool.not_eq_false'] at h); (all_goals try first | (exact absurd h Bool.false_ne_true) | (exact absurd h.symm Bool.false_ne_true) | (exact absurd h (by decide))))
      | refine AWP.skip ?_
      | refine AWP.ret ?_
      | refine AWP.block ?_
      | refine AWP.exit ?_
      | refine Or.inl ?_)
    | (clear hK K))
  all_goals first
    | (refine fin0 ?_; simp only [textCmp, h, cond_true]; done)
    | (rename_i h1; rw [h1, Bool.false_or] at h; refine fin0 ?_; simp only [textCmp, h1, h, Bool.false_or, cond_true, cond_false])
def keyCmp (a b : KeyD) : Int := bif !decide (a.kind = b.kind) then (bif decide (a.kind < b.kind) then -1 else bif decide (b.kind < a.kind) then 1 else 0) else textCmp a.text b.text
theorem compareKeys_c (a b : KeyD) : PC Try.prog 61 [.st (encKey a), .st (encKey b)] (I .i64 (keyCmp a b)) := by
  refine PCB.of_body Try.func61 rfl (by decide) Try.ntmps61 Try.results61 rfl rfl rfl ?_ rfl rfl
  repeat' (first
    | (simp only [go_sem, zA, zB, zC, zD, zE, zF, zG, reduceCtorEq, zH, zI, zJ, zK, zL]; all_goals fail_if_success guard_target =ₛ False)
    | (with_reducible first
      | refine seqVC_stepN rfl fun K hK => ?_
      | refine seqVC_nil ?_
      | (refine hK _ _ _ ?_; clear hK K)
      | (refine hK _ _ ?_; clear hK K)
      | (refine hK _ ?_; clear hK K)
      | refine AWP.seq fun K hK => ?_
      | refine AWP.seqR (by kernel_rfl) fun K hK => ?_
      | (refine AWP.cond (by with_unfolding_all rfl) (fun h => ?_) (fun h => ?_); all_goals (try simp only [Bool.not_eq_true', Bool.not_eq_false'] at h); (all_goals try first | (exact absurd h Bool.false_ne_true) | (exact absurd h.symm Bool.false_ne_true) | (exact absurd h (by decide))))
      | refine AWP.skip ?_
      | refine AWP.ret ?_
      | refine AWP.block ?_
      | refine AWP.exit ?_
      | refine ⟨_, order_c _ _, ?_⟩
      | refine ⟨_, text_c _ _, ?_⟩
      | refine Or.inl ?_)
    | (clear hK K))
  all_goals (refine fin0 ?_; simp only [keyCmp, h, Bool.not_true, Bool.not_false, cond_true, cond_false])
end Go.Proofs.Ytmpfdejckbceiaa
set_option linter.unusedVariables false
namespace Go.Sx
variable {P : Program} {n : Nat}
theorem Gh.soft {env : Env} {B : Bx} (j : Nat) {cs : List Cell} (hb : B.lookup j = some (.cells cs)) : Gh n ⟨env, B⟩ ⟨env, Bx.put j (.cells (cs.map Cell.soft)) B⟩ := by
  intro κ M0 a w s
  obtain ⟨M, ν, h1, h2, h3, h4, h5, h6⟩ := s
  have hmem := lookup_box hb
  have hkeys : ∀ i r, (i, r) ∈ Bx.put j (.cells (cs.map Cell.soft)) B → ∃ r0, (i, r0) ∈ B := by
    intro i r hm
    rcases Bx.mem_put h5.nodup hm with e | ⟨hm, _⟩
    · cases e; exact ⟨_, hmem⟩
    · exact ⟨r, hm⟩
  refine ⟨M, ν, h1, h2, h3, h4, ⟨h5.os, h5.tape, h5.output, h5.dr, h5.size, h5.unch, h5.fro, ?_, ?_, ?_, ?_⟩, h6⟩
  · intro i r hm
    rcases Bx.mem_put h5.nodup hm with e | ⟨hm, _⟩
    · cases e
      have h0 := h5.res j _ hmem
      simp only [Res.ok] at h0 ⊢
      obtain ⟨b, c, et, g1, g2, g3⟩ := h0
      exact ⟨b, c, et, g1, g2, Cell.reps_soft g3⟩
    · exact h5.res i r hm
  · intro i r b hm hbk
    obtain ⟨r0, h0⟩ := hkeys i r hm
    exact h5.away i r0 b h0 hbk
  · intro i r i' r' b hm hm' hbk hbk'
    obtain ⟨r0, h0⟩ := hkeys i r hm
    obtain ⟨r1, h1⟩ := hkeys i' r' hm'
    exact h5.inj i r0 i' r1 b h0 h1 hbk hbk'
  · rw [Bx.put_keys]; exact h5.nodup
/-- l == nil, at a row whose cells alone are known -/
theorem AWP.nilR {Q : Exit → AS → Prop} {id d x b k : Nat} {ty t1 t2 : TypeId} {p1 p2 : String} {af1 af2 : Array Edge} {e : TypeId} {rows : List (List C)} {env : Env} {B : Bx} (hd : env.lookup d = some (.one (.dat (.sl k rows)))) (hx : x < n) (hb : b < n)
    (hty : P.underlying ty = some (.slice e)) (ht : rows = [] → Q .normal ⟨(b, Bo true) :: (x, .one (.dat (.sl k rows))) :: env, B⟩) (hf : Q .normal ⟨(b, Bo false) :: (x, .one (.dat (.sl k rows))) :: env, B⟩) :
    AWP P n (.region id #[⟨some x, .move (.tmp d), t1, p1, af1, none⟩, ⟨some b, .binOp .eql ty (.tmp x) (.const (.slice none 0 0)) ty, t2, p2, af2, none⟩] false) ⟨env, B⟩ Q := by
  intro κ M0 a w hs
  refine wp_region_lit (l := [_, _]) ?_
  obtain ⟨M, ν, h1, h2, h3, h4, h5, h6⟩ := hs
  have hv := h4 d _ hd
  simp only [T.rep, Cell.rep, C.rep] at hv
  obtain ⟨ad, cap, mid, ev, hc1, hc2, hc3, hc4⟩ := hv
  have hrep : (T.one (.dat (.sl k rows))).rep M ν (a.tmps.getD d undef) := h4 d _ hd
  have hst1 := put_St (t := .one (.dat (.sl k rows))) (v := a.eval (.tmp d)) (dst := some x) h1 h2 h3 h4 (Mem.ext.refl κ M) (by intro d' e'; cases e'; exact hx) hrep h5 h6
  unfold wpList
  rw [if_pos (by rfl)]
  left
  have er1 : (execOp a.eval ⟨some x, .move (.tmp d), t1, p1, af1, none⟩).run P w = .ok (.value (a.eval (.tmp d))) w := rfl
  unfold Oper.wp
  rw [er1]
  simp only [Oper.upon]
  unfold wpList
  rw [if_pos (by rfl)]
  left
  obtain ⟨a1, ea1⟩ : ∃ a1, a1 = a.put (some x) (a.eval (.tmp d)) := ⟨_, rfl⟩
  rw [← ea1] at hst1 ⊢
  obtain ⟨M1, ν1, g1, g2, g3, g4, g5, g6⟩ := hst1
  have hx1 := g4 x (.one (.dat (.sl k rows))) (by simp [AS.put])
  have hv := hx1
  simp only [T.rep, Cell.rep, C.rep] at hv
  obtain ⟨ad, cap, mid, ev, hc1, hc2, hc3, hc4⟩ := hv
  have ex : a1.eval (.tmp x) = .slice ad rows.length cap := ev
  have er2 : (execOp a1.eval ⟨some b, .binOp .eql ty (.tmp x) (.const (.slice none 0 0)) ty, t2, p2, af2, none⟩).run P w = .ok (.value (.bool ad.isNone)) w := by
    have hrun : (execOp a1.eval ⟨some b, .binOp .eql ty (.tmp x) (.const (.slice none 0 0)) ty, t2, p2, af2, none⟩).run P w = ((eqGuard .eql ty (.tmp x) (.const (.slice none 0 0)) (a1.eval (.tmp x)) (a1.eval (.const (.slice none 0 0)))).run P w).andThen fun _ w => ((binOp .eql ty (a1.eval (.tmp x)) (a1.eval (.const (.slice none 0 0)))).run P w).andThen fun v w => .ok (.value v) w := by
      unfold execOp
      simp only [Sem.run_bind, Sem.run_pure]
      cases (eqGuard .eql ty (.tmp x) (.const (.slice none 0 0)) (a1.eval (.tmp x)) (a1.eval (.const (.slice none 0 0)))).run P w <;> rfl
    rw [hrun, run_guard .eql ty _ _ w (by rw [ex]; simp) (by intro c; rw [ex]; simp), ex]
    have : a1.eval (.const (.slice none 0 0)) = .slice none 0 0 := rfl
    rw [this]
    simp only [Result.andThen_ok, Lib.run_eql_slice_nil w ty e ad _ _ _ _ hty]
  unfold Oper.wp
  rw [er2]
  simp only [Oper.upon]
  have hst2 := put_St (t := Bo ad.isNone) (v := .bool ad.isNone) (dst := some b) g1 g2 g3 g4 (Mem.ext.refl κ M1) (by intro d' e'; cases e'; exact hb) (rep_bool.2 rfl) g5 g6
  unfold wpList
  refine ⟨_, hst2, ?_⟩
  cases ad with
  | none =>
    refine ht ?_
    rcases hc4 with h | ⟨_, _, h, _⟩
    · exact h
    · cases h
  | some _ => exact hf
end Go.Sx
set_option linter.unusedVariables false
namespace Go.Sx
variable {P : Program} {n : Nat} {Q : Exit → AS → Prop}
/-- equality that the walk's rewriting leaves alone -/
def Is {α : Type} (a b : α) : Prop := a = b
/-- the boxes of these names -/
def keepB (B : Bx) : List Nat → Bx
  | [] => []
  | d :: ds => match B.lookup d with
    | some t => (d, t) :: keepB B ds
    | none => keepB B ds
attribute [go_sem] keepB
/-- a loop of which only some slots and boxes change -/
theorem AWP.loopF {c : Code} {env : Env} {B : Bx} {X : Type} (chg : X → Env) (chB : X → Bx) (ks kb : List Nat) (ok : X → Prop) (meas : X → Nat) (x₀ : X)
    (hs : Gh n ⟨env, B⟩ ⟨chg x₀ ++ keepL env ks, chB x₀ ++ keepB B kb⟩) (h₀ : ok x₀)
    (round : ∀ x, ok x → AWP P n c ⟨chg x ++ keepL env ks, chB x ++ keepB B kb⟩ (Then (fun σ' => ∃ x', meas x' < meas x ∧ ok x' ∧ Gh n σ' ⟨chg x' ++ keepL env ks, chB x' ++ keepB B kb⟩) Q)) : AWP P n (.loop c) ⟨env, B⟩ Q :=
  AWP.loopS (fun x => chg x ++ keepL env ks) (fun x => chB x ++ keepB B kb) ok meas x₀ hs h₀ round

/-- a range over a list -/
theorem AWP.range {c : Code} {env : Env} {B : Bx} {α S : Type} (l : List α) (enc : α → List C) (chg : Nat → S → Env) (chB : Nat → S → Bx) (ks kb : List Nat) (ok : Nat → S → Prop) (s₀ : S)
    (hs : Gh n ⟨env, B⟩ ⟨chg 0 s₀ ++ keepL env ks, chB 0 s₀ ++ keepB B kb⟩) (h₀ : ok 0 s₀)
    (step : ∀ (k : Nat) (s : S) (x : α), k < l.length → l[k]? = some x → (l.map enc)[k]? = some (enc x) → decide ((k : Int) < (l.length : Int)) = true → ok k s →
      AWP P n c ⟨chg k s ++ keepL env ks, chB k s ++ keepB B kb⟩ (Then (fun σ' => ∃ s', ok (k + 1) s' ∧ Gh n σ' ⟨chg (k + 1) s' ++ keepL env ks, chB (k + 1) s' ++ keepB B kb⟩) Q))
    (done : ∀ s : S, decide ((l.length : Int) < (l.length : Int)) = false → ok l.length s → AWP P n c ⟨chg l.length s ++ keepL env ks, chB l.length s ++ keepB B kb⟩ (Then (fun _ => False) Q)) : AWP P n (.loop c) ⟨env, B⟩ Q := by
  refine AWP.loopF (X := Nat × S) (fun x => chg x.1 x.2) (fun x => chB x.1 x.2) ks kb (fun x => x.1 ≤ l.length ∧ ok x.1 x.2) (fun x => l.length - x.1) (0, s₀) hs ⟨Nat.zero_le _, h₀⟩ ?_
  rintro ⟨k, s⟩ ⟨hk, hok⟩
  simp only at hk hok ⊢
  by_cases hlt : k < l.length
  · obtain ⟨x, hx, hx', hb, _⟩ := at_lt (enc := enc) hlt
    refine (step k s x hlt hx hx' hb hok).mono ?_
    intro e σ' hq
    cases e with
    | normal => obtain ⟨s', h1, h2⟩ := hq; exact ⟨(k + 1, s'), by simp only; omega, ⟨by simp only; omega, h1⟩, h2⟩
    | exit id => exact hq
    | goto l => exact hq
    | ret => exact hq
    | panic ch => exact hq
    | outgrown => exact hq
  · have : k = l.length := by omega
    subst this
    refine (done s (by simp) hok).mono ?_
    intro e σ' hq
    cases e with
    | normal => exact hq.elim
    | exit id => exact hq
    | goto l => exact hq
    | ret => exact hq
    | panic ch => exact hq
    | outgrown => exact hq

theorem Cell.reps_get {M : Mem} {ν : Nu} : ∀ {cs : List Cell} {vs : List Value} {j : Nat} {c : Cell}, Cell.reps M ν cs vs → cs[j]? = some c → ∃ v, Cell.rep M ν c v
  | [], _, j, c, _, h => by simp at h
  | d :: cs, vs, 0, c, h, e => by
    simp only [Cell.reps] at h
    obtain ⟨v, vs', _, h1, _⟩ := h
    simp at e; subst e
    exact ⟨v, h1⟩
  | d :: cs, vs, j + 1, c, h, e => by
    simp only [Cell.reps] at h
    obtain ⟨v, vs', _, _, h2⟩ := h
    exact Cell.reps_get h2 (by simpa using e)
/-- a slice in a box is no longer than an int can tell -/
theorem AWP.lenB {c : Code} {env : Env} {B : Bx} (k j : Nat) {cs : List Cell} {sz : Nat} {rows : List (List C)} (hb : B.lookup k = some (.cells cs)) (hj : cs[j]? = some (.dat (.sl sz rows)))
    (h : rows.length ≤ 9223372036854775807 → AWP P n c ⟨env, B⟩ Q) : AWP P n c ⟨env, B⟩ Q := by
  intro κ M0 a w s
  refine h ?_ κ M0 a w s
  obtain ⟨M, ν, _, _, _, _, h5, _⟩ := s
  have := h5.res k _ (lookup_box hb)
  obtain ⟨b, c, et, _, _, hr⟩ := this
  obtain ⟨v, hv⟩ := Cell.reps_get hr hj
  simp only [Cell.rep, C.rep] at hv
  obtain ⟨_, cap, _, _, h1, h2, _⟩ := hv
  unfold maxLen at h2
  omega
end Go.Sx
set_option linter.unusedSimpArgs false
set_option linter.unusedVariables false
set_option maxRecDepth 20000
set_option maxHeartbeats 1000000
namespace Go.Proofs.Ytmpfdejckbceiaa
open Go Go.Sx
open Nat renaming reduceBEq → zA, reduceBNe → zB, reduceAdd → zC, reduceSub → zD, reduceMul → zE, reduceLeDiff → zF, reduceLT → zG, reduceEqDiff → zH
open Int renaming reduceToNat → zI, reduceLE → zJ, reduceLT → zK, reduceEq → zL
/-- names -/
def uppB (b : UInt8) : Bool := decide ((65 : Int) ≤ (b.toNat : Int)) && decide ((b.toNat : Int) ≤ 90)
theorem refUpper_c (b : UInt8) : PC Try.prog 130 [I .u8 b.toNat] (Bo (uppB b)) := by
  refine PCB.of_body Try.func130 rfl (by decide) Try.ntmps130 Try.results130 rfl rfl rfl ?_ rfl rfl
  repeat' (first
    | (simp only [go_sem, zA, zB, zC, zD, zE, zF, zG, reduceCtorEq, zH, zI, zJ, zK, zL]; all_goals fail_if_success guard_target =ₛ False)
    | (with_reducible first
      | refine seqVC_stepN rfl fun K hK => ?_
      | refine seqVC_stepG rfl (by with_unfolding_all rfl) fun K hK => ?_
      | refine seqVC_nil ?_
      | (refine hK _ _ _ ?_; clear hK K)
      | (refine hK _ _ ?_; clear hK K)
      | (refine hK _ ?_; clear hK K)
      | refine AWP.seq fun K hK => ?_
      | refine AWP.seqR (by kernel_rfl) fun K hK => ?_
      | (refine AWP.cond (by with_unfolding_all rfl) (fun h => ?_) (fun h => ?_); all_goals (try simp only [Bool.not_eq_true', Bool.not_eq_false'] at h); (all_goals try first | (exact absurd h Bool.false_ne_true) | (exact absurd h.symm Bool.false_ne_true) | (exact absurd h (by decide))))
      | refine AWP.skip ?_
      | refine AWP.ret ?_
      | refine AWP.block ?_
      | refine AWP.exit ?_
      | (refine ⟨fun h => ?_, fun h => ?_⟩ <;> (try simp only [Bool.not_eq_true', Bool.not_eq_false'] at h) <;> try simp only [h])
      | refine Or.inl ?_)
    | (clear hK K))
  all_goals (refine fin0 ?_; simp only [uppB, h, Bool.true_and, Bool.false_and])
theorem isUpper_c (b : UInt8) : PC Try.prog 141 [I .u8 b.toNat] (Bo (uppB b)) := by
  refine PCB.of_body Try.func141 rfl (by decide) Try.ntmps141 Try.results141 rfl rfl rfl ?_ rfl rfl
  repeat' (first
    | (simp only [go_sem, zA, zB, zC, zD, zE, zF, zG, reduceCtorEq, zH, zI, zJ, zK, zL]; all_goals fail_if_success guard_target =ₛ False)
    | (with_reducible first
      | refine seqVC_stepN rfl fun K hK => ?_
      | refine seqVC_stepG rfl (by with_unfolding_all rfl) fun K hK => ?_
      | refine seqVC_nil ?_
      | (refine hK _ _ _ ?_; clear hK K)
      | (refine hK _ _ ?_; clear hK K)
      | (refine hK _ ?_; clear hK K)
      | refine AWP.seq fun K hK => ?_
      | refine AWP.seqR (by kernel_rfl) fun K hK => ?_
      | (refine AWP.cond (by with_unfolding_all rfl) (fun h => ?_) (fun h => ?_); all_goals (try simp only [Bool.not_eq_true', Bool.not_eq_false'] at h); (all_goals try first | (exact absurd h Bool.false_ne_true) | (exact absurd h.symm Bool.false_ne_true) | (exact absurd h (by decide))))
      | refine AWP.skip ?_
      | refine AWP.ret ?_
      | refine AWP.block ?_
      | refine AWP.exit ?_
      | (refine ⟨fun h => ?_, fun h => ?_⟩ <;> (try simp only [Bool.not_eq_true', Bool.not_eq_false'] at h) <;> try simp only [h])
      | refine Or.inl ?_)
    | (clear hK K))
  all_goals (refine fin0 ?_; simp only [uppB, h, Bool.true_and, Bool.false_and])
theorem isLower_c (b : UInt8) : PC Try.prog 114 [I .u8 b.toNat] (Bo (lowB b)) := by
  refine PCB.of_body Try.func114 rfl (by decide) Try.ntmps114 Try.results114 rfl rfl rfl ?_ rfl rfl
  repeat' (first
    | (simp only [go_sem, zA, zB, zC, zD, zE, zF, zG, reduceCtorEq, zH, zI, zJ, zK, zL]; all_goals fail_if_success guard_target =ₛ False)
    | (with_reducible first
      | refine seqVC_stepN rfl fun K hK => ?_
      | refine seqVC_stepG rfl (by with_unfolding_all rfl) fun K hK => ?_
      | refine seqVC_nil ?_
      | (refine hK _ _ _ ?_; clear hK K)
      | (refine hK _ _ ?_; clear hK K)
      | (refine hK _ ?_; clear hK K)
      | refine AWP.seq fun K hK => ?_
      | refine AWP.seqR (by kernel_rfl) fun K hK => ?_
      | (refine AWP.cond (by with_unfolding_all rfl) (fun h => ?_) (fun h => ?_); all_goals (try simp only [Bool.not_eq_true', Bool.not_eq_false'] at h); (all_goals try first | (exact absurd h Bool.false_ne_true) | (exact absurd h.symm Bool.false_ne_true) | (exact absurd h (by decide))))
      | refine AWP.skip ?_
      | refine AWP.ret ?_
      | refine AWP.block ?_
      | refine AWP.exit ?_
      | (refine ⟨fun h => ?_, fun h => ?_⟩ <;> (try simp only [Bool.not_eq_true', Bool.not_eq_false'] at h) <;> try simp only [h])
      | refine Or.inl ?_)
    | (clear hK K))
  all_goals (refine fin0 ?_; simp only [lowB, h, Bool.true_and, Bool.false_and])
theorem isDigit_c (b : UInt8) : PC Try.prog 116 [I .u8 b.toNat] (Bo (digB b)) := by
  refine PCB.of_body Try.func116 rfl (by decide) Try.ntmps116 Try.results116 rfl rfl rfl ?_ rfl rfl
  repeat' (first
    | (simp only [go_sem, zA, zB, zC, zD, zE, zF, zG, reduceCtorEq, zH, zI, zJ, zK, zL]; all_goals fail_if_success guard_target =ₛ False)
    | (with_reducible first
      | refine seqVC_stepN rfl fun K hK => ?_
      | refine seqVC_stepG rfl (by with_unfolding_all rfl) fun K hK => ?_
      | refine seqVC_nil ?_
      | (refine hK _ _ _ ?_; clear hK K)
      | (refine hK _ _ ?_; clear hK K)
      | (refine hK _ ?_; clear hK K)
      | refine AWP.seq fun K hK => ?_
      | refine AWP.seqR (by kernel_rfl) fun K hK => ?_
      | (refine AWP.cond (by with_unfolding_all rfl) (fun h => ?_) (fun h => ?_); all_goals (try simp only [Bool.not_eq_true', Bool.not_eq_false'] at h); (all_goals try first | (exact absurd h Bool.false_ne_true) | (exact absurd h.symm Bool.false_ne_true) | (exact absurd h (by decide))))
      | refine AWP.skip ?_
      | refine AWP.ret ?_
      | refine AWP.block ?_
      | refine AWP.exit ?_
      | (refine ⟨fun h => ?_, fun h => ?_⟩ <;> (try simp only [Bool.not_eq_true', Bool.not_eq_false'] at h) <;> try simp only [h])
      | refine Or.inl ?_)
    | (clear hK K))
  all_goals (refine fin0 ?_; simp only [digB, h, Bool.true_and, Bool.false_and])
theorem atomTail_c (b : UInt8) : PC Try.prog 115 [I .u8 b.toNat] (Bo (tailB b)) := by
  refine PCB.of_body Try.func115 rfl (by decide) Try.ntmps115 Try.results115 rfl rfl rfl ?_ rfl rfl
  repeat' (first
    | (simp only [go_sem, zA, zB, zC, zD, zE, zF, zG, reduceCtorEq, zH, zI, zJ, zK, zL]; all_goals fail_if_success guard_target =ₛ False)
    | (with_reducible first
      | refine seqVC_stepN rfl fun K hK => ?_
      | refine seqVC_stepG rfl (by with_unfolding_all rfl) fun K hK => ?_
      | refine seqVC_nil ?_
      | (refine hK _ _ _ ?_; clear hK K)
      | (refine hK _ _ ?_; clear hK K)
      | (refine hK _ ?_; clear hK K)
      | refine AWP.seq fun K hK => ?_
      | refine AWP.seqR (by kernel_rfl) fun K hK => ?_
      | (refine AWP.cond (by with_unfolding_all rfl) (fun h => ?_) (fun h => ?_); all_goals (try simp only [Bool.not_eq_true', Bool.not_eq_false'] at h); (all_goals try first | (exact absurd h Bool.false_ne_true) | (exact absurd h.symm Bool.false_ne_true) | (exact absurd h (by decide))))
      | refine AWP.skip ?_
      | refine AWP.ret ?_
      | refine AWP.block ?_
      | refine AWP.exit ?_
      | (refine ⟨fun h => ?_, fun h => ?_⟩ <;> (try simp only [Bool.not_eq_true', Bool.not_eq_false'] at h) <;> try simp only [h])
      | refine ⟨_, isLower_c _, ?_⟩
      | refine ⟨_, isDigit_c _, ?_⟩
      | refine Or.inl ?_)
    | (clear hK K))
  all_goals (refine fin0 ?_; simp only [tailB, *, Bool.true_or, Bool.false_or])
def vtailB (b : UInt8) : Bool := lowB b || (uppB b || (digB b || decide ((b.toNat : Int) = 95)))
theorem varTail_c (b : UInt8) : PC Try.prog 142 [I .u8 b.toNat] (Bo (vtailB b)) := by
  refine PCB.of_body Try.func142 rfl (by decide) Try.ntmps142 Try.results142 rfl rfl rfl ?_ rfl rfl
  repeat' (first
    | (simp only [go_sem, zA, zB, zC, zD, zE, zF, zG, reduceCtorEq, zH, zI, zJ, zK, zL]; all_goals fail_if_success guard_target =ₛ False)
    | (with_reducible first
      | refine seqVC_stepN rfl fun K hK => ?_
      | refine seqVC_stepG rfl (by with_unfolding_all rfl) fun K hK => ?_
      | refine seqVC_nil ?_
      | (refine hK _ _ _ ?_; clear hK K)
      | (refine hK _ _ ?_; clear hK K)
      | (refine hK _ ?_; clear hK K)
      | refine AWP.seq fun K hK => ?_
      | refine AWP.seqR (by kernel_rfl) fun K hK => ?_
      | (refine AWP.cond (by with_unfolding_all rfl) (fun h => ?_) (fun h => ?_); all_goals (try simp only [Bool.not_eq_true', Bool.not_eq_false'] at h); (all_goals try first | (exact absurd h Bool.false_ne_true) | (exact absurd h.symm Bool.false_ne_true) | (exact absurd h (by decide))))
      | refine AWP.skip ?_
      | refine AWP.ret ?_
      | refine AWP.block ?_
      | refine AWP.exit ?_
      | (refine ⟨fun h => ?_, fun h => ?_⟩ <;> (try simp only [Bool.not_eq_true', Bool.not_eq_false'] at h) <;> try simp only [h])
      | refine ⟨_, isLower_c _, ?_⟩
      | refine ⟨_, isDigit_c _, ?_⟩
      | refine ⟨_, isUpper_c _, ?_⟩
      | refine Or.inl ?_)
    | (clear hK K))
  all_goals (refine fin0 ?_; simp only [vtailB, *, Bool.true_or, Bool.false_or])
def nameB (p q : UInt8 → Bool) (s : List UInt8) : Bool := !(decide ((s.length : Int) < 1) || (decide ((16 : Int) < (s.length : Int)) || !p (s.headD 0))) && (s.drop 1).all q
theorem isName_c (s : List UInt8) (g h : FuncId) (p q : UInt8 → Bool) (hg : ∀ b : UInt8, PC Try.prog g [I .u8 b.toNat] (Bo (p b))) (hh : ∀ b : UInt8, PC Try.prog h [I .u8 b.toNat] (Bo (q b))) :
    PC Try.prog 113 [S s, .one (.dat (.fn g)), .one (.dat (.fn h))] (Bo (nameB p q s)) := by
  refine PCB.of_body Try.func113 rfl (by decide) Try.ntmps113 Try.results113 rfl rfl rfl ?_ rfl rfl
  cases hl1 : decide ((s.length : Int) < 1) with
  | true =>
    repeat' (first
      | (simp only [go_sem, zA, zB, zC, zD, zE, zF, zG, reduceCtorEq, zH, zI, zJ, zK, zL, hl1]; all_goals fail_if_success guard_target =ₛ False)
      | (with_reducible first
        | refine seqVC_stepN rfl fun K hK => ?_
        | refine seqVC_stepG rfl (by with_unfolding_all rfl) fun K hK => ?_
        | refine seqVC_nil ?_
        | (refine hK _ _ _ ?_; clear hK K)
        | (refine hK _ _ ?_; clear hK K)
        | (refine hK _ ?_; clear hK K)
        | refine AWP.seq fun K hK => ?_
        | refine AWP.seqR (by kernel_rfl) fun K hK => ?_
        | (refine AWP.cond (by with_unfolding_all rfl) (fun h => ?_) (fun h => ?_); all_goals (try simp only [Bool.not_eq_true', Bool.not_eq_false'] at h); (all_goals try first | (exact absurd h Bool.false_ne_true) | (exact absurd h.symm Bool.false_ne_true) | (exact absurd h (by decide))))
        | refine AWP.skip ?_
        | refine AWP.ret ?_
        | refine AWP.block ?_
        | refine AWP.exit ?_
        | (refine ⟨fun h => ?_, fun h => ?_⟩ <;> (try simp only [Bool.not_eq_true', Bool.not_eq_false'] at h) <;> try simp only [h])
        | refine Or.inl ?_)
      | (clear hK K))
    all_goals (first | exact fun _ h => (by cases h) | refine fin0 ?_)
    all_goals simp only [nameB, hl1, Bool.true_or, Bool.not_true, Bool.false_and]
  | false =>
    have hpos : 0 < s.length := by simp only [decide_eq_false_iff_not] at hl1; omega
    obtain ⟨b, hb0⟩ : ∃ b, s[0]? = some b := ⟨s[0], by simp [hpos]⟩
    have hhd : s.headD 0 = b := by cases s <;> simp at hb0 hpos ⊢; exact hb0
    cases hlong : decide ((16 : Int) < (s.length : Int)) with
    | true =>
      repeat' (first
        | (simp only [go_sem, zA, zB, zC, zD, zE, zF, zG, reduceCtorEq, zH, zI, zJ, zK, zL, hl1, hlong]; all_goals fail_if_success guard_target =ₛ False)
        | (with_reducible first
          | refine seqVC_stepN rfl fun K hK => ?_
          | refine seqVC_stepG rfl (by with_unfolding_all rfl) fun K hK => ?_
          | refine seqVC_nil ?_
          | (refine hK _ _ _ ?_; clear hK K)
          | (refine hK _ _ ?_; clear hK K)
          | (refine hK _ ?_; clear hK K)
          | refine AWP.seq fun K hK => ?_
          | refine AWP.seqR (by kernel_rfl) fun K hK => ?_
          | (refine AWP.cond (by with_unfolding_all rfl) (fun h => ?_) (fun h => ?_); all_goals (try simp only [Bool.not_eq_true', Bool.not_eq_false'] at h); (all_goals try first | (exact absurd h Bool.false_ne_true) | (exact absurd h.symm Bool.false_ne_true) | (exact absurd h (by decide))))
          | refine AWP.skip ?_
          | refine AWP.ret ?_
          | refine AWP.block ?_
          | refine AWP.exit ?_
          | (refine ⟨fun h => ?_, fun h => ?_⟩ <;> (try simp only [Bool.not_eq_true', Bool.not_eq_false'] at h) <;> try simp only [h])
          | refine Or.inl ?_)
        | (clear hK K))
      all_goals (first | exact fun _ h => (by cases h) | refine fin0 ?_)
      all_goals simp only [nameB, hlong, Bool.true_or, Bool.or_true, Bool.not_true, Bool.false_and]
    | false =>
      have hlen : s.length ≤ 9223372036854775807 := by simp only [decide_eq_false_iff_not] at hlong; omega
      cases hlow : p b with
      | false =>
        repeat' (first
          | (simp only [go_sem, zA, zB, zC, zD, zE, zF, zG, reduceCtorEq, zH, zI, zJ, zK, zL, hl1, hlong, hlow]; all_goals fail_if_success guard_target =ₛ False)
          | (with_reducible first
            | refine seqVC_stepN rfl fun K hK => ?_
            | refine seqVC_stepG rfl (by with_unfolding_all rfl) fun K hK => ?_
            | refine seqVC_nil ?_
            | (refine hK _ _ _ ?_; clear hK K)
            | (refine hK _ _ ?_; clear hK K)
            | (refine hK _ ?_; clear hK K)
            | refine AWP.seq fun K hK => ?_
            | refine AWP.seqR (by kernel_rfl) fun K hK => ?_
            | (refine AWP.cond (by with_unfolding_all rfl) (fun h => ?_) (fun h => ?_); all_goals (try simp only [Bool.not_eq_true', Bool.not_eq_false'] at h); (all_goals try first | (exact absurd h Bool.false_ne_true) | (exact absurd h.symm Bool.false_ne_true) | (exact absurd h (by decide))))
            | refine AWP.skip ?_
            | refine AWP.ret ?_
            | refine AWP.block ?_
            | refine AWP.exit ?_
            | (refine ⟨fun h => ?_, fun h => ?_⟩ <;> (try simp only [Bool.not_eq_true', Bool.not_eq_false'] at h) <;> try simp only [h])
            | refine ⟨_, hg b, ?_⟩
            | refine ⟨by omega, b, hb0, ?_⟩
            | refine ⟨b, hb0, ?_⟩
            | refine Or.inl ?_)
          | (clear hK K))
        all_goals (first | exact fun _ h => (by cases h) | refine fin0 ?_)
        all_goals simp only [nameB, hl1, hlong, hhd, hlow, Bool.false_or, Bool.not_false, Bool.not_true, Bool.false_and]
      | true =>
        have hmod : nameB p q s = (s.drop 1).all q := by simp only [nameB, hl1, hlong, hhd, hlow, Bool.not_true, Bool.false_or, Bool.not_false, Bool.true_and]
        repeat' (first
          | (simp only [go_sem, zA, zB, zC, zD, zE, zF, zG, reduceCtorEq, zH, zI, zJ, zK, zL, hl1, hlong, hlow]; all_goals fail_if_success guard_target =ₛ False)
          | (with_reducible first
            | refine seqVC_stepN rfl fun K hK => ?_
            | refine seqVC_stepG rfl (by with_unfolding_all rfl) fun K hK => ?_
            | refine seqVC_nil ?_
            | (refine hK _ _ _ ?_; clear hK K)
            | (refine hK _ _ ?_; clear hK K)
            | (refine hK _ ?_; clear hK K)
            | refine AWP.seq fun K hK => ?_
            | refine AWP.seqR (by kernel_rfl) fun K hK => ?_
            | (refine AWP.cond (by with_unfolding_all rfl) (fun h => ?_) (fun h => ?_); all_goals (try simp only [Bool.not_eq_true', Bool.not_eq_false'] at h); (all_goals try first | (exact absurd h Bool.false_ne_true) | (exact absurd h.symm Bool.false_ne_true) | (exact absurd h (by decide))))
            | refine AWP.skip ?_
            | refine AWP.ret ?_
            | refine AWP.block ?_
            | refine AWP.exit ?_
            | (refine ⟨fun h => ?_, fun h => ?_⟩ <;> (try simp only [Bool.not_eq_true', Bool.not_eq_false'] at h) <;> try simp only [h])
            | refine ⟨_, hg b, ?_⟩
            | refine ⟨by omega, b, hb0, ?_⟩
            | refine ⟨b, hb0, ?_⟩
            | refine Or.inl ?_)
          | (clear hK K))
        refine AWP.loopF (X := Nat) (fun k => [(7, I .i64 k)]) (fun k => []) [0, 2] [] (fun k => 1 ≤ k ∧ k ≤ s.length ∧ (s.drop 1).all q = (s.drop k).all q) (fun k => s.length - k) (1) (by simp only [go_sem, zA, zB, zC, zD, zE, zF, zG, reduceCtorEq, zH, zI, zJ, zK, zL]; exact Gh.to [] (by repeat (first | exact trivial | refine ⟨rfl, ?_⟩ | refine ⟨by (simp only [go_sem, zA, zB, zC, zD, zE, zF, zG, reduceCtorEq, zH, zI, zJ, zK, zL, List.length_append, List.length_map, List.length_cons, List.length_nil, Nat.zero_add]) <;> rfl, ?_⟩)) (by repeat (first | exact trivial | refine ⟨rfl, ?_⟩ | refine ⟨by (simp only [go_sem, zA, zB, zC, zD, zE, zF, zG, reduceCtorEq, zH, zI, zJ, zK, zL, List.length_append, List.length_map, List.length_cons, List.length_nil, Nat.zero_add]) <;> rfl, ?_⟩)) rfl rfl rfl) ?_ ?_
        · exact ⟨Nat.le_refl _, by omega, rfl⟩
        rintro k ⟨hk1, hk, hp⟩
        simp only [go_sem, zA, zB, zC, zD, zE, zF, zG, reduceCtorEq, zH, zI, zJ, zK, zL]
        by_cases hlt : k < s.length
        · have hdrop := List.drop_eq_getElem_cons hlt
          have hd : s[k]? = some s[k] := List.getElem?_eq_getElem hlt
          have hbt : decide ((k : Int) < (s.length : Int)) = true := by simpa using hlt
          generalize s[k] = d at hd hdrop
          rw [hdrop, List.all_cons] at hp
          cases hq : q d
          all_goals simp only [hq, Bool.true_and, Bool.false_and] at hp
          repeat' (first
            | (simp only [go_sem, zA, zB, zC, zD, zE, zF, zG, reduceCtorEq, zH, zI, zJ, zK, zL, hbt, hq]; all_goals fail_if_success guard_target =ₛ False)
            | (with_reducible first
              | refine seqVC_stepN rfl fun K hK => ?_
              | refine seqVC_stepG rfl (by with_unfolding_all rfl) fun K hK => ?_
              | refine seqVC_nil ?_
              | (refine hK _ _ _ ?_; clear hK K)
              | (refine hK _ _ ?_; clear hK K)
              | (refine hK _ ?_; clear hK K)
              | refine AWP.seq fun K hK => ?_
              | refine AWP.seqR (by kernel_rfl) fun K hK => ?_
              | (refine AWP.cond (by with_unfolding_all rfl) (fun h => ?_) (fun h => ?_); all_goals (try simp only [Bool.not_eq_true', Bool.not_eq_false'] at h); (all_goals try first | (exact absurd h Bool.false_ne_true) | (exact absurd h.symm Bool.false_ne_true) | (exact absurd h (by decide))))
              | refine AWP.skip ?_
              | refine AWP.ret ?_
              | refine AWP.block ?_
              | refine AWP.exit ?_
              | (refine ⟨fun h => ?_, fun h => ?_⟩ <;> (try simp only [Bool.not_eq_true', Bool.not_eq_false'] at h) <;> try simp only [h])
              | refine ⟨_, hh d, ?_⟩
              | refine ⟨by omega, d, hd, ?_⟩
              | refine ⟨d, hd, ?_⟩
              | refine Or.inl ?_)
            | (clear hK K))
          all_goals first
            | (refine fin0 ?_; rw [hmod, hp])
            | (rw [wrap_succ hlt hlen]; refine ⟨k + 1, by omega, ⟨by omega, by omega, hp⟩, Gh.to [] (by repeat (first | exact trivial | refine ⟨rfl, ?_⟩ | refine ⟨by (simp only [go_sem, zA, zB, zC, zD, zE, zF, zG, reduceCtorEq, zH, zI, zJ, zK, zL, List.length_append, List.length_map, List.length_cons, List.length_nil, Nat.zero_add]) <;> rfl, ?_⟩)) (by repeat (first | exact trivial | refine ⟨rfl, ?_⟩ | refine ⟨by (simp only [go_sem, zA, zB, zC, zD, zE, zF, zG, reduceCtorEq, zH, zI, zJ, zK, zL, List.length_append, List.length_map, List.length_cons, List.length_nil, Nat.zero_add]) <;> rfl, ?_⟩)) rfl rfl rfl⟩)
        · have hbt : decide ((k : Int) < (s.length : Int)) = false := by simpa using hlt
          rw [show s.drop k = [] from List.drop_eq_nil_of_le (by omega)] at hp
          repeat' (first
            | (simp only [go_sem, zA, zB, zC, zD, zE, zF, zG, reduceCtorEq, zH, zI, zJ, zK, zL, hbt]; all_goals fail_if_success guard_target =ₛ False)
            | (with_reducible first
              | refine seqVC_stepN rfl fun K hK => ?_
              | refine seqVC_stepG rfl (by with_unfolding_all rfl) fun K hK => ?_
              | refine seqVC_nil ?_
              | (refine hK _ _ _ ?_; clear hK K)
              | (refine hK _ _ ?_; clear hK K)
              | (refine hK _ ?_; clear hK K)
              | refine AWP.seq fun K hK => ?_
              | refine AWP.seqR (by kernel_rfl) fun K hK => ?_
              | (refine AWP.cond (by with_unfolding_all rfl) (fun h => ?_) (fun h => ?_); all_goals (try simp only [Bool.not_eq_true', Bool.not_eq_false'] at h); (all_goals try first | (exact absurd h Bool.false_ne_true) | (exact absurd h.symm Bool.false_ne_true) | (exact absurd h (by decide))))
              | refine AWP.skip ?_
              | refine AWP.ret ?_
              | refine AWP.block ?_
              | refine AWP.exit ?_
              | (refine ⟨fun h => ?_, fun h => ?_⟩ <;> (try simp only [Bool.not_eq_true', Bool.not_eq_false'] at h) <;> try simp only [h])
              | refine Or.inl ?_)
            | (clear hK K))
          all_goals (refine fin0 ?_; rw [hmod, hp]; rfl)
theorem identIsAtom_c (s : List UInt8) : PC Try.prog 86 [S s] (Bo (isAtomB s)) := by
  have h := isName_c s 114 115 lowB tailB isLower_c atomTail_c
  refine PCB.of_body Try.func86 rfl (by decide) Try.ntmps86 Try.results86 rfl rfl rfl ?_ rfl rfl
  repeat' (first
    | (simp only [go_sem, zA, zB, zC, zD, zE, zF, zG, reduceCtorEq, zH, zI, zJ, zK, zL]; all_goals fail_if_success guard_target =ₛ False)
    | (with_reducible first
      | refine seqVC_stepN rfl fun K hK => ?_
      | refine seqVC_nil ?_
      | (refine hK _ _ _ ?_; clear hK K)
      | (refine hK _ _ ?_; clear hK K)
      | (refine hK _ ?_; clear hK K)
      | refine AWP.seq fun K hK => ?_
      | refine AWP.seqR (by kernel_rfl) fun K hK => ?_
      | (refine AWP.cond (by with_unfolding_all rfl) (fun h => ?_) (fun h => ?_); all_goals (try simp only [Bool.not_eq_true', Bool.not_eq_false'] at h); (all_goals try first | (exact absurd h Bool.false_ne_true) | (exact absurd h.symm Bool.false_ne_true) | (exact absurd h (by decide))))
      | refine AWP.skip ?_
      | refine AWP.ret ?_
      | refine AWP.block ?_
      | refine AWP.exit ?_
      | refine ⟨_, h, ?_⟩
      | refine Or.inl ?_)
    | (clear hK K))
  all_goals (first | exact fun _ h => (by cases h) | refine fin0 ?_)
  all_goals rfl
def isVarB (s : List UInt8) : Bool := nameB uppB vtailB s
theorem identIsVariable_c (s : List UInt8) : PC Try.prog 137 [S s] (Bo (isVarB s)) := by
  have h := isName_c s 141 142 uppB vtailB isUpper_c varTail_c
  refine PCB.of_body Try.func137 rfl (by decide) Try.ntmps137 Try.results137 rfl rfl rfl ?_ rfl rfl
  repeat' (first
    | (simp only [go_sem, zA, zB, zC, zD, zE, zF, zG, reduceCtorEq, zH, zI, zJ, zK, zL]; all_goals fail_if_success guard_target =ₛ False)
    | (with_reducible first
      | refine seqVC_stepN rfl fun K hK => ?_
      | refine seqVC_nil ?_
      | (refine hK _ _ _ ?_; clear hK K)
      | (refine hK _ _ ?_; clear hK K)
      | (refine hK _ ?_; clear hK K)
      | refine AWP.seq fun K hK => ?_
      | refine AWP.seqR (by kernel_rfl) fun K hK => ?_
      | (refine AWP.cond (by with_unfolding_all rfl) (fun h => ?_) (fun h => ?_); all_goals (try simp only [Bool.not_eq_true', Bool.not_eq_false'] at h); (all_goals try first | (exact absurd h Bool.false_ne_true) | (exact absurd h.symm Bool.false_ne_true) | (exact absurd h (by decide))))
      | refine AWP.skip ?_
      | refine AWP.ret ?_
      | refine AWP.block ?_
      | refine AWP.exit ?_
      | refine ⟨_, h, ?_⟩
      | refine Or.inl ?_)
    | (clear hK K))
  all_goals (first | exact fun _ h => (by cases h) | refine fin0 ?_)
  all_goals rfl
theorem identValidKey_c (k : KeyD) : PC Try.prog 55 [.st (encKey k)] (Bo (validKeyB k)) := by
  refine PCB.of_body Try.func55 rfl (by decide) Try.ntmps55 Try.results55 rfl rfl rfl ?_ rfl rfl
  cases h0 : decide (k.kind = 0) <;> cases h1 : decide (k.kind = 1)
  · 
    repeat' (first
      | (simp only [go_sem, zA, zB, zC, zD, zE, zF, zG, reduceCtorEq, zH, zI, zJ, zK, zL, encKey, h0, h1]; all_goals fail_if_success guard_target =ₛ False)
      | (with_reducible first
        | refine seqVC_stepN rfl fun K hK => ?_
        | refine seqVC_nil ?_
        | (refine hK _ _ _ ?_; clear hK K)
        | (refine hK _ _ ?_; clear hK K)
        | (refine hK _ ?_; clear hK K)
        | refine AWP.seq fun K hK => ?_
        | refine AWP.seqR (by kernel_rfl) fun K hK => ?_
        | (refine AWP.cond (by with_unfolding_all rfl) (fun h => ?_) (fun h => ?_); all_goals (try simp only [Bool.not_eq_true', Bool.not_eq_false'] at h); (all_goals try first | (exact absurd h Bool.false_ne_true) | (exact absurd h.symm Bool.false_ne_true) | (exact absurd h (by decide))))
        | refine AWP.skip ?_
        | refine AWP.ret ?_
        | refine AWP.block ?_
        | refine AWP.exit ?_
        | refine ⟨_, identIsAtom_c _, ?_⟩
        | refine Or.inl ?_)
      | (clear hK K))
    all_goals (refine fin0 ?_; simp only [validKeyB, h0, h1, Bool.true_and, Bool.false_and, Bool.or_false, Bool.false_or])
  · 
    repeat' (first
      | (simp only [go_sem, zA, zB, zC, zD, zE, zF, zG, reduceCtorEq, zH, zI, zJ, zK, zL, encKey, h0, h1]; all_goals fail_if_success guard_target =ₛ False)
      | (with_reducible first
        | refine seqVC_stepN rfl fun K hK => ?_
        | refine seqVC_nil ?_
        | (refine hK _ _ _ ?_; clear hK K)
        | (refine hK _ _ ?_; clear hK K)
        | (refine hK _ ?_; clear hK K)
        | refine AWP.seq fun K hK => ?_
        | refine AWP.seqR (by kernel_rfl) fun K hK => ?_
        | (refine AWP.cond (by with_unfolding_all rfl) (fun h => ?_) (fun h => ?_); all_goals (try simp only [Bool.not_eq_true', Bool.not_eq_false'] at h); (all_goals try first | (exact absurd h Bool.false_ne_true) | (exact absurd h.symm Bool.false_ne_true) | (exact absurd h (by decide))))
        | refine AWP.skip ?_
        | refine AWP.ret ?_
        | refine AWP.block ?_
        | refine AWP.exit ?_
        | refine ⟨_, identIsAtom_c _, ?_⟩
        | refine Or.inl ?_)
      | (clear hK K))
    all_goals (refine fin0 ?_; simp only [validKeyB, h0, h1, Bool.true_and, Bool.false_and, Bool.or_false, Bool.false_or])
  · 
    repeat' (first
      | (simp only [go_sem, zA, zB, zC, zD, zE, zF, zG, reduceCtorEq, zH, zI, zJ, zK, zL, encKey, h0, h1]; all_goals fail_if_success guard_target =ₛ False)
      | (with_reducible first
        | refine seqVC_stepN rfl fun K hK => ?_
        | refine seqVC_nil ?_
        | (refine hK _ _ _ ?_; clear hK K)
        | (refine hK _ _ ?_; clear hK K)
        | (refine hK _ ?_; clear hK K)
        | refine AWP.seq fun K hK => ?_
        | refine AWP.seqR (by kernel_rfl) fun K hK => ?_
        | (refine AWP.cond (by with_unfolding_all rfl) (fun h => ?_) (fun h => ?_); all_goals (try simp only [Bool.not_eq_true', Bool.not_eq_false'] at h); (all_goals try first | (exact absurd h Bool.false_ne_true) | (exact absurd h.symm Bool.false_ne_true) | (exact absurd h (by decide))))
        | refine AWP.skip ?_
        | refine AWP.ret ?_
        | refine AWP.block ?_
        | refine AWP.exit ?_
        | refine ⟨_, identIsAtom_c _, ?_⟩
        | refine Or.inl ?_)
      | (clear hK K))
    all_goals (refine fin0 ?_; simp only [validKeyB, h0, h1, Bool.true_and, Bool.false_and, Bool.or_false, Bool.false_or])
  · exfalso
    simp only [decide_eq_true_eq] at h0 h1
    omega
theorem refIsVariable_c (s : List UInt8) : PC Try.prog 110 [S s] (Bo (isVarB s)) := by
  refine PCB.of_body Try.func110 rfl (by decide) Try.ntmps110 Try.results110 rfl rfl rfl ?_ rfl rfl
  cases hl1 : decide ((s.length : Int) < 1) with
  | true =>
    repeat' (first
      | (simp only [go_sem, zA, zB, zC, zD, zE, zF, zG, reduceCtorEq, zH, zI, zJ, zK, zL, hl1]; all_goals fail_if_success guard_target =ₛ False)
      | (with_reducible first
        | refine seqVC_stepN rfl fun K hK => ?_
        | refine seqVC_stepG rfl (by with_unfolding_all rfl) fun K hK => ?_
        | refine seqVC_nil ?_
        | (refine hK _ _ _ ?_; clear hK K)
        | (refine hK _ _ ?_; clear hK K)
        | (refine hK _ ?_; clear hK K)
        | refine AWP.seq fun K hK => ?_
        | refine AWP.seqR (by kernel_rfl) fun K hK => ?_
        | (refine AWP.cond (by with_unfolding_all rfl) (fun h => ?_) (fun h => ?_); all_goals (try simp only [Bool.not_eq_true', Bool.not_eq_false'] at h); (all_goals try first | (exact absurd h Bool.false_ne_true) | (exact absurd h.symm Bool.false_ne_true) | (exact absurd h (by decide))))
        | refine AWP.skip ?_
        | refine AWP.ret ?_
        | refine AWP.block ?_
        | refine AWP.exit ?_
        | (refine ⟨fun h => ?_, fun h => ?_⟩ <;> (try simp only [Bool.not_eq_true', Bool.not_eq_false'] at h) <;> try simp only [h])
        | refine Or.inl ?_)
      | (clear hK K))
    all_goals (first | exact fun _ h => (by cases h) | refine fin0 ?_)
    all_goals simp only [isVarB, nameB, hl1, Bool.true_or, Bool.not_true, Bool.false_and]
  | false =>
    have hpos : 0 < s.length := by simp only [decide_eq_false_iff_not] at hl1; omega
    obtain ⟨b, hb0⟩ : ∃ b, s[0]? = some b := ⟨s[0], by simp [hpos]⟩
    have hhd : s.headD 0 = b := by cases s <;> simp at hb0 hpos ⊢; exact hb0
    cases hlong : decide ((16 : Int) < (s.length : Int)) with
    | true =>
      repeat' (first
        | (simp only [go_sem, zA, zB, zC, zD, zE, zF, zG, reduceCtorEq, zH, zI, zJ, zK, zL, hl1, hlong]; all_goals fail_if_success guard_target =ₛ False)
        | (with_reducible first
          | refine seqVC_stepN rfl fun K hK => ?_
          | refine seqVC_stepG rfl (by with_unfolding_all rfl) fun K hK => ?_
          | refine seqVC_nil ?_
          | (refine hK _ _ _ ?_; clear hK K)
          | (refine hK _ _ ?_; clear hK K)
          | (refine hK _ ?_; clear hK K)
          | refine AWP.seq fun K hK => ?_
          | refine AWP.seqR (by kernel_rfl) fun K hK => ?_
          | (refine AWP.cond (by with_unfolding_all rfl) (fun h => ?_) (fun h => ?_); all_goals (try simp only [Bool.not_eq_true', Bool.not_eq_false'] at h); (all_goals try first | (exact absurd h Bool.false_ne_true) | (exact absurd h.symm Bool.false_ne_true) | (exact absurd h (by decide))))
          | refine AWP.skip ?_
          | refine AWP.ret ?_
          | refine AWP.block ?_
          | refine AWP.exit ?_
          | (refine ⟨fun h => ?_, fun h => ?_⟩ <;> (try simp only [Bool.not_eq_true', Bool.not_eq_false'] at h) <;> try simp only [h])
          | refine Or.inl ?_)
        | (clear hK K))
      all_goals (first | exact fun _ h => (by cases h) | refine fin0 ?_)
      all_goals simp only [isVarB, nameB, hlong, Bool.true_or, Bool.or_true, Bool.not_true, Bool.false_and]
    | false =>
      have hlen : s.length ≤ 9223372036854775807 := by simp only [decide_eq_false_iff_not] at hlong; omega
      cases hlow : uppB b with
      | false =>
        repeat' (first
          | (simp only [go_sem, zA, zB, zC, zD, zE, zF, zG, reduceCtorEq, zH, zI, zJ, zK, zL, hl1, hlong, hlow]; all_goals fail_if_success guard_target =ₛ False)
          | (with_reducible first
            | refine seqVC_stepN rfl fun K hK => ?_
            | refine seqVC_stepG rfl (by with_unfolding_all rfl) fun K hK => ?_
            | refine seqVC_nil ?_
            | (refine hK _ _ _ ?_; clear hK K)
            | (refine hK _ _ ?_; clear hK K)
            | (refine hK _ ?_; clear hK K)
            | refine AWP.seq fun K hK => ?_
            | refine AWP.seqR (by kernel_rfl) fun K hK => ?_
            | (refine AWP.cond (by with_unfolding_all rfl) (fun h => ?_) (fun h => ?_); all_goals (try simp only [Bool.not_eq_true', Bool.not_eq_false'] at h); (all_goals try first | (exact absurd h Bool.false_ne_true) | (exact absurd h.symm Bool.false_ne_true) | (exact absurd h (by decide))))
            | refine AWP.skip ?_
            | refine AWP.ret ?_
            | refine AWP.block ?_
            | refine AWP.exit ?_
            | (refine ⟨fun h => ?_, fun h => ?_⟩ <;> (try simp only [Bool.not_eq_true', Bool.not_eq_false'] at h) <;> try simp only [h])
            | refine ⟨_, refUpper_c b, ?_⟩
            | refine ⟨by omega, b, hb0, ?_⟩
            | refine ⟨b, hb0, ?_⟩
            | refine Or.inl ?_)
          | (clear hK K))
        all_goals (first | exact fun _ h => (by cases h) | refine fin0 ?_)
        all_goals simp only [isVarB, nameB, hl1, hlong, hhd, hlow, Bool.false_or, Bool.not_false, Bool.not_true, Bool.false_and]
      | true =>
        have hmod : isVarB s = (s.drop 1).all vtailB := by simp only [isVarB, nameB, hl1, hlong, hhd, hlow, Bool.not_true, Bool.false_or, Bool.not_false, Bool.true_and]
        repeat' (first
          | (simp only [go_sem, zA, zB, zC, zD, zE, zF, zG, reduceCtorEq, zH, zI, zJ, zK, zL, hl1, hlong, hlow]; all_goals fail_if_success guard_target =ₛ False)
          | (with_reducible first
            | refine seqVC_stepN rfl fun K hK => ?_
            | refine seqVC_stepG rfl (by with_unfolding_all rfl) fun K hK => ?_
            | refine seqVC_nil ?_
            | (refine hK _ _ _ ?_; clear hK K)
            | (refine hK _ _ ?_; clear hK K)
            | (refine hK _ ?_; clear hK K)
            | refine AWP.seq fun K hK => ?_
            | refine AWP.seqR (by kernel_rfl) fun K hK => ?_
            | (refine AWP.cond (by with_unfolding_all rfl) (fun h => ?_) (fun h => ?_); all_goals (try simp only [Bool.not_eq_true', Bool.not_eq_false'] at h); (all_goals try first | (exact absurd h Bool.false_ne_true) | (exact absurd h.symm Bool.false_ne_true) | (exact absurd h (by decide))))
            | refine AWP.skip ?_
            | refine AWP.ret ?_
            | refine AWP.block ?_
            | refine AWP.exit ?_
            | (refine ⟨fun h => ?_, fun h => ?_⟩ <;> (try simp only [Bool.not_eq_true', Bool.not_eq_false'] at h) <;> try simp only [h])
            | refine ⟨_, refUpper_c b, ?_⟩
            | refine ⟨by omega, b, hb0, ?_⟩
            | refine ⟨b, hb0, ?_⟩
            | refine Or.inl ?_)
          | (clear hK K))
        refine AWP.loopF (X := Nat) (fun k => [(3, I .i64 k)]) (fun k => []) [0] [] (fun k => 1 ≤ k ∧ k ≤ s.length ∧ (s.drop 1).all vtailB = (s.drop k).all vtailB) (fun k => s.length - k) (1) (by simp only [go_sem, zA, zB, zC, zD, zE, zF, zG, reduceCtorEq, zH, zI, zJ, zK, zL]; exact Gh.to [] (by repeat (first | exact trivial | refine ⟨rfl, ?_⟩ | refine ⟨by (simp only [go_sem, zA, zB, zC, zD, zE, zF, zG, reduceCtorEq, zH, zI, zJ, zK, zL, List.length_append, List.length_map, List.length_cons, List.length_nil, Nat.zero_add]) <;> rfl, ?_⟩)) (by repeat (first | exact trivial | refine ⟨rfl, ?_⟩ | refine ⟨by (simp only [go_sem, zA, zB, zC, zD, zE, zF, zG, reduceCtorEq, zH, zI, zJ, zK, zL, List.length_append, List.length_map, List.length_cons, List.length_nil, Nat.zero_add]) <;> rfl, ?_⟩)) rfl rfl rfl) ?_ ?_
        · exact ⟨Nat.le_refl _, by omega, rfl⟩
        rintro k ⟨hk1, hk, hp⟩
        simp only [go_sem, zA, zB, zC, zD, zE, zF, zG, reduceCtorEq, zH, zI, zJ, zK, zL]
        by_cases hlt : k < s.length
        · have hdrop := List.drop_eq_getElem_cons hlt
          have hd : s[k]? = some s[k] := List.getElem?_eq_getElem hlt
          have hbt : decide ((k : Int) < (s.length : Int)) = true := by simpa using hlt
          generalize s[k] = d at hd hdrop
          rw [hdrop, List.all_cons] at hp
          cases ht1 : lowB d <;> cases ht4 : uppB d <;> cases ht2 : digB d <;> cases ht3 : decide ((d.toNat : Int) = 95)
          all_goals simp only [vtailB, ht1, ht2, ht3, ht4, Bool.or_true, Bool.or_false, Bool.true_or, Bool.true_and, Bool.false_and] at hp
          repeat' (first
            | (simp only [go_sem, zA, zB, zC, zD, zE, zF, zG, reduceCtorEq, zH, zI, zJ, zK, zL, hbt, ht1, ht2, ht3, ht4]; all_goals fail_if_success guard_target =ₛ False)
            | (with_reducible first
              | refine seqVC_stepN rfl fun K hK => ?_
              | refine seqVC_stepG rfl (by with_unfolding_all rfl) fun K hK => ?_
              | refine seqVC_nil ?_
              | (refine hK _ _ _ ?_; clear hK K)
              | (refine hK _ _ ?_; clear hK K)
              | (refine hK _ ?_; clear hK K)
              | refine AWP.seq fun K hK => ?_
              | refine AWP.seqR (by kernel_rfl) fun K hK => ?_
              | (refine AWP.cond (by with_unfolding_all rfl) (fun h => ?_) (fun h => ?_); all_goals (try simp only [Bool.not_eq_true', Bool.not_eq_false'] at h); (all_goals try first | (exact absurd h Bool.false_ne_true) | (exact absurd h.symm Bool.false_ne_true) | (exact absurd h (by decide))))
              | refine AWP.skip ?_
              | refine AWP.ret ?_
              | refine AWP.block ?_
              | refine AWP.exit ?_
              | (refine ⟨fun h => ?_, fun h => ?_⟩ <;> (try simp only [Bool.not_eq_true', Bool.not_eq_false'] at h) <;> try simp only [h])
              | refine ⟨_, lower_c d, ?_⟩
              | refine ⟨_, digit_c d, ?_⟩
              | refine ⟨_, refUpper_c d, ?_⟩
              | refine ⟨by omega, d, hd, ?_⟩
              | refine ⟨d, hd, ?_⟩
              | refine Or.inl ?_)
            | (clear hK K))
          all_goals first
            | (refine fin0 ?_; rw [hmod, hp])
            | (rw [wrap_succ hlt hlen]; refine ⟨k + 1, by omega, ⟨by omega, by omega, hp⟩, Gh.to [] (by repeat (first | exact trivial | refine ⟨rfl, ?_⟩ | refine ⟨by (simp only [go_sem, zA, zB, zC, zD, zE, zF, zG, reduceCtorEq, zH, zI, zJ, zK, zL, List.length_append, List.length_map, List.length_cons, List.length_nil, Nat.zero_add]) <;> rfl, ?_⟩)) (by repeat (first | exact trivial | refine ⟨rfl, ?_⟩ | refine ⟨by (simp only [go_sem, zA, zB, zC, zD, zE, zF, zG, reduceCtorEq, zH, zI, zJ, zK, zL, List.length_append, List.length_map, List.length_cons, List.length_nil, Nat.zero_add]) <;> rfl, ?_⟩)) rfl rfl rfl⟩)
        · have hbt : decide ((k : Int) < (s.length : Int)) = false := by simpa using hlt
          rw [show s.drop k = [] from List.drop_eq_nil_of_le (by omega)] at hp
          repeat' (first
            | (simp only [go_sem, zA, zB, zC, zD, zE, zF, zG, reduceCtorEq, zH, zI, zJ, zK, zL, hbt]; all_goals fail_if_success guard_target =ₛ False)
            | (with_reducible first
              | refine seqVC_stepN rfl fun K hK => ?_
              | refine seqVC_stepG rfl (by with_unfolding_all rfl) fun K hK => ?_
              | refine seqVC_nil ?_
              | (refine hK _ _ _ ?_; clear hK K)
              | (refine hK _ _ ?_; clear hK K)
              | (refine hK _ ?_; clear hK K)
              | refine AWP.seq fun K hK => ?_
              | refine AWP.seqR (by kernel_rfl) fun K hK => ?_
              | (refine AWP.cond (by with_unfolding_all rfl) (fun h => ?_) (fun h => ?_); all_goals (try simp only [Bool.not_eq_true', Bool.not_eq_false'] at h); (all_goals try first | (exact absurd h Bool.false_ne_true) | (exact absurd h.symm Bool.false_ne_true) | (exact absurd h (by decide))))
              | refine AWP.skip ?_
              | refine AWP.ret ?_
              | refine AWP.block ?_
              | refine AWP.exit ?_
              | (refine ⟨fun h => ?_, fun h => ?_⟩ <;> (try simp only [Bool.not_eq_true', Bool.not_eq_false'] at h) <;> try simp only [h])
              | refine Or.inl ?_)
            | (clear hK K))
          all_goals (refine fin0 ?_; rw [hmod, hp]; rfl)
end Go.Proofs.Ytmpfdejckbceiaa
set_option linter.unusedSimpArgs false
set_option linter.unusedVariables false
set_option maxRecDepth 20000
set_option maxHeartbeats 1000000
namespace Go.Proofs.Ytmpfdejckbceiaa
open Go Go.Sx
open Nat renaming reduceBEq → zA, reduceBNe → zB, reduceAdd → zC, reduceSub → zD, reduceMul → zE, reduceLeDiff → zF, reduceLT → zG, reduceEqDiff → zH
open Int renaming reduceToNat → zI, reduceLE → zJ, reduceLT → zK, reduceEq → zL
structure PutA where
  keys : List KeyD
  kids : List Dat
  placed : Bool
def putStep (k : KeyD) (d : Dat) (a : PutA) (x : KeyD × Dat) : PutA :=
  let b : PutA := bif decide (keyCmp k x.1 ≤ 0) && !a.placed then ⟨a.keys ++ [k], a.kids ++ [d], true⟩ else a
  bif !decide (keyCmp k x.1 = 0) then ⟨b.keys ++ [x.1], b.kids ++ [x.2], b.placed⟩ else b
def putEnd (k : KeyD) (d : Dat) (a : PutA) : PutA := bif !a.placed then ⟨a.keys ++ [k], a.kids ++ [d], true⟩ else a
def mapDat (a : PutA) : Dat := { zeroDat with kind := 8, kids := a.kids, keys := a.keys }
def putBad (m : Dat) (k : KeyD) : Bool := !decide (m.kind = 8) || (!validKeyB k || !decide ((m.keys.length : Int) = (m.kids.length : Int)))
def putR (m : Dat) (k : KeyD) (d : Dat) : Dat × Bool := bif putBad m k then (zeroDat, false) else (mapDat (putEnd k d ((m.keys.zip m.kids).foldl (putStep k d) ⟨[], [], false⟩)), true)

theorem key_snoc (l : List KeyD) (x : KeyD) : l.map encKey ++ [encKey x] = (l ++ [x]).map encKey := by simp
theorem dat_snoc (l : List Dat) (x : Dat) : l.map encDat ++ [encDat x] = (l ++ [x]).map encDat := by simp

end Go.Proofs.Ytmpfdejckbceiaa
set_option linter.unusedSimpArgs false
set_option linter.unusedVariables false
set_option maxRecDepth 20000
set_option maxHeartbeats 1000000
namespace Go.Proofs.Ytmpfdejckbceiaa
open Go Go.Sx
open Nat renaming reduceBEq → zA, reduceBNe → zB, reduceAdd → zC, reduceSub → zD, reduceMul → zE, reduceLeDiff → zF, reduceLT → zG, reduceEqDiff → zH
open Int renaming reduceToNat → zI, reduceLE → zJ, reduceLT → zK, reduceEq → zL
def cmpI (a b : Int) : Int := bif decide (a < b) then -1 else bif decide (b < a) then 1 else 0
theorem isNaN_c (a : Int) : PC Try.prog 117 [I .i64 a] (Bo false) := by
  refine PCB.of_body Try.func117 rfl (by decide) Try.ntmps117 Try.results117 rfl rfl rfl ?_ rfl rfl
  repeat' (first
    | (simp only [go_sem, zA, zB, zC, zD, zE, zF, zG, reduceCtorEq, zH, zI, zJ, zK, zL, decide_true]; all_goals fail_if_success guard_target =ₛ False)
    | (with_reducible first
      | refine seqVC_stepN rfl fun K hK => ?_
      | refine seqVC_nil ?_
      | (refine hK _ _ _ ?_; clear hK K)
      | (refine hK _ _ ?_; clear hK K)
      | (refine hK _ ?_; clear hK K)
      | refine AWP.seq fun K hK => ?_
      | refine AWP.seqR (by kernel_rfl) fun K hK => ?_
      | (refine AWP.cond (by with_unfolding_all rfl) (fun h => ?_) (fun h => ?_); all_goals (try simp only [Bool.not_eq_true', Bool.not_eq_false'] at h); (all_goals try first | (exact absurd h Bool.false_ne_true) | (exact absurd h.symm Bool.false_ne_true) | (exact absurd h (by decide))))
      | refine AWP.skip ?_
      | refine AWP.ret ?_
      | refine AWP.block ?_
      | refine AWP.exit ?_
      | refine Or.inl ?_)
    | (clear hK K))
  all_goals (first | exact fun _ h => (by cases h) | refine fin0 ?_)
  all_goals (simp)
theorem isNaN64_c (a : Int) : PC Try.prog 123 [I .i64 a] (Bo false) := by
  refine PCB.of_body Try.func123 rfl (by decide) Try.ntmps123 Try.results123 rfl rfl rfl ?_ rfl rfl
  repeat' (first
    | (simp only [go_sem, zA, zB, zC, zD, zE, zF, zG, reduceCtorEq, zH, zI, zJ, zK, zL, decide_true]; all_goals fail_if_success guard_target =ₛ False)
    | (with_reducible first
      | refine seqVC_stepN rfl fun K hK => ?_
      | refine seqVC_nil ?_
      | (refine hK _ _ _ ?_; clear hK K)
      | (refine hK _ _ ?_; clear hK K)
      | (refine hK _ ?_; clear hK K)
      | refine AWP.seq fun K hK => ?_
      | refine AWP.seqR (by kernel_rfl) fun K hK => ?_
      | (refine AWP.cond (by with_unfolding_all rfl) (fun h => ?_) (fun h => ?_); all_goals (try simp only [Bool.not_eq_true', Bool.not_eq_false'] at h); (all_goals try first | (exact absurd h Bool.false_ne_true) | (exact absurd h.symm Bool.false_ne_true) | (exact absurd h (by decide))))
      | refine AWP.skip ?_
      | refine AWP.ret ?_
      | refine AWP.block ?_
      | refine AWP.exit ?_
      | refine Or.inl ?_)
    | (clear hK K))
  all_goals (first | exact fun _ h => (by cases h) | refine fin0 ?_)
  all_goals (simp)
theorem cmpInt_c (a b : Int) : PC Try.prog 87 [I .i64 a, I .i64 b] (I .i64 (cmpI a b)) := by
  refine PCB.of_body Try.func87 rfl (by decide) Try.ntmps87 Try.results87 rfl rfl rfl ?_ rfl rfl
  cases h1 : decide (a < b) <;> cases h2 : decide (b < a)
  repeat' (first
    | (simp only [go_sem, zA, zB, zC, zD, zE, zF, zG, reduceCtorEq, zH, zI, zJ, zK, zL, h1, h2, gt_iff_lt]; all_goals fail_if_success guard_target =ₛ False)
    | (with_reducible first
      | refine seqVC_stepN rfl fun K hK => ?_
      | refine seqVC_nil ?_
      | (refine hK _ _ _ ?_; clear hK K)
      | (refine hK _ _ ?_; clear hK K)
      | (refine hK _ ?_; clear hK K)
      | refine AWP.seq fun K hK => ?_
      | refine AWP.seqR (by kernel_rfl) fun K hK => ?_
      | (refine AWP.cond (by with_unfolding_all rfl) (fun h => ?_) (fun h => ?_); all_goals (try simp only [Bool.not_eq_true', Bool.not_eq_false'] at h); (all_goals try first | (exact absurd h Bool.false_ne_true) | (exact absurd h.symm Bool.false_ne_true) | (exact absurd h (by decide))))
      | refine AWP.skip ?_
      | refine AWP.ret ?_
      | refine AWP.block ?_
      | refine AWP.exit ?_
      | refine ⟨_, isNaN_c _, ?_⟩
      | refine Or.inl ?_)
    | (clear hK K))
  all_goals (refine fin0 ?_; simp only [cmpI, h1, h2, cond_true, cond_false])
theorem cmpInt64_c (a b : Int) : PC Try.prog 96 [I .i64 a, I .i64 b] (I .i64 (cmpI a b)) := by
  refine PCB.of_body Try.func96 rfl (by decide) Try.ntmps96 Try.results96 rfl rfl rfl ?_ rfl rfl
  cases h1 : decide (a < b) <;> cases h2 : decide (b < a)
  repeat' (first
    | (simp only [go_sem, zA, zB, zC, zD, zE, zF, zG, reduceCtorEq, zH, zI, zJ, zK, zL, h1, h2, gt_iff_lt]; all_goals fail_if_success guard_target =ₛ False)
    | (with_reducible first
      | refine seqVC_stepN rfl fun K hK => ?_
      | refine seqVC_nil ?_
      | (refine hK _ _ _ ?_; clear hK K)
      | (refine hK _ _ ?_; clear hK K)
      | (refine hK _ ?_; clear hK K)
      | refine AWP.seq fun K hK => ?_
      | refine AWP.seqR (by kernel_rfl) fun K hK => ?_
      | (refine AWP.cond (by with_unfolding_all rfl) (fun h => ?_) (fun h => ?_); all_goals (try simp only [Bool.not_eq_true', Bool.not_eq_false'] at h); (all_goals try first | (exact absurd h Bool.false_ne_true) | (exact absurd h.symm Bool.false_ne_true) | (exact absurd h (by decide))))
      | refine AWP.skip ?_
      | refine AWP.ret ?_
      | refine AWP.block ?_
      | refine AWP.exit ?_
      | refine ⟨_, isNaN64_c _, ?_⟩
      | refine Or.inl ?_)
    | (clear hK K))
  all_goals (refine fin0 ?_; simp only [cmpI, h1, h2, cond_true, cond_false])

def firstC {α : Type} (f : α → α → Int) : List α → List α → Int
  | x :: a, y :: b => bif decide (f x y = 0) then firstC f a b else f x y
  | _, _ => 0
theorem firstC_nil {α : Type} (f : α → α → Int) (l : List α) : firstC f [] l = 0 := by cases l <;> rfl
def listCmp {α : Type} (f : α → α → Int) (a b : List α) : Int := bif decide (cmpI a.length b.length = 0) then firstC f a b else cmpI a.length b.length
theorem cmpI_zero {a b : Int} : cmpI a b = 0 ↔ a = b := by
  unfold cmpI
  cases h1 : decide (a < b) <;> cases h2 : decide (b < a) <;> simp only [decide_eq_true_eq, decide_eq_false_iff_not] at h1 h2 <;> simp <;> omega

theorem cmpKeys_c (g : FuncId) (f : KeyD → KeyD → Int) (a b : List KeyD) (hg : ∀ x ∈ a, ∀ y ∈ b, PC Try.prog g [T.st (encKey x), T.st (encKey y)] (I .i64 (f x y))) :
    PC Try.prog 97 [.one (.dat (.sl 2 (a.map encKey))), .one (.dat (.sl 2 (b.map encKey))), .one (.dat (.fn g))] (I .i64 (listCmp f a b)) := by
  refine PCB.of_body Try.func97 rfl (by decide) Try.ntmps97 Try.results97 rfl rfl rfl ?_ rfl rfl
  refine AWP.len 0 rfl fun hlen => ?_
  rw [List.length_map] at hlen
  cases h0 : decide (cmpI a.length b.length = 0) with
  | false =>
    repeat' (first
      | (simp only [go_sem, zA, zB, zC, zD, zE, zF, zG, reduceCtorEq, zH, zI, zJ, zK, zL, List.length_map, h0]; all_goals fail_if_success guard_target =ₛ False)
      | (with_reducible first
        | refine seqVC_stepN rfl fun K hK => ?_
        | refine seqVC_nil ?_
        | (refine hK _ _ _ ?_; clear hK K)
        | (refine hK _ _ ?_; clear hK K)
        | (refine hK _ ?_; clear hK K)
        | refine AWP.seq fun K hK => ?_
        | refine AWP.seqR (by kernel_rfl) fun K hK => ?_
        | refine parVC_stepN rfl fun K hK => ?_
        | refine parEVC_stepN rfl fun K hK => ?_
        | refine genVC_stepN rfl fun K hK => ?_
        | refine parVC_nil ?_
        | refine parEVC_nil ?_
        | refine genVC_nil ?_
        | (refine AWP.cond (by with_unfolding_all rfl) (fun h => ?_) (fun h => ?_); all_goals (try simp only [Bool.not_eq_true', Bool.not_eq_false'] at h); (all_goals try first | (exact absurd h Bool.false_ne_true) | (exact absurd h.symm Bool.false_ne_true) | (exact absurd h (by decide))))
        | refine AWP.skip ?_
        | refine AWP.ret ?_
        | refine AWP.block ?_
        | refine AWP.exit ?_
        | refine ⟨_, cmpInt_c _ _, ?_⟩
        | refine AWP.parR mixed (by kernel_rfl) fun K hK => ?_
        | refine ⟨(by kernel_rfl : depB _ _ _ = true), ?_⟩
        | refine Or.inl ?_)
      | (clear hK K))
    all_goals (refine fin0 ?_; simp only [listCmp, h0, cond_false])
  | true =>
    have hl : a.length = b.length := by
      have := cmpI_zero.1 (of_decide_eq_true h0)
      omega
    repeat' (first
      | (simp only [go_sem, zA, zB, zC, zD, zE, zF, zG, reduceCtorEq, zH, zI, zJ, zK, zL, List.length_map, h0]; all_goals fail_if_success guard_target =ₛ False)
      | (with_reducible first
        | refine seqVC_stepN rfl fun K hK => ?_
        | refine seqVC_nil ?_
        | (refine hK _ _ _ ?_; clear hK K)
        | (refine hK _ _ ?_; clear hK K)
        | (refine hK _ ?_; clear hK K)
        | refine AWP.seq fun K hK => ?_
        | refine AWP.seqR (by kernel_rfl) fun K hK => ?_
        | refine parVC_stepN rfl fun K hK => ?_
        | refine parEVC_stepN rfl fun K hK => ?_
        | refine genVC_stepN rfl fun K hK => ?_
        | refine parVC_nil ?_
        | refine parEVC_nil ?_
        | refine genVC_nil ?_
        | (refine AWP.cond (by with_unfolding_all rfl) (fun h => ?_) (fun h => ?_); all_goals (try simp only [Bool.not_eq_true', Bool.not_eq_false'] at h); (all_goals try first | (exact absurd h Bool.false_ne_true) | (exact absurd h.symm Bool.false_ne_true) | (exact absurd h (by decide))))
        | refine AWP.skip ?_
        | refine AWP.ret ?_
        | refine AWP.block ?_
        | refine AWP.exit ?_
        | refine ⟨_, cmpInt_c _ _, ?_⟩
        | refine AWP.parR mixed (by kernel_rfl) fun K hK => ?_
        | refine ⟨(by kernel_rfl : depB _ _ _ = true), ?_⟩
        | refine Or.inl ?_)
      | (clear hK K))
    refine AWP.loopS (X := Nat × Unit) (fun x => [(20, I .i64 x.1), (19, I .i64 a.length), (0, .one (.dat (.sl 2 (a.map encKey)))), (1, .one (.dat (.sl 2 (b.map encKey)))), (2, .one (.dat (.fn g)))]) (fun _ => [])
      (fun x => x.1 ≤ a.length ∧ firstC f a b = firstC f (a.drop x.1) (b.drop x.1)) (fun x => a.length - x.1) (0, ()) (Gh.to [] (by repeat (first | exact trivial | refine ⟨rfl, ?_⟩ | refine ⟨by (simp only [go_sem, zA, zB, zC, zD, zE, zF, zG, reduceCtorEq, zH, zI, zJ, zK, zL, List.length_append, List.length_map, List.length_cons, List.length_nil, Nat.zero_add]) <;> rfl, ?_⟩)) (by repeat (first | exact trivial | refine ⟨rfl, ?_⟩ | refine ⟨by (simp only [go_sem, zA, zB, zC, zD, zE, zF, zG, reduceCtorEq, zH, zI, zJ, zK, zL, List.length_append, List.length_map, List.length_cons, List.length_nil, Nat.zero_add]) <;> rfl, ?_⟩)) rfl rfl rfl) ⟨Nat.zero_le _, rfl⟩ ?_
    rintro ⟨k, u⟩ ⟨hk, hp⟩
    simp only at hk hp
    by_cases hlt : k < a.length
    · obtain ⟨x, hx, hx', hb, hdx⟩ := at_lt (enc := encKey) hlt
      obtain ⟨y, hy, hy', _, hdy⟩ := at_lt (enc := encKey) (show k < b.length by omega)
      rw [hdx, hdy, firstC] at hp
      have hgx := hg x (List.mem_of_getElem? hx) y (List.mem_of_getElem? hy)
      cases hz : decide (f x y = 0)
      ·
        repeat' (first
          | (simp only [go_sem, zA, zB, zC, zD, zE, zF, zG, reduceCtorEq, zH, zI, zJ, zK, zL, List.length_map, hb, hz]; all_goals fail_if_success guard_target =ₛ False)
          | (with_reducible first
            | refine seqVC_stepN rfl fun K hK => ?_
            | refine seqVC_nil ?_
            | (refine hK _ _ _ ?_; clear hK K)
            | (refine hK _ _ ?_; clear hK K)
            | (refine hK _ ?_; clear hK K)
            | refine AWP.seq fun K hK => ?_
            | refine AWP.seqR (by kernel_rfl) fun K hK => ?_
            | refine parVC_stepN rfl fun K hK => ?_
            | refine parEVC_stepN rfl fun K hK => ?_
            | refine genVC_stepN rfl fun K hK => ?_
            | refine parVC_nil ?_
            | refine parEVC_nil ?_
            | refine genVC_nil ?_
            | (refine AWP.cond (by with_unfolding_all rfl) (fun h => ?_) (fun h => ?_); all_goals (try simp only [Bool.not_eq_true', Bool.not_eq_false'] at h); (all_goals try first | (exact absurd h Bool.false_ne_true) | (exact absurd h.symm Bool.false_ne_true) | (exact absurd h (by decide))))
            | refine AWP.skip ?_
            | refine AWP.ret ?_
            | refine AWP.block ?_
            | refine AWP.exit ?_
            | refine ⟨_, hgx, ?_⟩
            | refine ⟨by omega, encKey x, hx', ?_⟩
            | refine ⟨by omega, encKey y, hy', ?_⟩
            | refine AWP.parR mixed (by kernel_rfl) fun K hK => ?_
            | refine ⟨(by kernel_rfl : depB _ _ _ = true), ?_⟩
            | refine Or.inl ?_)
          | (clear hK K))
        all_goals (refine fin0 ?_; simp only [listCmp, h0, hp, hz, cond_true, cond_false])
      ·
        repeat' (first
          | (simp only [go_sem, zA, zB, zC, zD, zE, zF, zG, reduceCtorEq, zH, zI, zJ, zK, zL, List.length_map, hb, hz]; all_goals fail_if_success guard_target =ₛ False)
          | (with_reducible first
            | refine seqVC_stepN rfl fun K hK => ?_
            | refine seqVC_nil ?_
            | (refine hK _ _ _ ?_; clear hK K)
            | (refine hK _ _ ?_; clear hK K)
            | (refine hK _ ?_; clear hK K)
            | refine AWP.seq fun K hK => ?_
            | refine AWP.seqR (by kernel_rfl) fun K hK => ?_
            | refine parVC_stepN rfl fun K hK => ?_
            | refine parEVC_stepN rfl fun K hK => ?_
            | refine genVC_stepN rfl fun K hK => ?_
            | refine parVC_nil ?_
            | refine parEVC_nil ?_
            | refine genVC_nil ?_
            | (refine AWP.cond (by with_unfolding_all rfl) (fun h => ?_) (fun h => ?_); all_goals (try simp only [Bool.not_eq_true', Bool.not_eq_false'] at h); (all_goals try first | (exact absurd h Bool.false_ne_true) | (exact absurd h.symm Bool.false_ne_true) | (exact absurd h (by decide))))
            | refine AWP.skip ?_
            | refine AWP.ret ?_
            | refine AWP.block ?_
            | refine AWP.exit ?_
            | refine ⟨_, hgx, ?_⟩
            | refine ⟨by omega, encKey x, hx', ?_⟩
            | refine ⟨by omega, encKey y, hy', ?_⟩
            | refine AWP.parR mixed (by kernel_rfl) fun K hK => ?_
            | refine ⟨(by kernel_rfl : depB _ _ _ = true), ?_⟩
            | refine Or.inl ?_)
          | (clear hK K))
        all_goals (rw [hz, cond_true] at hp)
        all_goals (rw [wrap_succ hlt hlen])
        all_goals (refine ⟨(k + 1, ()), by simp only; omega, ⟨by simp only; omega, hp⟩, Gh.to [] (by repeat (first | exact trivial | refine ⟨rfl, ?_⟩ | refine ⟨by (simp only [go_sem, zA, zB, zC, zD, zE, zF, zG, reduceCtorEq, zH, zI, zJ, zK, zL, List.length_append, List.length_map, List.length_cons, List.length_nil, Nat.zero_add]) <;> rfl, ?_⟩)) (by repeat (first | exact trivial | refine ⟨rfl, ?_⟩ | refine ⟨by (simp only [go_sem, zA, zB, zC, zD, zE, zF, zG, reduceCtorEq, zH, zI, zJ, zK, zL, List.length_append, List.length_map, List.length_cons, List.length_nil, Nat.zero_add]) <;> rfl, ?_⟩)) rfl rfl rfl⟩)
    · have hb : decide ((k : Int) < (a.length : Int)) = false := by simpa using hlt
      rw [List.drop_eq_nil_of_le (show a.length ≤ k by omega), firstC_nil] at hp
      repeat' (first
        | (simp only [go_sem, zA, zB, zC, zD, zE, zF, zG, reduceCtorEq, zH, zI, zJ, zK, zL, List.length_map, hb]; all_goals fail_if_success guard_target =ₛ False)
        | (with_reducible first
          | refine seqVC_stepN rfl fun K hK => ?_
          | refine seqVC_nil ?_
          | (refine hK _ _ _ ?_; clear hK K)
          | (refine hK _ _ ?_; clear hK K)
          | (refine hK _ ?_; clear hK K)
          | refine AWP.seq fun K hK => ?_
          | refine AWP.seqR (by kernel_rfl) fun K hK => ?_
          | refine parVC_stepN rfl fun K hK => ?_
          | refine parEVC_stepN rfl fun K hK => ?_
          | refine genVC_stepN rfl fun K hK => ?_
          | refine parVC_nil ?_
          | refine parEVC_nil ?_
          | refine genVC_nil ?_
          | (refine AWP.cond (by with_unfolding_all rfl) (fun h => ?_) (fun h => ?_); all_goals (try simp only [Bool.not_eq_true', Bool.not_eq_false'] at h); (all_goals try first | (exact absurd h Bool.false_ne_true) | (exact absurd h.symm Bool.false_ne_true) | (exact absurd h (by decide))))
          | refine AWP.skip ?_
          | refine AWP.ret ?_
          | refine AWP.block ?_
          | refine AWP.exit ?_
          | refine AWP.parR mixed (by kernel_rfl) fun K hK => ?_
          | refine ⟨(by kernel_rfl : depB _ _ _ = true), ?_⟩
          | refine Or.inl ?_)
        | (clear hK K))
      all_goals (refine fin0 ?_; simp only [listCmp, h0, hp, cond_true])

theorem cmpVals_c (g : FuncId) (f : Val → Val → Int) (a b : List Val) (hg : ∀ x ∈ a, ∀ y ∈ b, PC Try.prog g [T.st (encVal x), T.st (encVal y)] (I .i64 (f x y))) :
    PC Try.prog 124 [.one (.dat (.sl 7 (a.map encVal))), .one (.dat (.sl 7 (b.map encVal))), .one (.dat (.fn g))] (I .i64 (listCmp f a b)) := by
  refine PCB.of_body Try.func124 rfl (by decide) Try.ntmps124 Try.results124 rfl rfl rfl ?_ rfl rfl
  refine AWP.len 0 rfl fun hlen => ?_
  rw [List.length_map] at hlen
  cases h0 : decide (cmpI a.length b.length = 0) with
  | false =>
    repeat' (first
      | (simp only [go_sem, zA, zB, zC, zD, zE, zF, zG, reduceCtorEq, zH, zI, zJ, zK, zL, List.length_map, h0]; all_goals fail_if_success guard_target =ₛ False)
      | (with_reducible first
        | refine seqVC_stepN rfl fun K hK => ?_
        | refine seqVC_nil ?_
        | (refine hK _ _ _ ?_; clear hK K)
        | (refine hK _ _ ?_; clear hK K)
        | (refine hK _ ?_; clear hK K)
        | refine AWP.seq fun K hK => ?_
        | refine AWP.seqR (by kernel_rfl) fun K hK => ?_
        | refine parVC_stepN rfl fun K hK => ?_
        | refine parEVC_stepN rfl fun K hK => ?_
        | refine genVC_stepN rfl fun K hK => ?_
        | refine parVC_nil ?_
        | refine parEVC_nil ?_
        | refine genVC_nil ?_
        | (refine AWP.cond (by with_unfolding_all rfl) (fun h => ?_) (fun h => ?_); all_goals (try simp only [Bool.not_eq_true', Bool.not_eq_false'] at h); (all_goals try first | (exact absurd h Bool.false_ne_true) | (exact absurd h.symm Bool.false_ne_true) | (exact absurd h (by decide))))
        | refine AWP.skip ?_
        | refine AWP.ret ?_
        | refine AWP.block ?_
        | refine AWP.exit ?_
        | refine ⟨_, cmpInt_c _ _, ?_⟩
        | refine AWP.parR mixed (by kernel_rfl) fun K hK => ?_
        | refine ⟨(by kernel_rfl : depB _ _ _ = true), ?_⟩
        | refine Or.inl ?_)
      | (clear hK K))
    all_goals (refine fin0 ?_; simp only [listCmp, h0, cond_false])
  | true =>
    have hl : a.length = b.length := by
      have := cmpI_zero.1 (of_decide_eq_true h0)
      omega
    repeat' (first
      | (simp only [go_sem, zA, zB, zC, zD, zE, zF, zG, reduceCtorEq, zH, zI, zJ, zK, zL, List.length_map, h0]; all_goals fail_if_success guard_target =ₛ False)
      | (with_reducible first
        | refine seqVC_stepN rfl fun K hK => ?_
        | refine seqVC_nil ?_
        | (refine hK _ _ _ ?_; clear hK K)
        | (refine hK _ _ ?_; clear hK K)
        | (refine hK _ ?_; clear hK K)
        | refine AWP.seq fun K hK => ?_
        | refine AWP.seqR (by kernel_rfl) fun K hK => ?_
        | refine parVC_stepN rfl fun K hK => ?_
        | refine parEVC_stepN rfl fun K hK => ?_
        | refine genVC_stepN rfl fun K hK => ?_
        | refine parVC_nil ?_
        | refine parEVC_nil ?_
        | refine genVC_nil ?_
        | (refine AWP.cond (by with_unfolding_all rfl) (fun h => ?_) (fun h => ?_); all_goals (try simp only [Bool.not_eq_true', Bool.not_eq_false'] at h); (all_goals try first | (exact absurd h Bool.false_ne_true) | (exact absurd h.symm Bool.false_ne_true) | (exact absurd h (by decide))))
        | refine AWP.skip ?_
        | refine AWP.ret ?_
        | refine AWP.block ?_
        | refine AWP.exit ?_
        | refine ⟨_, cmpInt_c _ _, ?_⟩
        | refine AWP.parR mixed (by kernel_rfl) fun K hK => ?_
        | refine ⟨(by kernel_rfl : depB _ _ _ = true), ?_⟩
        | refine Or.inl ?_)
      | (clear hK K))
    refine AWP.loopS (X := Nat × Unit) (fun x => [(20, I .i64 x.1), (19, I .i64 a.length), (0, .one (.dat (.sl 7 (a.map encVal)))), (1, .one (.dat (.sl 7 (b.map encVal)))), (2, .one (.dat (.fn g)))]) (fun _ => [])
      (fun x => x.1 ≤ a.length ∧ firstC f a b = firstC f (a.drop x.1) (b.drop x.1)) (fun x => a.length - x.1) (0, ()) (Gh.to [] (by repeat (first | exact trivial | refine ⟨rfl, ?_⟩ | refine ⟨by (simp only [go_sem, zA, zB, zC, zD, zE, zF, zG, reduceCtorEq, zH, zI, zJ, zK, zL, List.length_append, List.length_map, List.length_cons, List.length_nil, Nat.zero_add]) <;> rfl, ?_⟩)) (by repeat (first | exact trivial | refine ⟨rfl, ?_⟩ | refine ⟨by (simp only [go_sem, zA, zB, zC, zD, zE, zF, zG, reduceCtorEq, zH, zI, zJ, zK, zL, List.length_append, List.length_map, List.length_cons, List.length_nil, Nat.zero_add]) <;> rfl, ?_⟩)) rfl rfl rfl) ⟨Nat.zero_le _, rfl⟩ ?_
    rintro ⟨k, u⟩ ⟨hk, hp⟩
    simp only at hk hp
    by_cases hlt : k < a.length
    · obtain ⟨x, hx, hx', hb, hdx⟩ := at_lt (enc := encVal) hlt
      obtain ⟨y, hy, hy', _, hdy⟩ := at_lt (enc := encVal) (show k < b.length by omega)
      rw [hdx, hdy, firstC] at hp
      have hgx := hg x (List.mem_of_getElem? hx) y (List.mem_of_getElem? hy)
      cases hz : decide (f x y = 0)
      ·
        repeat' (first
          | (simp only [go_sem, zA, zB, zC, zD, zE, zF, zG, reduceCtorEq, zH, zI, zJ, zK, zL, List.length_map, hb, hz]; all_goals fail_if_success guard_target =ₛ False)
          | (with_reducible first
            | refine seqVC_stepN rfl fun K hK => ?_
            | refine seqVC_nil ?_
            | (refine hK _ _ _ ?_; clear hK K)
            | (refine hK _ _ ?_; clear hK K)
            | (refine hK _ ?_; clear hK K)
            | refine AWP.seq fun K hK => ?_
            | refine AWP.seqR (by kernel_rfl) fun K hK => ?_
            | refine parVC_stepN rfl fun K hK => ?_
            | refine parEVC_stepN rfl fun K hK => ?_
            | refine genVC_stepN rfl fun K hK => ?_
            | refine parVC_nil ?_
            | refine parEVC_nil ?_
            | refine genVC_nil ?_
            | (refine AWP.cond (by with_unfolding_all rfl) (fun h => ?_) (fun h => ?_); all_goals (try simp only [Bool.not_eq_true', Bool.not_eq_false'] at h); (all_goals try first | (exact absurd h Bool.false_ne_true) | (exact absurd h.symm Bool.false_ne_true) | (exact absurd h (by decide))))
            | refine AWP.skip ?_
            | refine AWP.ret ?_
            | refine AWP.block ?_
            | refine AWP.exit ?_
            | refine ⟨_, hgx, ?_⟩
            | refine ⟨by omega, encVal x, hx', ?_⟩
            | refine ⟨by omega, encVal y, hy', ?_⟩
            | refine AWP.parR mixed (by kernel_rfl) fun K hK => ?_
            | refine ⟨(by kernel_rfl : depB _ _ _ = true), ?_⟩
            | refine Or.inl ?_)
          | (clear hK K))
        all_goals (refine fin0 ?_; simp only [listCmp, h0, hp, hz, cond_true, cond_false])
      ·
        repeat' (first
          | (simp only [go_sem, zA, zB, zC, zD, zE, zF, zG, reduceCtorEq, zH, zI, zJ, zK, zL, List.length_map, hb, hz]; all_goals fail_if_success guard_target =ₛ False)
          | (with_reducible first
            | refine seqVC_stepN rfl fun K hK => ?_
            | refine seqVC_nil ?_
            | (refine hK _ _ _ ?_; clear hK K)
            | (refine hK _ _ ?_; clear hK K)
            | (refine hK _ ?_; clear hK K)
            | refine AWP.seq fun K hK => ?_
            | refine AWP.seqR (by kernel_rfl) fun K hK => ?_
            | refine parVC_stepN rfl fun K hK => ?_
            | refine parEVC_stepN rfl fun K hK => ?_
            | refine genVC_stepN rfl fun K hK => ?_
            | refine parVC_nil ?_
            | refine parEVC_nil ?_
            | refine genVC_nil ?_
            | (refine AWP.cond (by with_unfolding_all rfl) (fun h => ?_) (fun h => ?_); all_goals (try simp only [Bool.not_eq_true', Bool.not_eq_false'] at h); (all_goals try first | (exact absurd h Bool.false_ne_true) | (exact absurd h.symm Bool.false_ne_true) | (exact absurd h (by decide))))
            | refine AWP.skip ?_
            | refine AWP.ret ?_
            | refine AWP.block ?_
            | refine AWP.exit ?_
            | refine ⟨_, hgx, ?_⟩
            | refine ⟨by omega, encVal x, hx', ?_⟩
            | refine ⟨by omega, encVal y, hy', ?_⟩
            | refine AWP.parR mixed (by kernel_rfl) fun K hK => ?_
            | refine ⟨(by kernel_rfl : depB _ _ _ = true), ?_⟩
            | refine Or.inl ?_)
          | (clear hK K))
        all_goals (rw [hz, cond_true] at hp)
        all_goals (rw [wrap_succ hlt hlen])
        all_goals (refine ⟨(k + 1, ()), by simp only; omega, ⟨by simp only; omega, hp⟩, Gh.to [] (by repeat (first | exact trivial | refine ⟨rfl, ?_⟩ | refine ⟨by (simp only [go_sem, zA, zB, zC, zD, zE, zF, zG, reduceCtorEq, zH, zI, zJ, zK, zL, List.length_append, List.length_map, List.length_cons, List.length_nil, Nat.zero_add]) <;> rfl, ?_⟩)) (by repeat (first | exact trivial | refine ⟨rfl, ?_⟩ | refine ⟨by (simp only [go_sem, zA, zB, zC, zD, zE, zF, zG, reduceCtorEq, zH, zI, zJ, zK, zL, List.length_append, List.length_map, List.length_cons, List.length_nil, Nat.zero_add]) <;> rfl, ?_⟩)) rfl rfl rfl⟩)
    · have hb : decide ((k : Int) < (a.length : Int)) = false := by simpa using hlt
      rw [List.drop_eq_nil_of_le (show a.length ≤ k by omega), firstC_nil] at hp
      repeat' (first
        | (simp only [go_sem, zA, zB, zC, zD, zE, zF, zG, reduceCtorEq, zH, zI, zJ, zK, zL, List.length_map, hb]; all_goals fail_if_success guard_target =ₛ False)
        | (with_reducible first
          | refine seqVC_stepN rfl fun K hK => ?_
          | refine seqVC_nil ?_
          | (refine hK _ _ _ ?_; clear hK K)
          | (refine hK _ _ ?_; clear hK K)
          | (refine hK _ ?_; clear hK K)
          | refine AWP.seq fun K hK => ?_
          | refine AWP.seqR (by kernel_rfl) fun K hK => ?_
          | refine parVC_stepN rfl fun K hK => ?_
          | refine parEVC_stepN rfl fun K hK => ?_
          | refine genVC_stepN rfl fun K hK => ?_
          | refine parVC_nil ?_
          | refine parEVC_nil ?_
          | refine genVC_nil ?_
          | (refine AWP.cond (by with_unfolding_all rfl) (fun h => ?_) (fun h => ?_); all_goals (try simp only [Bool.not_eq_true', Bool.not_eq_false'] at h); (all_goals try first | (exact absurd h Bool.false_ne_true) | (exact absurd h.symm Bool.false_ne_true) | (exact absurd h (by decide))))
          | refine AWP.skip ?_
          | refine AWP.ret ?_
          | refine AWP.block ?_
          | refine AWP.exit ?_
          | refine AWP.parR mixed (by kernel_rfl) fun K hK => ?_
          | refine ⟨(by kernel_rfl : depB _ _ _ = true), ?_⟩
          | refine Or.inl ?_)
        | (clear hK K))
      all_goals (refine fin0 ?_; simp only [listCmp, h0, hp, cond_true])

theorem cmpEnts_c (g : FuncId) (f : (List Val × Bool × Val) → (List Val × Bool × Val) → Int) (a b : List (List Val × Bool × Val)) (hg : ∀ x ∈ a, ∀ y ∈ b, PC Try.prog g [T.st (encEnt x), T.st (encEnt y)] (I .i64 (f x y))) :
    PC Try.prog 99 [.one (.dat (.sl 9 (a.map encEnt))), .one (.dat (.sl 9 (b.map encEnt))), .one (.dat (.fn g))] (I .i64 (listCmp f a b)) := by
  refine PCB.of_body Try.func99 rfl (by decide) Try.ntmps99 Try.results99 rfl rfl rfl ?_ rfl rfl
  refine AWP.len 0 rfl fun hlen => ?_
  rw [List.length_map] at hlen
  cases h0 : decide (cmpI a.length b.length = 0) with
  | false =>
    repeat' (first
      | (simp only [go_sem, zA, zB, zC, zD, zE, zF, zG, reduceCtorEq, zH, zI, zJ, zK, zL, List.length_map, h0]; all_goals fail_if_success guard_target =ₛ False)
      | (with_reducible first
        | refine seqVC_stepN rfl fun K hK => ?_
        | refine seqVC_nil ?_
        | (refine hK _ _ _ ?_; clear hK K)
        | (refine hK _ _ ?_; clear hK K)
        | (refine hK _ ?_; clear hK K)
        | refine AWP.seq fun K hK => ?_
        | refine AWP.seqR (by kernel_rfl) fun K hK => ?_
        | refine parVC_stepN rfl fun K hK => ?_
        | refine parEVC_stepN rfl fun K hK => ?_
        | refine genVC_stepN rfl fun K hK => ?_
        | refine parVC_nil ?_
        | refine parEVC_nil ?_
        | refine genVC_nil ?_
        | (refine AWP.cond (by with_unfolding_all rfl) (fun h => ?_) (fun h => ?_); all_goals (try simp only [Bool.not_eq_true', Bool.not_eq_false'] at h); (all_goals try first | (exact absurd h Bool.false_ne_true) | (exact absurd h.symm Bool.false_ne_true) | (exact absurd h (by decide))))
        | refine AWP.skip ?_
        | refine AWP.ret ?_
        | refine AWP.block ?_
        | refine AWP.exit ?_
        | refine ⟨_, cmpInt_c _ _, ?_⟩
        | refine AWP.parR mixed (by kernel_rfl) fun K hK => ?_
        | refine ⟨(by kernel_rfl : depB _ _ _ = true), ?_⟩
        | refine Or.inl ?_)
      | (clear hK K))
    all_goals (refine fin0 ?_; simp only [listCmp, h0, cond_false])
  | true =>
    have hl : a.length = b.length := by
      have := cmpI_zero.1 (of_decide_eq_true h0)
      omega
    repeat' (first
      | (simp only [go_sem, zA, zB, zC, zD, zE, zF, zG, reduceCtorEq, zH, zI, zJ, zK, zL, List.length_map, h0]; all_goals fail_if_success guard_target =ₛ False)
      | (with_reducible first
        | refine seqVC_stepN rfl fun K hK => ?_
        | refine seqVC_nil ?_
        | (refine hK _ _ _ ?_; clear hK K)
        | (refine hK _ _ ?_; clear hK K)
        | (refine hK _ ?_; clear hK K)
        | refine AWP.seq fun K hK => ?_
        | refine AWP.seqR (by kernel_rfl) fun K hK => ?_
        | refine parVC_stepN rfl fun K hK => ?_
        | refine parEVC_stepN rfl fun K hK => ?_
        | refine genVC_stepN rfl fun K hK => ?_
        | refine parVC_nil ?_
        | refine parEVC_nil ?_
        | refine genVC_nil ?_
        | (refine AWP.cond (by with_unfolding_all rfl) (fun h => ?_) (fun h => ?_); all_goals (try simp only [Bool.not_eq_true', Bool.not_eq_false'] at h); (all_goals try first | (exact absurd h Bool.false_ne_true) | (exact absurd h.symm Bool.false_ne_true) | (exact absurd h (by decide))))
        | refine AWP.skip ?_
        | refine AWP.ret ?_
        | refine AWP.block ?_
        | refine AWP.exit ?_
        | refine ⟨_, cmpInt_c _ _, ?_⟩
        | refine AWP.parR mixed (by kernel_rfl) fun K hK => ?_
        | refine ⟨(by kernel_rfl : depB _ _ _ = true), ?_⟩
        | refine Or.inl ?_)
      | (clear hK K))
    refine AWP.loopS (X := Nat × Unit) (fun x => [(20, I .i64 x.1), (19, I .i64 a.length), (0, .one (.dat (.sl 9 (a.map encEnt)))), (1, .one (.dat (.sl 9 (b.map encEnt)))), (2, .one (.dat (.fn g)))]) (fun _ => [])
      (fun x => x.1 ≤ a.length ∧ firstC f a b = firstC f (a.drop x.1) (b.drop x.1)) (fun x => a.length - x.1) (0, ()) (Gh.to [] (by repeat (first | exact trivial | refine ⟨rfl, ?_⟩ | refine ⟨by (simp only [go_sem, zA, zB, zC, zD, zE, zF, zG, reduceCtorEq, zH, zI, zJ, zK, zL, List.length_append, List.length_map, List.length_cons, List.length_nil, Nat.zero_add]) <;> rfl, ?_⟩)) (by repeat (first | exact trivial | refine ⟨rfl, ?_⟩ | refine ⟨by (simp only [go_sem, zA, zB, zC, zD, zE, zF, zG, reduceCtorEq, zH, zI, zJ, zK, zL, List.length_append, List.length_map, List.length_cons, List.length_nil, Nat.zero_add]) <;> rfl, ?_⟩)) rfl rfl rfl) ⟨Nat.zero_le _, rfl⟩ ?_
    rintro ⟨k, u⟩ ⟨hk, hp⟩
    simp only at hk hp
    by_cases hlt : k < a.length
    · obtain ⟨x, hx, hx', hb, hdx⟩ := at_lt (enc := encEnt) hlt
      obtain ⟨y, hy, hy', _, hdy⟩ := at_lt (enc := encEnt) (show k < b.length by omega)
      rw [hdx, hdy, firstC] at hp
      have hgx := hg x (List.mem_of_getElem? hx) y (List.mem_of_getElem? hy)
      cases hz : decide (f x y = 0)
      ·
        repeat' (first
          | (simp only [go_sem, zA, zB, zC, zD, zE, zF, zG, reduceCtorEq, zH, zI, zJ, zK, zL, List.length_map, hb, hz]; all_goals fail_if_success guard_target =ₛ False)
          | (with_reducible first
            | refine seqVC_stepN rfl fun K hK => ?_
            | refine seqVC_nil ?_
            | (refine hK _ _ _ ?_; clear hK K)
            | (refine hK _ _ ?_; clear hK K)
            | (refine hK _ ?_; clear hK K)
            | refine AWP.seq fun K hK => ?_
            | refine AWP.seqR (by kernel_rfl) fun K hK => ?_
            | refine parVC_stepN rfl fun K hK => ?_
            | refine parEVC_stepN rfl fun K hK => ?_
            | refine genVC_stepN rfl fun K hK => ?_
            | refine parVC_nil ?_
            | refine parEVC_nil ?_
            | refine genVC_nil ?_
            | (refine AWP.cond (by with_unfolding_all rfl) (fun h => ?_) (fun h => ?_); all_goals (try simp only [Bool.not_eq_true', Bool.not_eq_false'] at h); (all_goals try first | (exact absurd h Bool.false_ne_true) | (exact absurd h.symm Bool.false_ne_true) | (exact absurd h (by decide))))
            | refine AWP.skip ?_
            | refine AWP.ret ?_
            | refine AWP.block ?_
            | refine AWP.exit ?_
            | refine ⟨_, hgx, ?_⟩
            | refine ⟨by omega, encEnt x, hx', ?_⟩
            | refine ⟨by omega, encEnt y, hy', ?_⟩
            | refine AWP.parR mixed (by kernel_rfl) fun K hK => ?_
            | refine ⟨(by kernel_rfl : depB _ _ _ = true), ?_⟩
            | refine Or.inl ?_)
          | (clear hK K))
        all_goals (refine fin0 ?_; simp only [listCmp, h0, hp, hz, cond_true, cond_false])
      ·
        repeat' (first
          | (simp only [go_sem, zA, zB, zC, zD, zE, zF, zG, reduceCtorEq, zH, zI, zJ, zK, zL, List.length_map, hb, hz]; all_goals fail_if_success guard_target =ₛ False)
          | (with_reducible first
            | refine seqVC_stepN rfl fun K hK => ?_
            | refine seqVC_nil ?_
            | (refine hK _ _ _ ?_; clear hK K)
            | (refine hK _ _ ?_; clear hK K)
            | (refine hK _ ?_; clear hK K)
            | refine AWP.seq fun K hK => ?_
            | refine AWP.seqR (by kernel_rfl) fun K hK => ?_
            | refine parVC_stepN rfl fun K hK => ?_
            | refine parEVC_stepN rfl fun K hK => ?_
            | refine genVC_stepN rfl fun K hK => ?_
            | refine parVC_nil ?_
            | refine parEVC_nil ?_
            | refine genVC_nil ?_
            | (refine AWP.cond (by with_unfolding_all rfl) (fun h => ?_) (fun h => ?_); all_goals (try simp only [Bool.not_eq_true', Bool.not_eq_false'] at h); (all_goals try first | (exact absurd h Bool.false_ne_true) | (exact absurd h.symm Bool.false_ne_true) | (exact absurd h (by decide))))
            | refine AWP.skip ?_
            | refine AWP.ret ?_
            | refine AWP.block ?_
            | refine AWP.exit ?_
            | refine ⟨_, hgx, ?_⟩
            | refine ⟨by omega, encEnt x, hx', ?_⟩
            | refine ⟨by omega, encEnt y, hy', ?_⟩
            | refine AWP.parR mixed (by kernel_rfl) fun K hK => ?_
            | refine ⟨(by kernel_rfl : depB _ _ _ = true), ?_⟩
            | refine Or.inl ?_)
          | (clear hK K))
        all_goals (rw [hz, cond_true] at hp)
        all_goals (rw [wrap_succ hlt hlen])
        all_goals (refine ⟨(k + 1, ()), by simp only; omega, ⟨by simp only; omega, hp⟩, Gh.to [] (by repeat (first | exact trivial | refine ⟨rfl, ?_⟩ | refine ⟨by (simp only [go_sem, zA, zB, zC, zD, zE, zF, zG, reduceCtorEq, zH, zI, zJ, zK, zL, List.length_append, List.length_map, List.length_cons, List.length_nil, Nat.zero_add]) <;> rfl, ?_⟩)) (by repeat (first | exact trivial | refine ⟨rfl, ?_⟩ | refine ⟨by (simp only [go_sem, zA, zB, zC, zD, zE, zF, zG, reduceCtorEq, zH, zI, zJ, zK, zL, List.length_append, List.length_map, List.length_cons, List.length_nil, Nat.zero_add]) <;> rfl, ?_⟩)) rfl rfl rfl⟩)
    · have hb : decide ((k : Int) < (a.length : Int)) = false := by simpa using hlt
      rw [List.drop_eq_nil_of_le (show a.length ≤ k by omega), firstC_nil] at hp
      repeat' (first
        | (simp only [go_sem, zA, zB, zC, zD, zE, zF, zG, reduceCtorEq, zH, zI, zJ, zK, zL, List.length_map, hb]; all_goals fail_if_success guard_target =ₛ False)
        | (with_reducible first
          | refine seqVC_stepN rfl fun K hK => ?_
          | refine seqVC_nil ?_
          | (refine hK _ _ _ ?_; clear hK K)
          | (refine hK _ _ ?_; clear hK K)
          | (refine hK _ ?_; clear hK K)
          | refine AWP.seq fun K hK => ?_
          | refine AWP.seqR (by kernel_rfl) fun K hK => ?_
          | refine parVC_stepN rfl fun K hK => ?_
          | refine parEVC_stepN rfl fun K hK => ?_
          | refine genVC_stepN rfl fun K hK => ?_
          | refine parVC_nil ?_
          | refine parEVC_nil ?_
          | refine genVC_nil ?_
          | (refine AWP.cond (by with_unfolding_all rfl) (fun h => ?_) (fun h => ?_); all_goals (try simp only [Bool.not_eq_true', Bool.not_eq_false'] at h); (all_goals try first | (exact absurd h Bool.false_ne_true) | (exact absurd h.symm Bool.false_ne_true) | (exact absurd h (by decide))))
          | refine AWP.skip ?_
          | refine AWP.ret ?_
          | refine AWP.block ?_
          | refine AWP.exit ?_
          | refine AWP.parR mixed (by kernel_rfl) fun K hK => ?_
          | refine ⟨(by kernel_rfl : depB _ _ _ = true), ?_⟩
          | refine Or.inl ?_)
        | (clear hK K))
      all_goals (refine fin0 ?_; simp only [listCmp, h0, hp, cond_true])

theorem cmpStrs_c (g : FuncId) (f : (List UInt8) → (List UInt8) → Int) (a b : List (List UInt8)) (hg : ∀ x ∈ a, ∀ y ∈ b, PC Try.prog g [S x, S y] (I .i64 (f x y))) :
    PC Try.prog 101 [.one (.dat (.sl 1 (a.map encStr))), .one (.dat (.sl 1 (b.map encStr))), .one (.dat (.fn g))] (I .i64 (listCmp f a b)) := by
  refine PCB.of_body Try.func101 rfl (by decide) Try.ntmps101 Try.results101 rfl rfl rfl ?_ rfl rfl
  refine AWP.len 0 rfl fun hlen => ?_
  rw [List.length_map] at hlen
  cases h0 : decide (cmpI a.length b.length = 0) with
  | false =>
    repeat' (first
      | (simp only [go_sem, zA, zB, zC, zD, zE, zF, zG, reduceCtorEq, zH, zI, zJ, zK, zL, List.length_map, h0]; all_goals fail_if_success guard_target =ₛ False)
      | (with_reducible first
        | refine seqVC_stepN rfl fun K hK => ?_
        | refine seqVC_nil ?_
        | (refine hK _ _ _ ?_; clear hK K)
        | (refine hK _ _ ?_; clear hK K)
        | (refine hK _ ?_; clear hK K)
        | refine AWP.seq fun K hK => ?_
        | refine AWP.seqR (by kernel_rfl) fun K hK => ?_
        | refine parVC_stepN rfl fun K hK => ?_
        | refine parEVC_stepN rfl fun K hK => ?_
        | refine genVC_stepN rfl fun K hK => ?_
        | refine parVC_nil ?_
        | refine parEVC_nil ?_
        | refine genVC_nil ?_
        | (refine AWP.cond (by with_unfolding_all rfl) (fun h => ?_) (fun h => ?_); all_goals (try simp only [Bool.not_eq_true', Bool.not_eq_false'] at h); (all_goals try first | (exact absurd h Bool.false_ne_true) | (exact absurd h.symm Bool.false_ne_true) | (exact absurd h (by decide))))
        | refine AWP.skip ?_
        | refine AWP.ret ?_
        | refine AWP.block ?_
        | refine AWP.exit ?_
        | refine ⟨_, cmpInt_c _ _, ?_⟩
        | refine AWP.parR mixed (by kernel_rfl) fun K hK => ?_
        | refine ⟨(by kernel_rfl : depB _ _ _ = true), ?_⟩
        | refine Or.inl ?_)
      | (clear hK K))
    all_goals (refine fin0 ?_; simp only [listCmp, h0, cond_false])
  | true =>
    have hl : a.length = b.length := by
      have := cmpI_zero.1 (of_decide_eq_true h0)
      omega
    repeat' (first
      | (simp only [go_sem, zA, zB, zC, zD, zE, zF, zG, reduceCtorEq, zH, zI, zJ, zK, zL, List.length_map, h0]; all_goals fail_if_success guard_target =ₛ False)
      | (with_reducible first
        | refine seqVC_stepN rfl fun K hK => ?_
        | refine seqVC_nil ?_
        | (refine hK _ _ _ ?_; clear hK K)
        | (refine hK _ _ ?_; clear hK K)
        | (refine hK _ ?_; clear hK K)
        | refine AWP.seq fun K hK => ?_
        | refine AWP.seqR (by kernel_rfl) fun K hK => ?_
        | refine parVC_stepN rfl fun K hK => ?_
        | refine parEVC_stepN rfl fun K hK => ?_
        | refine genVC_stepN rfl fun K hK => ?_
        | refine parVC_nil ?_
        | refine parEVC_nil ?_
        | refine genVC_nil ?_
        | (refine AWP.cond (by with_unfolding_all rfl) (fun h => ?_) (fun h => ?_); all_goals (try simp only [Bool.not_eq_true', Bool.not_eq_false'] at h); (all_goals try first | (exact absurd h Bool.false_ne_true) | (exact absurd h.symm Bool.false_ne_true) | (exact absurd h (by decide))))
        | refine AWP.skip ?_
        | refine AWP.ret ?_
        | refine AWP.block ?_
        | refine AWP.exit ?_
        | refine ⟨_, cmpInt_c _ _, ?_⟩
        | refine AWP.parR mixed (by kernel_rfl) fun K hK => ?_
        | refine ⟨(by kernel_rfl : depB _ _ _ = true), ?_⟩
        | refine Or.inl ?_)
      | (clear hK K))
    refine AWP.loopS (X := Nat × Unit) (fun x => [(20, I .i64 x.1), (19, I .i64 a.length), (0, .one (.dat (.sl 1 (a.map encStr)))), (1, .one (.dat (.sl 1 (b.map encStr)))), (2, .one (.dat (.fn g)))]) (fun _ => [])
      (fun x => x.1 ≤ a.length ∧ firstC f a b = firstC f (a.drop x.1) (b.drop x.1)) (fun x => a.length - x.1) (0, ()) (Gh.to [] (by repeat (first | exact trivial | refine ⟨rfl, ?_⟩ | refine ⟨by (simp only [go_sem, zA, zB, zC, zD, zE, zF, zG, reduceCtorEq, zH, zI, zJ, zK, zL, List.length_append, List.length_map, List.length_cons, List.length_nil, Nat.zero_add]) <;> rfl, ?_⟩)) (by repeat (first | exact trivial | refine ⟨rfl, ?_⟩ | refine ⟨by (simp only [go_sem, zA, zB, zC, zD, zE, zF, zG, reduceCtorEq, zH, zI, zJ, zK, zL, List.length_append, List.length_map, List.length_cons, List.length_nil, Nat.zero_add]) <;> rfl, ?_⟩)) rfl rfl rfl) ⟨Nat.zero_le _, rfl⟩ ?_
    rintro ⟨k, u⟩ ⟨hk, hp⟩
    simp only at hk hp
    by_cases hlt : k < a.length
    · obtain ⟨x, hx, hx', hb, hdx⟩ := at_lt (enc := encStr) hlt
      obtain ⟨y, hy, hy', _, hdy⟩ := at_lt (enc := encStr) (show k < b.length by omega)
      rw [hdx, hdy, firstC] at hp
      have hgx := hg x (List.mem_of_getElem? hx) y (List.mem_of_getElem? hy)
      cases hz : decide (f x y = 0)
      ·
        repeat' (first
          | (simp only [go_sem, zA, zB, zC, zD, zE, zF, zG, reduceCtorEq, zH, zI, zJ, zK, zL, List.length_map, hb, hz, encStr]; all_goals fail_if_success guard_target =ₛ False)
          | (with_reducible first
            | refine seqVC_stepN rfl fun K hK => ?_
            | refine seqVC_nil ?_
            | (refine hK _ _ _ ?_; clear hK K)
            | (refine hK _ _ ?_; clear hK K)
            | (refine hK _ ?_; clear hK K)
            | refine AWP.seq fun K hK => ?_
            | refine AWP.seqR (by kernel_rfl) fun K hK => ?_
            | refine parVC_stepN rfl fun K hK => ?_
            | refine parEVC_stepN rfl fun K hK => ?_
            | refine genVC_stepN rfl fun K hK => ?_
            | refine parVC_nil ?_
            | refine parEVC_nil ?_
            | refine genVC_nil ?_
            | (refine AWP.cond (by with_unfolding_all rfl) (fun h => ?_) (fun h => ?_); all_goals (try simp only [Bool.not_eq_true', Bool.not_eq_false'] at h); (all_goals try first | (exact absurd h Bool.false_ne_true) | (exact absurd h.symm Bool.false_ne_true) | (exact absurd h (by decide))))
            | refine AWP.skip ?_
            | refine AWP.ret ?_
            | refine AWP.block ?_
            | refine AWP.exit ?_
            | refine ⟨_, hgx, ?_⟩
            | refine ⟨by omega, encStr x, hx', ?_⟩
            | refine ⟨by omega, encStr y, hy', ?_⟩
            | refine AWP.parR mixed (by kernel_rfl) fun K hK => ?_
            | refine ⟨(by kernel_rfl : depB _ _ _ = true), ?_⟩
            | refine Or.inl ?_)
          | (clear hK K))
        all_goals (refine fin0 ?_; simp only [listCmp, h0, hp, hz, cond_true, cond_false])
      ·
        repeat' (first
          | (simp only [go_sem, zA, zB, zC, zD, zE, zF, zG, reduceCtorEq, zH, zI, zJ, zK, zL, List.length_map, hb, hz, encStr]; all_goals fail_if_success guard_target =ₛ False)
          | (with_reducible first
            | refine seqVC_stepN rfl fun K hK => ?_
            | refine seqVC_nil ?_
            | (refine hK _ _ _ ?_; clear hK K)
            | (refine hK _ _ ?_; clear hK K)
            | (refine hK _ ?_; clear hK K)
            | refine AWP.seq fun K hK => ?_
            | refine AWP.seqR (by kernel_rfl) fun K hK => ?_
            | refine parVC_stepN rfl fun K hK => ?_
            | refine parEVC_stepN rfl fun K hK => ?_
            | refine genVC_stepN rfl fun K hK => ?_
            | refine parVC_nil ?_
            | refine parEVC_nil ?_
            | refine genVC_nil ?_
            | (refine AWP.cond (by with_unfolding_all rfl) (fun h => ?_) (fun h => ?_); all_goals (try simp only [Bool.not_eq_true', Bool.not_eq_false'] at h); (all_goals try first | (exact absurd h Bool.false_ne_true) | (exact absurd h.symm Bool.false_ne_true) | (exact absurd h (by decide))))
            | refine AWP.skip ?_
            | refine AWP.ret ?_
            | refine AWP.block ?_
            | refine AWP.exit ?_
            | refine ⟨_, hgx, ?_⟩
            | refine ⟨by omega, encStr x, hx', ?_⟩
            | refine ⟨by omega, encStr y, hy', ?_⟩
            | refine AWP.parR mixed (by kernel_rfl) fun K hK => ?_
            | refine ⟨(by kernel_rfl : depB _ _ _ = true), ?_⟩
            | refine Or.inl ?_)
          | (clear hK K))
        all_goals (rw [hz, cond_true] at hp)
        all_goals (rw [wrap_succ hlt hlen])
        all_goals (refine ⟨(k + 1, ()), by simp only; omega, ⟨by simp only; omega, hp⟩, Gh.to [] (by repeat (first | exact trivial | refine ⟨rfl, ?_⟩ | refine ⟨by (simp only [go_sem, zA, zB, zC, zD, zE, zF, zG, reduceCtorEq, zH, zI, zJ, zK, zL, List.length_append, List.length_map, List.length_cons, List.length_nil, Nat.zero_add]) <;> rfl, ?_⟩)) (by repeat (first | exact trivial | refine ⟨rfl, ?_⟩ | refine ⟨by (simp only [go_sem, zA, zB, zC, zD, zE, zF, zG, reduceCtorEq, zH, zI, zJ, zK, zL, List.length_append, List.length_map, List.length_cons, List.length_nil, Nat.zero_add]) <;> rfl, ?_⟩)) rfl rfl rfl⟩)
    · have hb : decide ((k : Int) < (a.length : Int)) = false := by simpa using hlt
      rw [List.drop_eq_nil_of_le (show a.length ≤ k by omega), firstC_nil] at hp
      repeat' (first
        | (simp only [go_sem, zA, zB, zC, zD, zE, zF, zG, reduceCtorEq, zH, zI, zJ, zK, zL, List.length_map, hb]; all_goals fail_if_success guard_target =ₛ False)
        | (with_reducible first
          | refine seqVC_stepN rfl fun K hK => ?_
          | refine seqVC_nil ?_
          | (refine hK _ _ _ ?_; clear hK K)
          | (refine hK _ _ ?_; clear hK K)
          | (refine hK _ ?_; clear hK K)
          | refine AWP.seq fun K hK => ?_
          | refine AWP.seqR (by kernel_rfl) fun K hK => ?_
          | refine parVC_stepN rfl fun K hK => ?_
          | refine parEVC_stepN rfl fun K hK => ?_
          | refine genVC_stepN rfl fun K hK => ?_
          | refine parVC_nil ?_
          | refine parEVC_nil ?_
          | refine genVC_nil ?_
          | (refine AWP.cond (by with_unfolding_all rfl) (fun h => ?_) (fun h => ?_); all_goals (try simp only [Bool.not_eq_true', Bool.not_eq_false'] at h); (all_goals try first | (exact absurd h Bool.false_ne_true) | (exact absurd h.symm Bool.false_ne_true) | (exact absurd h (by decide))))
          | refine AWP.skip ?_
          | refine AWP.ret ?_
          | refine AWP.block ?_
          | refine AWP.exit ?_
          | refine AWP.parR mixed (by kernel_rfl) fun K hK => ?_
          | refine ⟨(by kernel_rfl : depB _ _ _ = true), ?_⟩
          | refine Or.inl ?_)
        | (clear hK K))
      all_goals (refine fin0 ?_; simp only [listCmp, h0, hp, cond_true])

end Go.Proofs.Ytmpfdejckbceiaa
set_option linter.unusedSimpArgs false
set_option linter.unusedVariables false
set_option maxRecDepth 20000
set_option maxHeartbeats 1000000
namespace Go.Proofs.Ytmpfdejckbceiaa
open Go Go.Sx
open Nat renaming reduceBEq → zA, reduceBNe → zB, reduceAdd → zC, reduceSub → zD, reduceMul → zE, reduceLeDiff → zF, reduceLT → zG, reduceEqDiff → zH
open Int renaming reduceToNat → zI, reduceLE → zJ, reduceLT → zK, reduceEq → zL
/-- the entry below strings.Compare -/
theorem cmpString_calls (a b : ByteArray) (w : World) :
    Calls Try.prog 118 #[.string a, .string b] w fun e w' => e = .returned (.int .i64 (Lib.compareBytes a.data.toList b.data.toList)) ∧ w' = w := by
  go_enter Try.func118, Try.ntmps118
  go_wp2
  rw [run_callFunc_extern Try.func133 (by kernel_rfl) (by kernel_rfl) (by kernel_rfl) (e := Extern.BytealgCompare.compare) (by kernel_rfl), Lib.run_compareString]
  simp only [Result.andThen]
  rw [Oper.upon_value]
  go_wp2
  go_ret
  exact ⟨rfl, rfl⟩
theorem cmpString_c (a b : List UInt8) : PC Try.prog 118 [S a, S b] (I .i64 (Lib.compareBytes a b)) := by
  refine ⟨⟨_, Try.func118, rfl, rfl⟩, fun M ν w vs hs hr => ?_⟩
  simp only [T.reps, T.rep, Cell.rep, C.rep] at hr
  obtain ⟨v1, vs1, rfl, rfl, v2, vs2, rfl, rfl, rfl⟩ := hr
  refine Calls.mono (cmpString_calls ⟨a.toArray⟩ ⟨b.toArray⟩ w) ?_
  rintro e w' ⟨rfl, rfl⟩
  exact ⟨_, M, rfl, Mem.ext.refl _ M, by simp only [T.rep, Cell.rep, C.rep], hs⟩
theorem stringsCompare_c (a b : List UInt8) : PC Try.prog 88 [S a, S b] (I .i64 (Lib.compareBytes a b)) := by
  refine PCB.of_body Try.func88 rfl (by decide) Try.ntmps88 Try.results88 rfl rfl rfl ?_ rfl rfl
  repeat' (first
    | (simp only [go_sem, zA, zB, zC, zD, zE, zF, zG, reduceCtorEq, zH, zI, zJ, zK, zL]; all_goals fail_if_success guard_target =ₛ False)
    | (with_reducible first
      | refine seqVC_stepN rfl fun K hK => ?_
      | refine seqVC_nil ?_
      | (refine hK _ _ _ ?_; clear hK K)
      | (refine hK _ _ ?_; clear hK K)
      | (refine hK _ ?_; clear hK K)
      | refine AWP.seq fun K hK => ?_
      | refine AWP.seqR (by kernel_rfl) fun K hK => ?_
      | (refine AWP.cond (by with_unfolding_all rfl) (fun h => ?_) (fun h => ?_); all_goals (try simp only [Bool.not_eq_true', Bool.not_eq_false'] at h); (all_goals try first | (exact absurd h Bool.false_ne_true) | (exact absurd h.symm Bool.false_ne_true) | (exact absurd h (by decide))))
      | refine AWP.skip ?_
      | refine AWP.ret ?_
      | refine AWP.block ?_
      | refine AWP.exit ?_
      | refine ⟨_, cmpString_c _ _, ?_⟩
      | refine Or.inl ?_)
    | (clear hK K))
  all_goals (first | exact fun _ h => (by cases h) | refine fin0 ?_)
  all_goals rfl
theorem cmpB_zero : ∀ {a b : List UInt8}, Lib.compareBytes a b = 0 ↔ a = b
  | [], [] => by simp [Lib.compareBytes]
  | [], _ :: _ => by simp [Lib.compareBytes]
  | _ :: _, [] => by simp [Lib.compareBytes]
  | x :: a, y :: b => by
    unfold Lib.compareBytes
    by_cases h1 : x < y
    · simp only [h1, if_true]
      constructor
      · intro h; cases h
      · intro h; cases h; exact absurd h1 (by simp)
    · by_cases h2 : y < x
      · simp only [h1, h2, if_true, if_false]
        constructor
        · intro h; cases h
        · intro h; cases h; exact absurd h2 (by simp)
      · have hxy : x = y := UInt8.le_antisymm (UInt8.not_lt.1 h2) (UInt8.not_lt.1 h1)
        subst hxy
        have ih := @cmpB_zero a b
        simp only [h1, if_false, ih, List.cons.injEq, true_and]
def chainC (a b : Int) : Int := bif decide (a = 0) then b else a
theorem chainC_zero {a b : Int} : chainC a b = 0 ↔ a = 0 ∧ b = 0 := by
  unfold chainC
  by_cases h : a = 0 <;> simp [h]
def keyC (a b : KeyD) : Int := chainC (cmpI a.kind b.kind) (Lib.compareBytes a.text b.text)
theorem identCompareKeys_c (a b : KeyD) : PC Try.prog 57 [.st (encKey a), .st (encKey b)] (I .i64 (keyC a b)) := by
  refine PCB.of_body Try.func57 rfl (by decide) Try.ntmps57 Try.results57 rfl rfl rfl ?_ rfl rfl
  cases hz0 : decide (cmpI a.kind b.kind = 0)
  repeat' (first
    | (simp only [go_sem, zA, zB, zC, zD, zE, zF, zG, reduceCtorEq, zH, zI, zJ, zK, zL, encKey, hz0]; all_goals fail_if_success guard_target =ₛ False)
    | (with_reducible first
      | refine seqVC_stepN rfl fun K hK => ?_
      | refine seqVC_nil ?_
      | (refine hK _ _ _ ?_; clear hK K)
      | (refine hK _ _ ?_; clear hK K)
      | (refine hK _ ?_; clear hK K)
      | refine AWP.seq fun K hK => ?_
      | refine AWP.seqR (by kernel_rfl) fun K hK => ?_
      | (refine AWP.cond (by with_unfolding_all rfl) (fun h => ?_) (fun h => ?_); all_goals (try simp only [Bool.not_eq_true', Bool.not_eq_false'] at h); (all_goals try first | (exact absurd h Bool.false_ne_true) | (exact absurd h.symm Bool.false_ne_true) | (exact absurd h (by decide))))
      | refine AWP.skip ?_
      | refine AWP.ret ?_
      | refine AWP.block ?_
      | refine AWP.exit ?_
      | refine ⟨_, cmpInt_c _ _, ?_⟩
      | refine ⟨_, stringsCompare_c _ _, ?_⟩
      | refine Or.inl ?_)
    | (clear hK K))
  all_goals (refine fin0 ?_; simp only [keyC, chainC, hz0, cond_true, cond_false])

mutual
def valC : Val → Val → Int
  | ⟨kind, num, text, kids, keys, ents, labels⟩, b => chainC (cmpI kind b.kind) (chainC (cmpI num b.num) (chainC (Lib.compareBytes text b.text) (chainC (listCmp keyC keys b.keys) (chainC (bif decide (cmpI kids.length b.kids.length = 0) then valsC kids b.kids else cmpI kids.length b.kids.length)
      (chainC (bif decide (cmpI ents.length b.ents.length = 0) then entsC ents b.ents else cmpI ents.length b.ents.length) (listCmp Lib.compareBytes labels b.labels))))))
def valsC : List Val → List Val → Int
  | [], _ => 0
  | x :: a, l => match l with
    | [] => 0
    | y :: b => bif decide (valC x y = 0) then valsC a b else valC x y
def entC : List Val × Bool × Val → List Val × Bool × Val → Int
  | (args, fails, result), e => chainC (bif decide (cmpI args.length e.1.length = 0) then valsC args e.1 else cmpI args.length e.1.length) (bif (fails == e.2.1) then valC result e.2.2 else (bif fails then -1 else 1))
def entsC : List (List Val × Bool × Val) → List (List Val × Bool × Val) → Int
  | [], _ => 0
  | x :: a, l => match l with
    | [] => 0
    | y :: b => bif decide (entC x y = 0) then entsC a b else entC x y
end
theorem valsC_eq : ∀ a b : List Val, valsC a b = firstC valC a b
  | [], b => by cases b <;> simp only [valsC, entsC, firstC]
  | x :: a, [] => by simp only [valsC, firstC]
  | x :: a, y :: b => by simp only [valsC, firstC, valsC_eq a b]
theorem entsC_eq : ∀ a b : List (List Val × Bool × Val), entsC a b = firstC entC a b
  | [], b => by cases b <;> simp only [valsC, entsC, firstC]
  | x :: a, [] => by simp only [entsC, firstC]
  | x :: a, y :: b => by simp only [entsC, firstC, entsC_eq a b]
theorem valC_eq (a b : Val) : valC a b = chainC (cmpI a.kind b.kind) (chainC (cmpI a.num b.num) (chainC (Lib.compareBytes a.text b.text) (chainC (listCmp keyC a.keys b.keys) (chainC (listCmp valC a.kids b.kids) (chainC (listCmp entC a.ents b.ents) (listCmp Lib.compareBytes a.labels b.labels)))))) := by
  cases a; simp only [valC, valsC_eq, entsC_eq, listCmp]
theorem entC_eq (a b : List Val × Bool × Val) : entC a b = chainC (listCmp valC a.1 b.1) (bif (a.2.1 == b.2.1) then valC a.2.2 b.2.2 else (bif a.2.1 then -1 else 1)) := by
  obtain ⟨x, y, z⟩ := a; simp only [entC, valsC_eq, listCmp]

theorem compareValues_c (a b : List Val) (h : ∀ x ∈ a, ∀ y, PC Try.prog 63 [.st (encVal x), .st (encVal y)] (I .i64 (valC x y))) :
    PC Try.prog 98 [.one (.dat (.sl 7 (a.map encVal))), .one (.dat (.sl 7 (b.map encVal)))] (I .i64 (listCmp valC a b)) := by
  refine PCB.of_body Try.func98 rfl (by decide) Try.ntmps98 Try.results98 rfl rfl rfl ?_ rfl rfl
  repeat' (first
    | (simp only [go_sem, zA, zB, zC, zD, zE, zF, zG, reduceCtorEq, zH, zI, zJ, zK, zL]; all_goals fail_if_success guard_target =ₛ False)
    | (with_reducible first
      | refine seqVC_stepN rfl fun K hK => ?_
      | refine seqVC_nil ?_
      | (refine hK _ _ _ ?_; clear hK K)
      | (refine hK _ _ ?_; clear hK K)
      | (refine hK _ ?_; clear hK K)
      | refine AWP.seq fun K hK => ?_
      | refine AWP.seqR (by kernel_rfl) fun K hK => ?_
      | (refine AWP.cond (by with_unfolding_all rfl) (fun h => ?_) (fun h => ?_); all_goals (try simp only [Bool.not_eq_true', Bool.not_eq_false'] at h); (all_goals try first | (exact absurd h Bool.false_ne_true) | (exact absurd h.symm Bool.false_ne_true) | (exact absurd h (by decide))))
      | refine AWP.skip ?_
      | refine AWP.ret ?_
      | refine AWP.block ?_
      | refine AWP.exit ?_
      | refine ⟨_, cmpVals_c 63 valC a b (fun x hx y _ => h x hx y), ?_⟩
      | refine Or.inl ?_)
    | (clear hK K))
  all_goals (first | exact fun _ h => (by cases h) | refine fin0 ?_)
  all_goals rfl
theorem compareEntries_c (a b : List Val × Bool × Val) (h : ∀ x ∈ a.1, ∀ y, PC Try.prog 63 [.st (encVal x), .st (encVal y)] (I .i64 (valC x y))) (h2 : ∀ y, PC Try.prog 63 [.st (encVal a.2.2), .st (encVal y)] (I .i64 (valC a.2.2 y))) :
    PC Try.prog 100 [.st (encEnt a), .st (encEnt b)] (I .i64 (entC a b)) := by
  refine PCB.of_body Try.func100 rfl (by decide) Try.ntmps100 Try.results100 rfl rfl rfl ?_ rfl rfl
  have h3 := h2 b.2.2
  rw [encVal_eq, encVal_eq] at h3
  cases h0 : decide (listCmp valC a.1 b.1 = 0)
  ·
    repeat' (first
      | (simp only [go_sem, zA, zB, zC, zD, zE, zF, zG, reduceCtorEq, zH, zI, zJ, zK, zL, encEnt_eq, h0]; all_goals fail_if_success guard_target =ₛ False)
      | (with_reducible first
        | refine seqVC_stepN rfl fun K hK => ?_
        | refine seqVC_nil ?_
        | (refine hK _ _ _ ?_; clear hK K)
        | (refine hK _ _ ?_; clear hK K)
        | (refine hK _ ?_; clear hK K)
        | refine AWP.seq fun K hK => ?_
        | refine AWP.seqR (by kernel_rfl) fun K hK => ?_
        | (refine AWP.cond (by with_unfolding_all rfl) (fun h => ?_) (fun h => ?_); all_goals (try simp only [Bool.not_eq_true', Bool.not_eq_false'] at h); (all_goals try first | (exact absurd h Bool.false_ne_true) | (exact absurd h.symm Bool.false_ne_true) | (exact absurd h (by decide))))
        | refine AWP.skip ?_
        | refine AWP.ret ?_
        | refine AWP.block ?_
        | refine AWP.exit ?_
        | refine ⟨_, compareValues_c a.1 b.1 h, ?_⟩
        | refine Or.inl ?_)
      | (clear hK K))
    all_goals (refine fin0 ?_; simp only [entC_eq, chainC, h0, cond_true, cond_false])
  cases hd : (a.2.1 == b.2.1)
  · cases hf : a.2.1
    ·
      rw [hf] at hd
      repeat' (first
        | (simp only [go_sem, zA, zB, zC, zD, zE, zF, zG, reduceCtorEq, zH, zI, zJ, zK, zL, encEnt_eq, h0, hd, hf]; all_goals fail_if_success guard_target =ₛ False)
        | (with_reducible first
          | refine seqVC_stepN rfl fun K hK => ?_
          | refine seqVC_nil ?_
          | (refine hK _ _ _ ?_; clear hK K)
          | (refine hK _ _ ?_; clear hK K)
          | (refine hK _ ?_; clear hK K)
          | refine AWP.seq fun K hK => ?_
          | refine AWP.seqR (by kernel_rfl) fun K hK => ?_
          | (refine AWP.cond (by with_unfolding_all rfl) (fun h => ?_) (fun h => ?_); all_goals (try simp only [Bool.not_eq_true', Bool.not_eq_false'] at h); (all_goals try first | (exact absurd h Bool.false_ne_true) | (exact absurd h.symm Bool.false_ne_true) | (exact absurd h (by decide))))
          | refine AWP.skip ?_
          | refine AWP.ret ?_
          | refine AWP.block ?_
          | refine AWP.exit ?_
          | refine ⟨_, compareValues_c a.1 b.1 h, ?_⟩
          | refine ⟨_, h3, ?_⟩
          | refine Or.inl ?_)
        | (clear hK K))
      all_goals (refine fin0 ?_; simp only [entC_eq, chainC, h0, hd, hf, cond_true, cond_false, Bool.not_true, Bool.not_false])
    ·
      rw [hf] at hd
      repeat' (first
        | (simp only [go_sem, zA, zB, zC, zD, zE, zF, zG, reduceCtorEq, zH, zI, zJ, zK, zL, encEnt_eq, h0, hd, hf]; all_goals fail_if_success guard_target =ₛ False)
        | (with_reducible first
          | refine seqVC_stepN rfl fun K hK => ?_
          | refine seqVC_nil ?_
          | (refine hK _ _ _ ?_; clear hK K)
          | (refine hK _ _ ?_; clear hK K)
          | (refine hK _ ?_; clear hK K)
          | refine AWP.seq fun K hK => ?_
          | refine AWP.seqR (by kernel_rfl) fun K hK => ?_
          | (refine AWP.cond (by with_unfolding_all rfl) (fun h => ?_) (fun h => ?_); all_goals (try simp only [Bool.not_eq_true', Bool.not_eq_false'] at h); (all_goals try first | (exact absurd h Bool.false_ne_true) | (exact absurd h.symm Bool.false_ne_true) | (exact absurd h (by decide))))
          | refine AWP.skip ?_
          | refine AWP.ret ?_
          | refine AWP.block ?_
          | refine AWP.exit ?_
          | refine ⟨_, compareValues_c a.1 b.1 h, ?_⟩
          | refine ⟨_, h3, ?_⟩
          | refine Or.inl ?_)
        | (clear hK K))
      all_goals (refine fin0 ?_; simp only [entC_eq, chainC, h0, hd, hf, cond_true, cond_false, Bool.not_true, Bool.not_false])
  ·
    repeat' (first
      | (simp only [go_sem, zA, zB, zC, zD, zE, zF, zG, reduceCtorEq, zH, zI, zJ, zK, zL, encEnt_eq, h0, hd]; all_goals fail_if_success guard_target =ₛ False)
      | (with_reducible first
        | refine seqVC_stepN rfl fun K hK => ?_
        | refine seqVC_nil ?_
        | (refine hK _ _ _ ?_; clear hK K)
        | (refine hK _ _ ?_; clear hK K)
        | (refine hK _ ?_; clear hK K)
        | refine AWP.seq fun K hK => ?_
        | refine AWP.seqR (by kernel_rfl) fun K hK => ?_
        | (refine AWP.cond (by with_unfolding_all rfl) (fun h => ?_) (fun h => ?_); all_goals (try simp only [Bool.not_eq_true', Bool.not_eq_false'] at h); (all_goals try first | (exact absurd h Bool.false_ne_true) | (exact absurd h.symm Bool.false_ne_true) | (exact absurd h (by decide))))
        | refine AWP.skip ?_
        | refine AWP.ret ?_
        | refine AWP.block ?_
        | refine AWP.exit ?_
        | refine ⟨_, compareValues_c a.1 b.1 h, ?_⟩
        | refine ⟨_, h3, ?_⟩
        | refine Or.inl ?_)
      | (clear hK K))
    all_goals (refine fin0 ?_; simp only [entC_eq, chainC, h0, hd, cond_true, cond_false, Bool.not_true, Bool.not_false])

theorem compare_c (a b : Val) : PC Try.prog 63 [.st (encVal a), .st (encVal b)] (I .i64 (valC a b)) := by
  have hk : ∀ x ∈ a.kids, ∀ y, PC Try.prog 63 [.st (encVal x), .st (encVal y)] (I .i64 (valC x y)) := fun x hx y => compare_c x y
  have he : ∀ e ∈ a.ents, ∀ y, PC Try.prog 100 [.st (encEnt e), .st (encEnt y)] (I .i64 (entC e y)) := fun e he y => compareEntries_c e y (fun x hx y => compare_c x y) (fun y => compare_c e.2.2 y)
  refine PCB.of_body Try.func63 rfl (by decide) Try.ntmps63 Try.results63 rfl rfl rfl ?_ rfl rfl
  cases z1 : decide (cmpI a.kind b.kind = 0)
  ·
    repeat' (first
      | (simp only [go_sem, zA, zB, zC, zD, zE, zF, zG, reduceCtorEq, zH, zI, zJ, zK, zL, encVal_eq, z1]; all_goals fail_if_success guard_target =ₛ False)
      | (with_reducible first
        | refine seqVC_stepN rfl fun K hK => ?_
        | refine seqVC_nil ?_
        | (refine hK _ _ _ ?_; clear hK K)
        | (refine hK _ _ ?_; clear hK K)
        | (refine hK _ ?_; clear hK K)
        | refine AWP.seq fun K hK => ?_
        | refine AWP.seqR (by kernel_rfl) fun K hK => ?_
        | (refine AWP.cond (by with_unfolding_all rfl) (fun h => ?_) (fun h => ?_); all_goals (try simp only [Bool.not_eq_true', Bool.not_eq_false'] at h); (all_goals try first | (exact absurd h Bool.false_ne_true) | (exact absurd h.symm Bool.false_ne_true) | (exact absurd h (by decide))))
        | refine AWP.skip ?_
        | refine AWP.ret ?_
        | refine AWP.block ?_
        | refine AWP.exit ?_
        | refine ⟨_, cmpInt_c _ _, ?_⟩
        | refine ⟨_, cmpInt64_c _ _, ?_⟩
        | refine ⟨_, stringsCompare_c _ _, ?_⟩
        | refine ⟨_, cmpKeys_c 57 keyC a.keys b.keys (fun x _ y _ => identCompareKeys_c x y), ?_⟩
        | refine ⟨_, compareValues_c a.kids b.kids hk, ?_⟩
        | refine ⟨_, cmpEnts_c 100 entC a.ents b.ents (fun x hx y _ => he x hx y), ?_⟩
        | refine ⟨_, cmpStrs_c 88 Lib.compareBytes a.labels b.labels (fun x _ y _ => stringsCompare_c x y), ?_⟩
        | refine Or.inl ?_)
      | (clear hK K))
    all_goals (refine fin0 ?_; simp only [valC_eq, chainC, z1, cond_true, cond_false])
  cases z2 : decide (cmpI a.num b.num = 0)
  ·
    repeat' (first
      | (simp only [go_sem, zA, zB, zC, zD, zE, zF, zG, reduceCtorEq, zH, zI, zJ, zK, zL, encVal_eq, z1, z2]; all_goals fail_if_success guard_target =ₛ False)
      | (with_reducible first
        | refine seqVC_stepN rfl fun K hK => ?_
        | refine seqVC_nil ?_
        | (refine hK _ _ _ ?_; clear hK K)
        | (refine hK _ _ ?_; clear hK K)
        | (refine hK _ ?_; clear hK K)
        | refine AWP.seq fun K hK => ?_
        | refine AWP.seqR (by kernel_rfl) fun K hK => ?_
        | (refine AWP.cond (by with_unfolding_all rfl) (fun h => ?_) (fun h => ?_); all_goals (try simp only [Bool.not_eq_true', Bool.not_eq_false'] at h); (all_goals try first | (exact absurd h Bool.false_ne_true) | (exact absurd h.symm Bool.false_ne_true) | (exact absurd h (by decide))))
        | refine AWP.skip ?_
        | refine AWP.ret ?_
        | refine AWP.block ?_
        | refine AWP.exit ?_
        | refine ⟨_, cmpInt_c _ _, ?_⟩
        | refine ⟨_, cmpInt64_c _ _, ?_⟩
        | refine ⟨_, stringsCompare_c _ _, ?_⟩
        | refine ⟨_, cmpKeys_c 57 keyC a.keys b.keys (fun x _ y _ => identCompareKeys_c x y), ?_⟩
        | refine ⟨_, compareValues_c a.kids b.kids hk, ?_⟩
        | refine ⟨_, cmpEnts_c 100 entC a.ents b.ents (fun x hx y _ => he x hx y), ?_⟩
        | refine ⟨_, cmpStrs_c 88 Lib.compareBytes a.labels b.labels (fun x _ y _ => stringsCompare_c x y), ?_⟩
        | refine Or.inl ?_)
      | (clear hK K))
    all_goals (refine fin0 ?_; simp only [valC_eq, chainC, z1, z2, cond_true, cond_false])
  cases z3 : decide (Lib.compareBytes a.text b.text = 0)
  ·
    repeat' (first
      | (simp only [go_sem, zA, zB, zC, zD, zE, zF, zG, reduceCtorEq, zH, zI, zJ, zK, zL, encVal_eq, z1, z2, z3]; all_goals fail_if_success guard_target =ₛ False)
      | (with_reducible first
        | refine seqVC_stepN rfl fun K hK => ?_
        | refine seqVC_nil ?_
        | (refine hK _ _ _ ?_; clear hK K)
        | (refine hK _ _ ?_; clear hK K)
        | (refine hK _ ?_; clear hK K)
        | refine AWP.seq fun K hK => ?_
        | refine AWP.seqR (by kernel_rfl) fun K hK => ?_
        | (refine AWP.cond (by with_unfolding_all rfl) (fun h => ?_) (fun h => ?_); all_goals (try simp only [Bool.not_eq_true', Bool.not_eq_false'] at h); (all_goals try first | (exact absurd h Bool.false_ne_true) | (exact absurd h.symm Bool.false_ne_true) | (exact absurd h (by decide))))
        | refine AWP.skip ?_
        | refine AWP.ret ?_
        | refine AWP.block ?_
        | refine AWP.exit ?_
        | refine ⟨_, cmpInt_c _ _, ?_⟩
        | refine ⟨_, cmpInt64_c _ _, ?_⟩
        | refine ⟨_, stringsCompare_c _ _, ?_⟩
        | refine ⟨_, cmpKeys_c 57 keyC a.keys b.keys (fun x _ y _ => identCompareKeys_c x y), ?_⟩
        | refine ⟨_, compareValues_c a.kids b.kids hk, ?_⟩
        | refine ⟨_, cmpEnts_c 100 entC a.ents b.ents (fun x hx y _ => he x hx y), ?_⟩
        | refine ⟨_, cmpStrs_c 88 Lib.compareBytes a.labels b.labels (fun x _ y _ => stringsCompare_c x y), ?_⟩
        | refine Or.inl ?_)
      | (clear hK K))
    all_goals (refine fin0 ?_; simp only [valC_eq, chainC, z1, z2, z3, cond_true, cond_false])
  cases z4 : decide (listCmp keyC a.keys b.keys = 0)
  ·
    repeat' (first
      | (simp only [go_sem, zA, zB, zC, zD, zE, zF, zG, reduceCtorEq, zH, zI, zJ, zK, zL, encVal_eq, z1, z2, z3, z4]; all_goals fail_if_success guard_target =ₛ False)
      | (with_reducible first
        | refine seqVC_stepN rfl fun K hK => ?_
        | refine seqVC_nil ?_
        | (refine hK _ _ _ ?_; clear hK K)
        | (refine hK _ _ ?_; clear hK K)
        | (refine hK _ ?_; clear hK K)
        | refine AWP.seq fun K hK => ?_
        | refine AWP.seqR (by kernel_rfl) fun K hK => ?_
        | (refine AWP.cond (by with_unfolding_all rfl) (fun h => ?_) (fun h => ?_); all_goals (try simp only [Bool.not_eq_true', Bool.not_eq_false'] at h); (all_goals try first | (exact absurd h Bool.false_ne_true) | (exact absurd h.symm Bool.false_ne_true) | (exact absurd h (by decide))))
        | refine AWP.skip ?_
        | refine AWP.ret ?_
        | refine AWP.block ?_
        | refine AWP.exit ?_
        | refine ⟨_, cmpInt_c _ _, ?_⟩
        | refine ⟨_, cmpInt64_c _ _, ?_⟩
        | refine ⟨_, stringsCompare_c _ _, ?_⟩
        | refine ⟨_, cmpKeys_c 57 keyC a.keys b.keys (fun x _ y _ => identCompareKeys_c x y), ?_⟩
        | refine ⟨_, compareValues_c a.kids b.kids hk, ?_⟩
        | refine ⟨_, cmpEnts_c 100 entC a.ents b.ents (fun x hx y _ => he x hx y), ?_⟩
        | refine ⟨_, cmpStrs_c 88 Lib.compareBytes a.labels b.labels (fun x _ y _ => stringsCompare_c x y), ?_⟩
        | refine Or.inl ?_)
      | (clear hK K))
    all_goals (refine fin0 ?_; simp only [valC_eq, chainC, z1, z2, z3, z4, cond_true, cond_false])
  cases z5 : decide (listCmp valC a.kids b.kids = 0)
  ·
    repeat' (first
      | (simp only [go_sem, zA, zB, zC, zD, zE, zF, zG, reduceCtorEq, zH, zI, zJ, zK, zL, encVal_eq, z1, z2, z3, z4, z5]; all_goals fail_if_success guard_target =ₛ False)
      | (with_reducible first
        | refine seqVC_stepN rfl fun K hK => ?_
        | refine seqVC_nil ?_
        | (refine hK _ _ _ ?_; clear hK K)
        | (refine hK _ _ ?_; clear hK K)
        | (refine hK _ ?_; clear hK K)
        | refine AWP.seq fun K hK => ?_
        | refine AWP.seqR (by kernel_rfl) fun K hK => ?_
        | (refine AWP.cond (by with_unfolding_all rfl) (fun h => ?_) (fun h => ?_); all_goals (try simp only [Bool.not_eq_true', Bool.not_eq_false'] at h); (all_goals try first | (exact absurd h Bool.false_ne_true) | (exact absurd h.symm Bool.false_ne_true) | (exact absurd h (by decide))))
        | refine AWP.skip ?_
        | refine AWP.ret ?_
        | refine AWP.block ?_
        | refine AWP.exit ?_
        | refine ⟨_, cmpInt_c _ _, ?_⟩
        | refine ⟨_, cmpInt64_c _ _, ?_⟩
        | refine ⟨_, stringsCompare_c _ _, ?_⟩
        | refine ⟨_, cmpKeys_c 57 keyC a.keys b.keys (fun x _ y _ => identCompareKeys_c x y), ?_⟩
        | refine ⟨_, compareValues_c a.kids b.kids hk, ?_⟩
        | refine ⟨_, cmpEnts_c 100 entC a.ents b.ents (fun x hx y _ => he x hx y), ?_⟩
        | refine ⟨_, cmpStrs_c 88 Lib.compareBytes a.labels b.labels (fun x _ y _ => stringsCompare_c x y), ?_⟩
        | refine Or.inl ?_)
      | (clear hK K))
    all_goals (refine fin0 ?_; simp only [valC_eq, chainC, z1, z2, z3, z4, z5, cond_true, cond_false])
  cases z6 : decide (listCmp entC a.ents b.ents = 0)
  ·
    repeat' (first
      | (simp only [go_sem, zA, zB, zC, zD, zE, zF, zG, reduceCtorEq, zH, zI, zJ, zK, zL, encVal_eq, z1, z2, z3, z4, z5, z6]; all_goals fail_if_success guard_target =ₛ False)
      | (with_reducible first
        | refine seqVC_stepN rfl fun K hK => ?_
        | refine seqVC_nil ?_
        | (refine hK _ _ _ ?_; clear hK K)
        | (refine hK _ _ ?_; clear hK K)
        | (refine hK _ ?_; clear hK K)
        | refine AWP.seq fun K hK => ?_
        | refine AWP.seqR (by kernel_rfl) fun K hK => ?_
        | (refine AWP.cond (by with_unfolding_all rfl) (fun h => ?_) (fun h => ?_); all_goals (try simp only [Bool.not_eq_true', Bool.not_eq_false'] at h); (all_goals try first | (exact absurd h Bool.false_ne_true) | (exact absurd h.symm Bool.false_ne_true) | (exact absurd h (by decide))))
        | refine AWP.skip ?_
        | refine AWP.ret ?_
        | refine AWP.block ?_
        | refine AWP.exit ?_
        | refine ⟨_, cmpInt_c _ _, ?_⟩
        | refine ⟨_, cmpInt64_c _ _, ?_⟩
        | refine ⟨_, stringsCompare_c _ _, ?_⟩
        | refine ⟨_, cmpKeys_c 57 keyC a.keys b.keys (fun x _ y _ => identCompareKeys_c x y), ?_⟩
        | refine ⟨_, compareValues_c a.kids b.kids hk, ?_⟩
        | refine ⟨_, cmpEnts_c 100 entC a.ents b.ents (fun x hx y _ => he x hx y), ?_⟩
        | refine ⟨_, cmpStrs_c 88 Lib.compareBytes a.labels b.labels (fun x _ y _ => stringsCompare_c x y), ?_⟩
        | refine Or.inl ?_)
      | (clear hK K))
    all_goals (refine fin0 ?_; simp only [valC_eq, chainC, z1, z2, z3, z4, z5, z6, cond_true, cond_false])
  repeat' (first
    | (simp only [go_sem, zA, zB, zC, zD, zE, zF, zG, reduceCtorEq, zH, zI, zJ, zK, zL, encVal_eq, z1, z2, z3, z4, z5, z6]; all_goals fail_if_success guard_target =ₛ False)
    | (with_reducible first
      | refine seqVC_stepN rfl fun K hK => ?_
      | refine seqVC_nil ?_
      | (refine hK _ _ _ ?_; clear hK K)
      | (refine hK _ _ ?_; clear hK K)
      | (refine hK _ ?_; clear hK K)
      | refine AWP.seq fun K hK => ?_
      | refine AWP.seqR (by kernel_rfl) fun K hK => ?_
      | (refine AWP.cond (by with_unfolding_all rfl) (fun h => ?_) (fun h => ?_); all_goals (try simp only [Bool.not_eq_true', Bool.not_eq_false'] at h); (all_goals try first | (exact absurd h Bool.false_ne_true) | (exact absurd h.symm Bool.false_ne_true) | (exact absurd h (by decide))))
      | refine AWP.skip ?_
      | refine AWP.ret ?_
      | refine AWP.block ?_
      | refine AWP.exit ?_
      | refine ⟨_, cmpInt_c _ _, ?_⟩
      | refine ⟨_, cmpInt64_c _ _, ?_⟩
      | refine ⟨_, stringsCompare_c _ _, ?_⟩
      | refine ⟨_, cmpKeys_c 57 keyC a.keys b.keys (fun x _ y _ => identCompareKeys_c x y), ?_⟩
      | refine ⟨_, compareValues_c a.kids b.kids hk, ?_⟩
      | refine ⟨_, cmpEnts_c 100 entC a.ents b.ents (fun x hx y _ => he x hx y), ?_⟩
      | refine ⟨_, cmpStrs_c 88 Lib.compareBytes a.labels b.labels (fun x _ y _ => stringsCompare_c x y), ?_⟩
      | refine Or.inl ?_)
    | (clear hK K))
  all_goals (refine fin0 ?_; simp only [valC_eq, chainC, z1, z2, z3, z4, z5, z6, cond_true, cond_false])
termination_by SizeOf.sizeOf a
decreasing_by
  · cases a; simp only at hx; have := List.sizeOf_lt_of_mem hx; simp; omega
  · cases a; simp only at he; have h1 := List.sizeOf_lt_of_mem he; have h2 := List.sizeOf_lt_of_mem hx; obtain ⟨e1, e2, e3⟩ := e; simp at h1 h2 ⊢; omega
  · cases a; simp only at he; have h1 := List.sizeOf_lt_of_mem he; obtain ⟨e1, e2, e3⟩ := e; simp at h1 ⊢; omega
theorem equal_c (a b : Val) : PC Try.prog 35 [.st (encVal a), .st (encVal b)] (Bo (decide (valC a b = 0))) := by
  refine PCB.of_body Try.func35 rfl (by decide) Try.ntmps35 Try.results35 rfl rfl rfl ?_ rfl rfl
  repeat' (first
    | (simp only [go_sem, zA, zB, zC, zD, zE, zF, zG, reduceCtorEq, zH, zI, zJ, zK, zL]; all_goals fail_if_success guard_target =ₛ False)
    | (with_reducible first
      | refine seqVC_stepN rfl fun K hK => ?_
      | refine seqVC_nil ?_
      | (refine hK _ _ _ ?_; clear hK K)
      | (refine hK _ _ ?_; clear hK K)
      | (refine hK _ ?_; clear hK K)
      | refine AWP.seq fun K hK => ?_
      | refine AWP.seqR (by kernel_rfl) fun K hK => ?_
      | (refine AWP.cond (by with_unfolding_all rfl) (fun h => ?_) (fun h => ?_); all_goals (try simp only [Bool.not_eq_true', Bool.not_eq_false'] at h); (all_goals try first | (exact absurd h Bool.false_ne_true) | (exact absurd h.symm Bool.false_ne_true) | (exact absurd h (by decide))))
      | refine AWP.skip ?_
      | refine AWP.ret ?_
      | refine AWP.block ?_
      | refine AWP.exit ?_
      | refine ⟨_, compare_c a b, ?_⟩
      | refine Or.inl ?_)
    | (clear hK K))
  all_goals (first | exact fun _ h => (by cases h) | refine fin0 ?_)
  all_goals rfl
end Go.Proofs.Ytmpfdejckbceiaa
