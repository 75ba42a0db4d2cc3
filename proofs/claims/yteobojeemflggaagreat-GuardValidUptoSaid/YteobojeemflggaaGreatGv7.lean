/- A part of the proof: lemmas about the walk of the program and about plain integers and lists. No conditions beyond those that each lemma states. -/
import Derived.Test.YteobojeemflggaaGreatGv6
set_option linter.unusedSimpArgs false
set_option linter.unusedVariables false
set_option maxRecDepth 20000
set_option maxHeartbeats 1000000
namespace Go.Proofs.YteobojeemflggaaGreat
open Go Go.Sx
open Nat renaming reduceBEq → zA, reduceBNe → zB, reduceAdd → zC, reduceSub → zD, reduceMul → zE, reduceLeDiff → zF, reduceLT → zG, reduceEqDiff → zH
open Int renaming reduceToNat → zI, reduceLE → zJ, reduceLT → zK, reduceEq → zL
open Bool renaming not_eq_true' → zM, not_eq_false' → zN
/-- names -/
def uppB (b : UInt8) : Bool := decide ((65 : Int) ≤ (b.toNat : Int)) && decide ((b.toNat : Int) ≤ 90)
theorem refUpper_c (b : UInt8) : PC Tryz.prog 124 [I .u8 b.toNat] (Bo (uppB b)) := by
  refine PCB.of_body Tryz.func124 rfl (by decide) Tryz.ntmps124 Tryz.results124 rfl rfl rfl ?_ rfl rfl
  repeat' (first | (simp only [go_sem, zA, zB, zC, zD, zE, zF, zG, reduceCtorEq, zH, zI, zJ, zK, zL]; all_goals fail_if_success guard_target =ₛ False) | (with_reducible first | ((first | refine seqVC_stepN rfl ?_ | refine seqVC_stepG rfl (by with_unfolding_all rfl) ?_ | refine AWP.seq ?_ | refine AWP.seqR (by kernel_rfl) ?_); intro K hK) | ((first | refine hK _ _ _ ?_ | refine hK _ _ ?_ | refine hK _ ?_); clear hK K) | refine seqVC_nil ?_ | refine AWP.block ?_ | (refine AWP.cond (by with_unfolding_all rfl) ?_ ?_ <;> intro h <;> (try simp only [zM, zN] at h) <;> try exact absurd h (by decide)) | refine AWP.skip ?_ | refine AWP.ret ?_ | refine AWP.exit ?_ | (refine ⟨fun h => ?_, fun h => ?_⟩ <;> (try simp only [zM, zN] at h) <;> try simp only [h]) | refine Or.inl ?_) | (clear hK K))
  all_goals (refine fin0 ?_; simp only [uppB, h, Bool.true_and, Bool.false_and])
theorem isUpper_c (b : UInt8) : PC Tryz.prog 145 [I .u8 b.toNat] (Bo (uppB b)) := by
  refine PCB.of_body Tryz.func145 rfl (by decide) Tryz.ntmps145 Tryz.results145 rfl rfl rfl ?_ rfl rfl
  repeat' (first | (simp only [go_sem, zA, zB, zC, zD, zE, zF, zG, reduceCtorEq, zH, zI, zJ, zK, zL]; all_goals fail_if_success guard_target =ₛ False) | (with_reducible first | ((first | refine seqVC_stepN rfl ?_ | refine seqVC_stepG rfl (by with_unfolding_all rfl) ?_ | refine AWP.seq ?_ | refine AWP.seqR (by kernel_rfl) ?_); intro K hK) | ((first | refine hK _ _ _ ?_ | refine hK _ _ ?_ | refine hK _ ?_); clear hK K) | refine seqVC_nil ?_ | refine AWP.block ?_ | (refine AWP.cond (by with_unfolding_all rfl) ?_ ?_ <;> intro h <;> (try simp only [zM, zN] at h) <;> try exact absurd h (by decide)) | refine AWP.skip ?_ | refine AWP.ret ?_ | refine AWP.exit ?_ | (refine ⟨fun h => ?_, fun h => ?_⟩ <;> (try simp only [zM, zN] at h) <;> try simp only [h]) | refine Or.inl ?_) | (clear hK K))
  all_goals (refine fin0 ?_; simp only [uppB, h, Bool.true_and, Bool.false_and])
theorem isLower_c (b : UInt8) : PC Tryz.prog 147 [I .u8 b.toNat] (Bo (lowB b)) := by
  refine PCB.of_body Tryz.func147 rfl (by decide) Tryz.ntmps147 Tryz.results147 rfl rfl rfl ?_ rfl rfl
  repeat' (first | (simp only [go_sem, zA, zB, zC, zD, zE, zF, zG, reduceCtorEq, zH, zI, zJ, zK, zL]; all_goals fail_if_success guard_target =ₛ False) | (with_reducible first | ((first | refine seqVC_stepN rfl ?_ | refine seqVC_stepG rfl (by with_unfolding_all rfl) ?_ | refine AWP.seq ?_ | refine AWP.seqR (by kernel_rfl) ?_); intro K hK) | ((first | refine hK _ _ _ ?_ | refine hK _ _ ?_ | refine hK _ ?_); clear hK K) | refine seqVC_nil ?_ | refine AWP.block ?_ | (refine AWP.cond (by with_unfolding_all rfl) ?_ ?_ <;> intro h <;> (try simp only [zM, zN] at h) <;> try exact absurd h (by decide)) | refine AWP.skip ?_ | refine AWP.ret ?_ | refine AWP.exit ?_ | (refine ⟨fun h => ?_, fun h => ?_⟩ <;> (try simp only [zM, zN] at h) <;> try simp only [h]) | refine Or.inl ?_) | (clear hK K))
  all_goals (refine fin0 ?_; simp only [lowB, h, Bool.true_and, Bool.false_and])
theorem isDigit_c (b : UInt8) : PC Tryz.prog 148 [I .u8 b.toNat] (Bo (digB b)) := by
  refine PCB.of_body Tryz.func148 rfl (by decide) Tryz.ntmps148 Tryz.results148 rfl rfl rfl ?_ rfl rfl
  repeat' (first | (simp only [go_sem, zA, zB, zC, zD, zE, zF, zG, reduceCtorEq, zH, zI, zJ, zK, zL]; all_goals fail_if_success guard_target =ₛ False) | (with_reducible first | ((first | refine seqVC_stepN rfl ?_ | refine seqVC_stepG rfl (by with_unfolding_all rfl) ?_ | refine AWP.seq ?_ | refine AWP.seqR (by kernel_rfl) ?_); intro K hK) | ((first | refine hK _ _ _ ?_ | refine hK _ _ ?_ | refine hK _ ?_); clear hK K) | refine seqVC_nil ?_ | refine AWP.block ?_ | (refine AWP.cond (by with_unfolding_all rfl) ?_ ?_ <;> intro h <;> (try simp only [zM, zN] at h) <;> try exact absurd h (by decide)) | refine AWP.skip ?_ | refine AWP.ret ?_ | refine AWP.exit ?_ | (refine ⟨fun h => ?_, fun h => ?_⟩ <;> (try simp only [zM, zN] at h) <;> try simp only [h]) | refine Or.inl ?_) | (clear hK K))
  all_goals (refine fin0 ?_; simp only [digB, h, Bool.true_and, Bool.false_and])
theorem atomTail_c (b : UInt8) : PC Tryz.prog 149 [I .u8 b.toNat] (Bo (tailB b)) := by
  refine PCB.of_body Tryz.func149 rfl (by decide) Tryz.ntmps149 Tryz.results149 rfl rfl rfl ?_ rfl rfl
  repeat' (first | (simp only [go_sem, zA, zB, zC, zD, zE, zF, zG, reduceCtorEq, zH, zI, zJ, zK, zL]; all_goals fail_if_success guard_target =ₛ False) | (with_reducible first | ((first | refine seqVC_stepN rfl ?_ | refine seqVC_stepG rfl (by with_unfolding_all rfl) ?_ | refine AWP.seq ?_ | refine AWP.seqR (by kernel_rfl) ?_); intro K hK) | ((first | refine hK _ _ _ ?_ | refine hK _ _ ?_ | refine hK _ ?_); clear hK K) | refine seqVC_nil ?_ | refine AWP.block ?_ | (refine AWP.cond (by with_unfolding_all rfl) ?_ ?_ <;> intro h <;> (try simp only [zM, zN] at h) <;> try exact absurd h (by decide)) | refine AWP.skip ?_ | refine AWP.ret ?_ | refine AWP.exit ?_ | (refine ⟨fun h => ?_, fun h => ?_⟩ <;> (try simp only [zM, zN] at h) <;> try simp only [h]) | refine ⟨_, isLower_c _, ?_⟩ | refine ⟨_, isDigit_c _, ?_⟩ | refine Or.inl ?_) | (clear hK K))
  all_goals (refine fin0 ?_; simp only [tailB, *, Bool.true_or, Bool.false_or])
def vtailB (b : UInt8) : Bool := lowB b || (uppB b || (digB b || decide ((b.toNat : Int) = 95)))
theorem varTail_c (b : UInt8) : PC Tryz.prog 146 [I .u8 b.toNat] (Bo (vtailB b)) := by
  refine PCB.of_body Tryz.func146 rfl (by decide) Tryz.ntmps146 Tryz.results146 rfl rfl rfl ?_ rfl rfl
  repeat' (first | (simp only [go_sem, zA, zB, zC, zD, zE, zF, zG, reduceCtorEq, zH, zI, zJ, zK, zL]; all_goals fail_if_success guard_target =ₛ False) | (with_reducible first | ((first | refine seqVC_stepN rfl ?_ | refine seqVC_stepG rfl (by with_unfolding_all rfl) ?_ | refine AWP.seq ?_ | refine AWP.seqR (by kernel_rfl) ?_); intro K hK) | ((first | refine hK _ _ _ ?_ | refine hK _ _ ?_ | refine hK _ ?_); clear hK K) | refine seqVC_nil ?_ | refine AWP.block ?_ | (refine AWP.cond (by with_unfolding_all rfl) ?_ ?_ <;> intro h <;> (try simp only [zM, zN] at h) <;> try exact absurd h (by decide)) | refine AWP.skip ?_ | refine AWP.ret ?_ | refine AWP.exit ?_ | (refine ⟨fun h => ?_, fun h => ?_⟩ <;> (try simp only [zM, zN] at h) <;> try simp only [h]) | refine ⟨_, isLower_c _, ?_⟩ | refine ⟨_, isDigit_c _, ?_⟩ | refine ⟨_, isUpper_c _, ?_⟩ | refine Or.inl ?_) | (clear hK K))
  all_goals (refine fin0 ?_; simp only [vtailB, *, Bool.true_or, Bool.false_or])
def nameB (p q : UInt8 → Bool) (s : List UInt8) : Bool := !(decide ((s.length : Int) < 1) || (decide ((16 : Int) < (s.length : Int)) || !p (s.headD 0))) && (s.drop 1).all q
theorem isName_c (s : List UInt8) (g h : FuncId) (p q : UInt8 → Bool) (hg : ∀ b : UInt8, PC Tryz.prog g [I .u8 b.toNat] (Bo (p b))) (hh : ∀ b : UInt8, PC Tryz.prog h [I .u8 b.toNat] (Bo (q b))) :
    PC Tryz.prog 144 [S s, .one (.dat (.fn g)), .one (.dat (.fn h))] (Bo (nameB p q s)) := by
  refine PCB.of_body Tryz.func144 rfl (by decide) Tryz.ntmps144 Tryz.results144 rfl rfl rfl ?_ rfl rfl
  cases hl1 : decide ((s.length : Int) < 1) with
  | true =>
    repeat' (first | (simp only [go_sem, zA, zB, zC, zD, zE, zF, zG, reduceCtorEq, zH, zI, zJ, zK, zL, hl1]; all_goals fail_if_success guard_target =ₛ False) | (with_reducible first | ((first | refine seqVC_stepN rfl ?_ | refine seqVC_stepG rfl (by with_unfolding_all rfl) ?_ | refine AWP.seq ?_ | refine AWP.seqR (by kernel_rfl) ?_); intro K hK) | ((first | refine hK _ _ _ ?_ | refine hK _ _ ?_ | refine hK _ ?_); clear hK K) | refine seqVC_nil ?_ | refine AWP.block ?_ | (refine AWP.cond (by with_unfolding_all rfl) ?_ ?_ <;> intro h <;> (try simp only [zM, zN] at h) <;> try exact absurd h (by decide)) | refine AWP.skip ?_ | refine AWP.ret ?_ | refine AWP.exit ?_ | (refine ⟨fun h => ?_, fun h => ?_⟩ <;> (try simp only [zM, zN] at h) <;> try simp only [h]) | refine Or.inl ?_) | (clear hK K))
    all_goals (first | exact fun _ h => (by cases h) | refine fin0 ?_)
    all_goals simp only [nameB, hl1, Bool.true_or, Bool.not_true, Bool.false_and]
  | false =>
    have hpos : 0 < s.length := by simp only [decide_eq_false_iff_not] at hl1; omega
    obtain ⟨b, hb0⟩ : ∃ b, s[0]? = some b := ⟨s[0], by simp [hpos]⟩
    have hhd : s.headD 0 = b := by cases s <;> simp at hb0 hpos ⊢; exact hb0
    cases hlong : decide ((16 : Int) < (s.length : Int)) with
    | true =>
      repeat' (first | (simp only [go_sem, zA, zB, zC, zD, zE, zF, zG, reduceCtorEq, zH, zI, zJ, zK, zL, hl1, hlong]; all_goals fail_if_success guard_target =ₛ False) | (with_reducible first | ((first | refine seqVC_stepN rfl ?_ | refine seqVC_stepG rfl (by with_unfolding_all rfl) ?_ | refine AWP.seq ?_ | refine AWP.seqR (by kernel_rfl) ?_); intro K hK) | ((first | refine hK _ _ _ ?_ | refine hK _ _ ?_ | refine hK _ ?_); clear hK K) | refine seqVC_nil ?_ | refine AWP.block ?_ | (refine AWP.cond (by with_unfolding_all rfl) ?_ ?_ <;> intro h <;> (try simp only [zM, zN] at h) <;> try exact absurd h (by decide)) | refine AWP.skip ?_ | refine AWP.ret ?_ | refine AWP.exit ?_ | (refine ⟨fun h => ?_, fun h => ?_⟩ <;> (try simp only [zM, zN] at h) <;> try simp only [h]) | refine Or.inl ?_) | (clear hK K))
      all_goals (first | exact fun _ h => (by cases h) | refine fin0 ?_)
      all_goals simp only [nameB, hlong, Bool.true_or, Bool.or_true, Bool.not_true, Bool.false_and]
    | false =>
      have hlen : s.length ≤ 9223372036854775807 := by simp only [decide_eq_false_iff_not] at hlong; omega
      cases hlow : p b with
      | false =>
        repeat' (first | (simp only [go_sem, zA, zB, zC, zD, zE, zF, zG, reduceCtorEq, zH, zI, zJ, zK, zL, hl1, hlong, hlow]; all_goals fail_if_success guard_target =ₛ False) | (with_reducible first | ((first | refine seqVC_stepN rfl ?_ | refine seqVC_stepG rfl (by with_unfolding_all rfl) ?_ | refine AWP.seq ?_ | refine AWP.seqR (by kernel_rfl) ?_); intro K hK) | ((first | refine hK _ _ _ ?_ | refine hK _ _ ?_ | refine hK _ ?_); clear hK K) | refine seqVC_nil ?_ | refine AWP.block ?_ | (refine AWP.cond (by with_unfolding_all rfl) ?_ ?_ <;> intro h <;> (try simp only [zM, zN] at h) <;> try exact absurd h (by decide)) | refine AWP.skip ?_ | refine AWP.ret ?_ | refine AWP.exit ?_ | (refine ⟨fun h => ?_, fun h => ?_⟩ <;> (try simp only [zM, zN] at h) <;> try simp only [h]) | refine ⟨_, hg b, ?_⟩ | refine ⟨by omega, b, hb0, ?_⟩ | refine ⟨b, hb0, ?_⟩ | refine Or.inl ?_) | (clear hK K))
        all_goals (first | exact fun _ h => (by cases h) | refine fin0 ?_)
        all_goals simp only [nameB, hl1, hlong, hhd, hlow, Bool.false_or, Bool.not_false, Bool.not_true, Bool.false_and]
      | true =>
        have hmod : nameB p q s = (s.drop 1).all q := by simp only [nameB, hl1, hlong, hhd, hlow, Bool.not_true, Bool.false_or, Bool.not_false, Bool.true_and]
        repeat' (first | (simp only [go_sem, zA, zB, zC, zD, zE, zF, zG, reduceCtorEq, zH, zI, zJ, zK, zL, hl1, hlong, hlow]; all_goals fail_if_success guard_target =ₛ False) | (with_reducible first | ((first | refine seqVC_stepN rfl ?_ | refine seqVC_stepG rfl (by with_unfolding_all rfl) ?_ | refine AWP.seq ?_ | refine AWP.seqR (by kernel_rfl) ?_); intro K hK) | ((first | refine hK _ _ _ ?_ | refine hK _ _ ?_ | refine hK _ ?_); clear hK K) | refine seqVC_nil ?_ | refine AWP.block ?_ | (refine AWP.cond (by with_unfolding_all rfl) ?_ ?_ <;> intro h <;> (try simp only [zM, zN] at h) <;> try exact absurd h (by decide)) | refine AWP.skip ?_ | refine AWP.ret ?_ | refine AWP.exit ?_ | (refine ⟨fun h => ?_, fun h => ?_⟩ <;> (try simp only [zM, zN] at h) <;> try simp only [h]) | refine ⟨_, hg b, ?_⟩ | refine ⟨by omega, b, hb0, ?_⟩ | refine ⟨b, hb0, ?_⟩ | refine Or.inl ?_) | (clear hK K))
        refine AWP.loopF (X := Nat) (fun k => [(7, I .i64 k)]) (fun k => []) [0, 2] [] (fun k => 1 ≤ k ∧ k ≤ s.length ∧ (s.drop 1).all q = (s.drop k).all q) (fun k => s.length - k) (1) (by simp only [go_sem, zA, zB, zC, zD, zE, zF, zG, reduceCtorEq, zH, zI, zJ, zK, zL]; exact Gh.to [] (by repeat (first | exact trivial | refine ⟨rfl, ?_⟩ | refine ⟨by (simp only [go_sem, zA, zB, zC, zD, zE, zF, zG, reduceCtorEq, zH, zI, zJ, zK, zL, List.length_append, List.length_map, List.length_cons, List.length_nil, Nat.zero_add]) <;> rfl, ?_⟩)) (by repeat (first | exact trivial | refine ⟨rfl, ?_⟩ | refine ⟨by (simp only [go_sem, zA, zB, zC, zD, zE, zF, zG, reduceCtorEq, zH, zI, zJ, zK, zL, List.length_append, List.length_map, List.length_cons, List.length_nil, Nat.zero_add]) <;> rfl, ?_⟩)) rfl rfl rfl) ?_ ?_
        · exact ⟨Nat.le_refl _, by omega, rfl⟩
        rintro k ⟨hk1, hk, hp⟩
        simp only [go_sem, zA, zB, zC, zD, zE, zF, zG, reduceCtorEq, zH, zI, zJ, zK, zL]
        by_cases hlt : k < s.length
        · have hdrop := List.drop_eq_getElem_cons hlt
          have hd : s[k]? = some s[k] := List.getElem?_eq_getElem hlt
          have hbt : decide ((k : Int) < (s.length : Int)) = true := by simpa using hlt
          generalize s[k] = d at hd hdrop
          rw [hdrop, List.all_cons] at hp
          cases hq : q d
          all_goals simp only [hq, Bool.true_and, Bool.false_and] at hp
          repeat' (first | (simp only [go_sem, zA, zB, zC, zD, zE, zF, zG, reduceCtorEq, zH, zI, zJ, zK, zL, hbt, hq]; all_goals fail_if_success guard_target =ₛ False) | (with_reducible first | ((first | refine seqVC_stepN rfl ?_ | refine seqVC_stepG rfl (by with_unfolding_all rfl) ?_ | refine AWP.seq ?_ | refine AWP.seqR (by kernel_rfl) ?_); intro K hK) | ((first | refine hK _ _ _ ?_ | refine hK _ _ ?_ | refine hK _ ?_); clear hK K) | refine seqVC_nil ?_ | refine AWP.block ?_ | (refine AWP.cond (by with_unfolding_all rfl) ?_ ?_ <;> intro h <;> (try simp only [zM, zN] at h) <;> try exact absurd h (by decide)) | refine AWP.skip ?_ | refine AWP.ret ?_ | refine AWP.exit ?_ | (refine ⟨fun h => ?_, fun h => ?_⟩ <;> (try simp only [zM, zN] at h) <;> try simp only [h]) | refine ⟨_, hh d, ?_⟩ | refine ⟨by omega, d, hd, ?_⟩ | refine ⟨d, hd, ?_⟩ | refine Or.inl ?_) | (clear hK K))
          all_goals first
            | (refine fin0 ?_; rw [hmod, hp])
            | (rw [wrap_succ hlt hlen]; refine ⟨k + 1, by omega, ⟨by omega, by omega, hp⟩, Gh.to [] (by repeat (first | exact trivial | refine ⟨rfl, ?_⟩ | refine ⟨by (simp only [go_sem, zA, zB, zC, zD, zE, zF, zG, reduceCtorEq, zH, zI, zJ, zK, zL, List.length_append, List.length_map, List.length_cons, List.length_nil, Nat.zero_add]) <;> rfl, ?_⟩)) (by repeat (first | exact trivial | refine ⟨rfl, ?_⟩ | refine ⟨by (simp only [go_sem, zA, zB, zC, zD, zE, zF, zG, reduceCtorEq, zH, zI, zJ, zK, zL, List.length_append, List.length_map, List.length_cons, List.length_nil, Nat.zero_add]) <;> rfl, ?_⟩)) rfl rfl rfl⟩)
        · have hbt : decide ((k : Int) < (s.length : Int)) = false := by simpa using hlt
          rw [show s.drop k = [] from List.drop_eq_nil_of_le (by omega)] at hp
          repeat' (first | (simp only [go_sem, zA, zB, zC, zD, zE, zF, zG, reduceCtorEq, zH, zI, zJ, zK, zL, hbt]; all_goals fail_if_success guard_target =ₛ False) | (with_reducible first | ((first | refine seqVC_stepN rfl ?_ | refine seqVC_stepG rfl (by with_unfolding_all rfl) ?_ | refine AWP.seq ?_ | refine AWP.seqR (by kernel_rfl) ?_); intro K hK) | ((first | refine hK _ _ _ ?_ | refine hK _ _ ?_ | refine hK _ ?_); clear hK K) | refine seqVC_nil ?_ | refine AWP.block ?_ | (refine AWP.cond (by with_unfolding_all rfl) ?_ ?_ <;> intro h <;> (try simp only [zM, zN] at h) <;> try exact absurd h (by decide)) | refine AWP.skip ?_ | refine AWP.ret ?_ | refine AWP.exit ?_ | (refine ⟨fun h => ?_, fun h => ?_⟩ <;> (try simp only [zM, zN] at h) <;> try simp only [h]) | refine Or.inl ?_) | (clear hK K))
          all_goals (refine fin0 ?_; rw [hmod, hp]; rfl)
theorem identIsAtom_c (s : List UInt8) : PC Tryz.prog 119 [S s] (Bo (isAtomB s)) := by
  have h := isName_c s 147 149 lowB tailB isLower_c atomTail_c
  refine PCB.of_body Tryz.func119 rfl (by decide) Tryz.ntmps119 Tryz.results119 rfl rfl rfl ?_ rfl rfl
  repeat' (first | (simp only [go_sem, zA, zB, zC, zD, zE, zF, zG, reduceCtorEq, zH, zI, zJ, zK, zL]; all_goals fail_if_success guard_target =ₛ False) | (with_reducible first | ((first | refine seqVC_stepN rfl ?_ | refine AWP.seq ?_ | refine AWP.seqR (by kernel_rfl) ?_); intro K hK) | ((first | refine hK _ _ _ ?_ | refine hK _ _ ?_ | refine hK _ ?_); clear hK K) | refine seqVC_nil ?_ | refine AWP.block ?_ | (refine AWP.cond (by with_unfolding_all rfl) ?_ ?_ <;> intro h <;> (try simp only [zM, zN] at h) <;> try exact absurd h (by decide)) | refine AWP.skip ?_ | refine AWP.ret ?_ | refine AWP.exit ?_ | refine ⟨_, h, ?_⟩ | refine Or.inl ?_) | (clear hK K))
  all_goals (first | exact fun _ h => (by cases h) | refine fin0 ?_)
  all_goals rfl
def isVarB (s : List UInt8) : Bool := nameB uppB vtailB s
theorem identIsVariable_c (s : List UInt8) : PC Tryz.prog 118 [S s] (Bo (isVarB s)) := by
  have h := isName_c s 145 146 uppB vtailB isUpper_c varTail_c
  refine PCB.of_body Tryz.func118 rfl (by decide) Tryz.ntmps118 Tryz.results118 rfl rfl rfl ?_ rfl rfl
  repeat' (first | (simp only [go_sem, zA, zB, zC, zD, zE, zF, zG, reduceCtorEq, zH, zI, zJ, zK, zL]; all_goals fail_if_success guard_target =ₛ False) | (with_reducible first | ((first | refine seqVC_stepN rfl ?_ | refine AWP.seq ?_ | refine AWP.seqR (by kernel_rfl) ?_); intro K hK) | ((first | refine hK _ _ _ ?_ | refine hK _ _ ?_ | refine hK _ ?_); clear hK K) | refine seqVC_nil ?_ | refine AWP.block ?_ | (refine AWP.cond (by with_unfolding_all rfl) ?_ ?_ <;> intro h <;> (try simp only [zM, zN] at h) <;> try exact absurd h (by decide)) | refine AWP.skip ?_ | refine AWP.ret ?_ | refine AWP.exit ?_ | refine ⟨_, h, ?_⟩ | refine Or.inl ?_) | (clear hK K))
  all_goals (first | exact fun _ h => (by cases h) | refine fin0 ?_)
  all_goals rfl
theorem identValidKey_c (k : KeyD) : PC Tryz.prog 120 [.st (encKey k)] (Bo (validKeyB k)) := by
  refine PCB.of_body Tryz.func120 rfl (by decide) Tryz.ntmps120 Tryz.results120 rfl rfl rfl ?_ rfl rfl
  cases h0 : decide (k.kind = 0) <;> cases h1 : decide (k.kind = 1)
  · 
    repeat' (first | (simp only [go_sem, zA, zB, zC, zD, zE, zF, zG, reduceCtorEq, zH, zI, zJ, zK, zL, encKey, h0, h1]; all_goals fail_if_success guard_target =ₛ False) | (with_reducible first | ((first | refine seqVC_stepN rfl ?_ | refine AWP.seq ?_ | refine AWP.seqR (by kernel_rfl) ?_); intro K hK) | ((first | refine hK _ _ _ ?_ | refine hK _ _ ?_ | refine hK _ ?_); clear hK K) | refine seqVC_nil ?_ | refine AWP.block ?_ | (refine AWP.cond (by with_unfolding_all rfl) ?_ ?_ <;> intro h <;> (try simp only [zM, zN] at h) <;> try exact absurd h (by decide)) | refine AWP.skip ?_ | refine AWP.ret ?_ | refine AWP.exit ?_ | refine ⟨_, identIsAtom_c _, ?_⟩ | refine Or.inl ?_) | (clear hK K))
    all_goals (refine fin0 ?_; simp only [validKeyB, h0, h1, Bool.true_and, Bool.false_and, Bool.or_false, Bool.false_or])
  · 
    repeat' (first | (simp only [go_sem, zA, zB, zC, zD, zE, zF, zG, reduceCtorEq, zH, zI, zJ, zK, zL, encKey, h0, h1]; all_goals fail_if_success guard_target =ₛ False) | (with_reducible first | ((first | refine seqVC_stepN rfl ?_ | refine AWP.seq ?_ | refine AWP.seqR (by kernel_rfl) ?_); intro K hK) | ((first | refine hK _ _ _ ?_ | refine hK _ _ ?_ | refine hK _ ?_); clear hK K) | refine seqVC_nil ?_ | refine AWP.block ?_ | (refine AWP.cond (by with_unfolding_all rfl) ?_ ?_ <;> intro h <;> (try simp only [zM, zN] at h) <;> try exact absurd h (by decide)) | refine AWP.skip ?_ | refine AWP.ret ?_ | refine AWP.exit ?_ | refine ⟨_, identIsAtom_c _, ?_⟩ | refine Or.inl ?_) | (clear hK K))
    all_goals (refine fin0 ?_; simp only [validKeyB, h0, h1, Bool.true_and, Bool.false_and, Bool.or_false, Bool.false_or])
  · 
    repeat' (first | (simp only [go_sem, zA, zB, zC, zD, zE, zF, zG, reduceCtorEq, zH, zI, zJ, zK, zL, encKey, h0, h1]; all_goals fail_if_success guard_target =ₛ False) | (with_reducible first | ((first | refine seqVC_stepN rfl ?_ | refine AWP.seq ?_ | refine AWP.seqR (by kernel_rfl) ?_); intro K hK) | ((first | refine hK _ _ _ ?_ | refine hK _ _ ?_ | refine hK _ ?_); clear hK K) | refine seqVC_nil ?_ | refine AWP.block ?_ | (refine AWP.cond (by with_unfolding_all rfl) ?_ ?_ <;> intro h <;> (try simp only [zM, zN] at h) <;> try exact absurd h (by decide)) | refine AWP.skip ?_ | refine AWP.ret ?_ | refine AWP.exit ?_ | refine ⟨_, identIsAtom_c _, ?_⟩ | refine Or.inl ?_) | (clear hK K))
    all_goals (refine fin0 ?_; simp only [validKeyB, h0, h1, Bool.true_and, Bool.false_and, Bool.or_false, Bool.false_or])
  · exfalso
    simp only [decide_eq_true_eq] at h0 h1
    omega
theorem refIsVariable_c (s : List UInt8) : PC Tryz.prog 99 [S s] (Bo (isVarB s)) := by
  refine PCB.of_body Tryz.func99 rfl (by decide) Tryz.ntmps99 Tryz.results99 rfl rfl rfl ?_ rfl rfl
  cases hl1 : decide ((s.length : Int) < 1) with
  | true =>
    repeat' (first | (simp only [go_sem, zA, zB, zC, zD, zE, zF, zG, reduceCtorEq, zH, zI, zJ, zK, zL, hl1]; all_goals fail_if_success guard_target =ₛ False) | (with_reducible first | ((first | refine seqVC_stepN rfl ?_ | refine seqVC_stepG rfl (by with_unfolding_all rfl) ?_ | refine AWP.seq ?_ | refine AWP.seqR (by kernel_rfl) ?_); intro K hK) | ((first | refine hK _ _ _ ?_ | refine hK _ _ ?_ | refine hK _ ?_); clear hK K) | refine seqVC_nil ?_ | refine AWP.block ?_ | (refine AWP.cond (by with_unfolding_all rfl) ?_ ?_ <;> intro h <;> (try simp only [zM, zN] at h) <;> try exact absurd h (by decide)) | refine AWP.skip ?_ | refine AWP.ret ?_ | refine AWP.exit ?_ | (refine ⟨fun h => ?_, fun h => ?_⟩ <;> (try simp only [zM, zN] at h) <;> try simp only [h]) | refine Or.inl ?_) | (clear hK K))
    all_goals (first | exact fun _ h => (by cases h) | refine fin0 ?_)
    all_goals simp only [isVarB, nameB, hl1, Bool.true_or, Bool.not_true, Bool.false_and]
  | false =>
    have hpos : 0 < s.length := by simp only [decide_eq_false_iff_not] at hl1; omega
    obtain ⟨b, hb0⟩ : ∃ b, s[0]? = some b := ⟨s[0], by simp [hpos]⟩
    have hhd : s.headD 0 = b := by cases s <;> simp at hb0 hpos ⊢; exact hb0
    cases hlong : decide ((16 : Int) < (s.length : Int)) with
    | true =>
      repeat' (first | (simp only [go_sem, zA, zB, zC, zD, zE, zF, zG, reduceCtorEq, zH, zI, zJ, zK, zL, hl1, hlong]; all_goals fail_if_success guard_target =ₛ False) | (with_reducible first | ((first | refine seqVC_stepN rfl ?_ | refine seqVC_stepG rfl (by with_unfolding_all rfl) ?_ | refine AWP.seq ?_ | refine AWP.seqR (by kernel_rfl) ?_); intro K hK) | ((first | refine hK _ _ _ ?_ | refine hK _ _ ?_ | refine hK _ ?_); clear hK K) | refine seqVC_nil ?_ | refine AWP.block ?_ | (refine AWP.cond (by with_unfolding_all rfl) ?_ ?_ <;> intro h <;> (try simp only [zM, zN] at h) <;> try exact absurd h (by decide)) | refine AWP.skip ?_ | refine AWP.ret ?_ | refine AWP.exit ?_ | (refine ⟨fun h => ?_, fun h => ?_⟩ <;> (try simp only [zM, zN] at h) <;> try simp only [h]) | refine Or.inl ?_) | (clear hK K))
      all_goals (first | exact fun _ h => (by cases h) | refine fin0 ?_)
      all_goals simp only [isVarB, nameB, hlong, Bool.true_or, Bool.or_true, Bool.not_true, Bool.false_and]
    | false =>
      have hlen : s.length ≤ 9223372036854775807 := by simp only [decide_eq_false_iff_not] at hlong; omega
      cases hlow : uppB b with
      | false =>
        repeat' (first | (simp only [go_sem, zA, zB, zC, zD, zE, zF, zG, reduceCtorEq, zH, zI, zJ, zK, zL, hl1, hlong, hlow]; all_goals fail_if_success guard_target =ₛ False) | (with_reducible first | ((first | refine seqVC_stepN rfl ?_ | refine seqVC_stepG rfl (by with_unfolding_all rfl) ?_ | refine AWP.seq ?_ | refine AWP.seqR (by kernel_rfl) ?_); intro K hK) | ((first | refine hK _ _ _ ?_ | refine hK _ _ ?_ | refine hK _ ?_); clear hK K) | refine seqVC_nil ?_ | refine AWP.block ?_ | (refine AWP.cond (by with_unfolding_all rfl) ?_ ?_ <;> intro h <;> (try simp only [zM, zN] at h) <;> try exact absurd h (by decide)) | refine AWP.skip ?_ | refine AWP.ret ?_ | refine AWP.exit ?_ | (refine ⟨fun h => ?_, fun h => ?_⟩ <;> (try simp only [zM, zN] at h) <;> try simp only [h]) | refine ⟨_, refUpper_c b, ?_⟩ | refine ⟨by omega, b, hb0, ?_⟩ | refine ⟨b, hb0, ?_⟩ | refine Or.inl ?_) | (clear hK K))
        all_goals (first | exact fun _ h => (by cases h) | refine fin0 ?_)
        all_goals simp only [isVarB, nameB, hl1, hlong, hhd, hlow, Bool.false_or, Bool.not_false, Bool.not_true, Bool.false_and]
      | true =>
        have hmod : isVarB s = (s.drop 1).all vtailB := by simp only [isVarB, nameB, hl1, hlong, hhd, hlow, Bool.not_true, Bool.false_or, Bool.not_false, Bool.true_and]
        repeat' (first | (simp only [go_sem, zA, zB, zC, zD, zE, zF, zG, reduceCtorEq, zH, zI, zJ, zK, zL, hl1, hlong, hlow]; all_goals fail_if_success guard_target =ₛ False) | (with_reducible first | ((first | refine seqVC_stepN rfl ?_ | refine seqVC_stepG rfl (by with_unfolding_all rfl) ?_ | refine AWP.seq ?_ | refine AWP.seqR (by kernel_rfl) ?_); intro K hK) | ((first | refine hK _ _ _ ?_ | refine hK _ _ ?_ | refine hK _ ?_); clear hK K) | refine seqVC_nil ?_ | refine AWP.block ?_ | (refine AWP.cond (by with_unfolding_all rfl) ?_ ?_ <;> intro h <;> (try simp only [zM, zN] at h) <;> try exact absurd h (by decide)) | refine AWP.skip ?_ | refine AWP.ret ?_ | refine AWP.exit ?_ | (refine ⟨fun h => ?_, fun h => ?_⟩ <;> (try simp only [zM, zN] at h) <;> try simp only [h]) | refine ⟨_, refUpper_c b, ?_⟩ | refine ⟨by omega, b, hb0, ?_⟩ | refine ⟨b, hb0, ?_⟩ | refine Or.inl ?_) | (clear hK K))
        refine AWP.loopF (X := Nat) (fun k => [(3, I .i64 k)]) (fun k => []) [0] [] (fun k => 1 ≤ k ∧ k ≤ s.length ∧ (s.drop 1).all vtailB = (s.drop k).all vtailB) (fun k => s.length - k) (1) (by simp only [go_sem, zA, zB, zC, zD, zE, zF, zG, reduceCtorEq, zH, zI, zJ, zK, zL]; exact Gh.to [] (by repeat (first | exact trivial | refine ⟨rfl, ?_⟩ | refine ⟨by (simp only [go_sem, zA, zB, zC, zD, zE, zF, zG, reduceCtorEq, zH, zI, zJ, zK, zL, List.length_append, List.length_map, List.length_cons, List.length_nil, Nat.zero_add]) <;> rfl, ?_⟩)) (by repeat (first | exact trivial | refine ⟨rfl, ?_⟩ | refine ⟨by (simp only [go_sem, zA, zB, zC, zD, zE, zF, zG, reduceCtorEq, zH, zI, zJ, zK, zL, List.length_append, List.length_map, List.length_cons, List.length_nil, Nat.zero_add]) <;> rfl, ?_⟩)) rfl rfl rfl) ?_ ?_
        · exact ⟨Nat.le_refl _, by omega, rfl⟩
        rintro k ⟨hk1, hk, hp⟩
        simp only [go_sem, zA, zB, zC, zD, zE, zF, zG, reduceCtorEq, zH, zI, zJ, zK, zL]
        by_cases hlt : k < s.length
        · have hdrop := List.drop_eq_getElem_cons hlt
          have hd : s[k]? = some s[k] := List.getElem?_eq_getElem hlt
          have hbt : decide ((k : Int) < (s.length : Int)) = true := by simpa using hlt
          generalize s[k] = d at hd hdrop
          rw [hdrop, List.all_cons] at hp
          cases ht1 : lowB d <;> cases ht4 : uppB d <;> cases ht2 : digB d <;> cases ht3 : decide ((d.toNat : Int) = 95)
          all_goals simp only [vtailB, ht1, ht2, ht3, ht4, Bool.or_true, Bool.or_false, Bool.true_or, Bool.true_and, Bool.false_and] at hp
          repeat' (first | (simp only [go_sem, zA, zB, zC, zD, zE, zF, zG, reduceCtorEq, zH, zI, zJ, zK, zL, hbt, ht1, ht2, ht3, ht4]; all_goals fail_if_success guard_target =ₛ False) | (with_reducible first | ((first | refine seqVC_stepN rfl ?_ | refine seqVC_stepG rfl (by with_unfolding_all rfl) ?_ | refine AWP.seq ?_ | refine AWP.seqR (by kernel_rfl) ?_); intro K hK) | ((first | refine hK _ _ _ ?_ | refine hK _ _ ?_ | refine hK _ ?_); clear hK K) | refine seqVC_nil ?_ | refine AWP.block ?_ | (refine AWP.cond (by with_unfolding_all rfl) ?_ ?_ <;> intro h <;> (try simp only [zM, zN] at h) <;> try exact absurd h (by decide)) | refine AWP.skip ?_ | refine AWP.ret ?_ | refine AWP.exit ?_ | (refine ⟨fun h => ?_, fun h => ?_⟩ <;> (try simp only [zM, zN] at h) <;> try simp only [h]) | refine ⟨_, lower_c d, ?_⟩ | refine ⟨_, digit_c d, ?_⟩ | refine ⟨_, refUpper_c d, ?_⟩ | refine ⟨by omega, d, hd, ?_⟩ | refine ⟨d, hd, ?_⟩ | refine Or.inl ?_) | (clear hK K))
          all_goals first
            | (refine fin0 ?_; rw [hmod, hp])
            | (rw [wrap_succ hlt hlen]; refine ⟨k + 1, by omega, ⟨by omega, by omega, hp⟩, Gh.to [] (by repeat (first | exact trivial | refine ⟨rfl, ?_⟩ | refine ⟨by (simp only [go_sem, zA, zB, zC, zD, zE, zF, zG, reduceCtorEq, zH, zI, zJ, zK, zL, List.length_append, List.length_map, List.length_cons, List.length_nil, Nat.zero_add]) <;> rfl, ?_⟩)) (by repeat (first | exact trivial | refine ⟨rfl, ?_⟩ | refine ⟨by (simp only [go_sem, zA, zB, zC, zD, zE, zF, zG, reduceCtorEq, zH, zI, zJ, zK, zL, List.length_append, List.length_map, List.length_cons, List.length_nil, Nat.zero_add]) <;> rfl, ?_⟩)) rfl rfl rfl⟩)
        · have hbt : decide ((k : Int) < (s.length : Int)) = false := by simpa using hlt
          rw [show s.drop k = [] from List.drop_eq_nil_of_le (by omega)] at hp
          repeat' (first | (simp only [go_sem, zA, zB, zC, zD, zE, zF, zG, reduceCtorEq, zH, zI, zJ, zK, zL, hbt]; all_goals fail_if_success guard_target =ₛ False) | (with_reducible first | ((first | refine seqVC_stepN rfl ?_ | refine seqVC_stepG rfl (by with_unfolding_all rfl) ?_ | refine AWP.seq ?_ | refine AWP.seqR (by kernel_rfl) ?_); intro K hK) | ((first | refine hK _ _ _ ?_ | refine hK _ _ ?_ | refine hK _ ?_); clear hK K) | refine seqVC_nil ?_ | refine AWP.block ?_ | (refine AWP.cond (by with_unfolding_all rfl) ?_ ?_ <;> intro h <;> (try simp only [zM, zN] at h) <;> try exact absurd h (by decide)) | refine AWP.skip ?_ | refine AWP.ret ?_ | refine AWP.exit ?_ | (refine ⟨fun h => ?_, fun h => ?_⟩ <;> (try simp only [zM, zN] at h) <;> try simp only [h]) | refine Or.inl ?_) | (clear hK K))
          all_goals (refine fin0 ?_; rw [hmod, hp]; rfl)
end Go.Proofs.YteobojeemflggaaGreat
set_option linter.unusedVariables false
set_option linter.unusedSimpArgs false
namespace Go.Sx
variable {P : Program} {n : Nat} {Q : Exit → AS → Prop}
mutual
/-- the row k, that has len elements, is spoken of at its full length -/
def Cell.rfOk (k len : Nat) : Cell → Prop
  | .ptr j o => (j == k) = true → o ≤ len
  | .clo _ caps => Cell.rfOks k len caps
  | _ => True
def Cell.rfOks (k len : Nat) : List Cell → Prop
  | [] => True
  | c :: cs => Cell.rfOk k len c ∧ Cell.rfOks k len cs
end
mutual
def Cell.rf (k : Nat) (row : List C) : Cell → Cell
  | .ptr j o => bif j == k then .ref (row.drop o) else .ptr j o
  | .clo f caps => .clo f (Cell.rfs k row caps)
  | .dat c => .dat c
  | .own j m => .own j m
  | .rp j s i f => .rp j s i f
  | .arr j n => .arr j n
  | .ref r => .ref r
def Cell.rfs (k : Nat) (row : List C) : List Cell → List Cell
  | [] => []
  | c :: cs => Cell.rf k row c :: Cell.rfs k row cs
end
mutual
def T.rfOk (k len : Nat) : T → Prop
  | .one c => c.rfOk k len
  | .agg cs => Cell.rfOks k len cs
  | .tup ts => T.rfOks k len ts
  | _ => True
def T.rfOks (k len : Nat) : List T → Prop
  | [] => True
  | t :: ts => T.rfOk k len t ∧ T.rfOks k len ts
end
mutual
def T.rf (k : Nat) (row : List C) : T → T
  | .one c => .one (c.rf k row)
  | .agg cs => mkAgg (Cell.rfs k row cs)
  | .tup ts => .tup (T.rfs k row ts)
  | .st r => .st r
  | .un => .un
def T.rfs (k : Nat) (row : List C) : List T → List T
  | [] => []
  | t :: ts => T.rf k row t :: T.rfs k row ts
end
/-- what is known of a frozen row -/
def RfRow (M M' : Mem) (ν : Nu) (k : Nat) (row : List C) : Prop :=
  M.le M' ∧ ∃ b mid, (ν k).blk = some b ∧ At (M' b) 0 mid ∧ repRow M' row mid
theorem At.drop {M : Mem} {b : Nat} {mid : List Value} (h : At (M b) 0 mid) (o : Nat) (ho : o ≤ mid.length) : At (M b) o (mid.drop o) := by
  obtain ⟨c, et, fz, pre, post, e, h1, h2⟩ := h
  have : pre = [] := List.length_eq_zero_iff.1 h2
  subst this
  refine ⟨c, et, fz, mid.take o, post, e, ?_, by simp; omega⟩
  rw [h1, List.nil_append, ← List.append_assoc, List.take_append_drop]
theorem repRow_drop {M : Mem} : ∀ {r : List C} {vs : List Value} (o : Nat), repRow M r vs → repRow M (r.drop o) (vs.drop o)
  | r, vs, 0, h => by simpa using h
  | [], vs, o + 1, h => by simp only [repRow] at h; subst h; simp [repRow]
  | c :: r, vs, o + 1, h => by
    simp only [repRow] at h
    obtain ⟨v, vs', e, _, h2⟩ := h
    subst e
    simpa using repRow_drop o h2
mutual
theorem Cell.rep_rf {M M' : Mem} {ν : Nu} {k : Nat} {row : List C} (hF : RfRow M M' ν k row) : ∀ (c : Cell) (v : Value), c.rfOk k row.length → c.rep M ν v → (c.rf k row).rep M' ν v
  | .ptr j o, v, hok, h => by
    simp only [Cell.rfOk] at hok
    simp only [Cell.rf]
    cases hj : (j == k) with
    | false => simp only [cond_false]; simpa only [Cell.rep] using h
    | true =>
      have hjk : j = k := by simpa using hj
      have hm := hok hj
      subst hjk
      simp only [Cell.rep] at h
      simp only [cond_true, Cell.rep]
      obtain ⟨b, hb, e⟩ := h
      obtain ⟨b', mid, hb', hat, hr⟩ := hF.2
      rw [hb] at hb'
      cases hb'
      exact ⟨b, o, mid.drop o, e, hat.drop o (by rw [repRow_length hr]; exact hm), repRow_drop o hr⟩
  | .clo f caps, v, hok, h => by
    simp only [Cell.rfOk] at hok
    simp only [Cell.rep] at h
    simp only [Cell.rf, Cell.rep]
    obtain ⟨vs, e, h⟩ := h
    exact ⟨vs, e, Cell.reps_rf hF caps vs hok h⟩
  | .dat c, v, _, h => by simp only [Cell.rf]; exact Cell.rep_mono hF.1 _ _ h
  | .own j m, v, _, h => by simp only [Cell.rf]; exact Cell.rep_mono hF.1 _ _ h
  | .rp j s i f, v, _, h => by simp only [Cell.rf]; exact Cell.rep_mono hF.1 _ _ h
  | .arr j n, v, _, h => by simp only [Cell.rf]; exact Cell.rep_mono hF.1 _ _ h
  | .ref r, v, _, h => by simp only [Cell.rf]; exact Cell.rep_mono hF.1 _ _ h
theorem Cell.reps_rf {M M' : Mem} {ν : Nu} {k : Nat} {row : List C} (hF : RfRow M M' ν k row) : ∀ (cs : List Cell) (vs : List Value), Cell.rfOks k row.length cs → Cell.reps M ν cs vs → Cell.reps M' ν (Cell.rfs k row cs) vs
  | [], vs, _, h => by simpa only [Cell.rfs, Cell.reps] using h
  | c :: cs, vs, hok, h => by
    simp only [Cell.rfOks] at hok
    simp only [Cell.reps] at h
    simp only [Cell.rfs, Cell.reps]
    obtain ⟨v, vs', e, h1, h2⟩ := h
    exact ⟨v, vs', e, Cell.rep_rf hF c v hok.1 h1, Cell.reps_rf hF cs vs' hok.2 h2⟩
end
mutual
theorem T.rep_rf {M M' : Mem} {ν : Nu} {k : Nat} {row : List C} (hF : RfRow M M' ν k row) : ∀ (t : T) (v : Value), t.rfOk k row.length → t.rep M ν v → (t.rf k row).rep M' ν v
  | .one c, v, hok, h => by simp only [T.rfOk] at hok; simp only [T.rf, T.rep] at h ⊢; exact Cell.rep_rf hF c v hok h
  | .agg cs, v, hok, h => by
    simp only [T.rfOk] at hok
    simp only [T.rep] at h
    obtain ⟨a, e, h⟩ := h
    subst e
    simp only [T.rf]
    exact mkAgg_rep (Cell.reps_rf hF cs _ hok h)
  | .tup ts, v, hok, h => by
    simp only [T.rfOk] at hok
    simp only [T.rep] at h
    obtain ⟨a, e, h⟩ := h
    simp only [T.rf, T.rep]
    exact ⟨a, e, T.reps_rf hF ts a hok h⟩
  | .st r, v, _, h => by simp only [T.rf]; exact T.rep_mono hF.1 _ _ h
  | .un, v, _, h => by simp only [T.rf]; exact T.rep_mono hF.1 _ _ h
theorem T.reps_rf {M M' : Mem} {ν : Nu} {k : Nat} {row : List C} (hF : RfRow M M' ν k row) : ∀ (ts : List T) (vs : List Value), T.rfOks k row.length ts → T.reps M ν ts vs → T.reps M' ν (T.rfs k row ts) vs
  | [], vs, _, h => by simpa only [T.rfs, T.reps] using h
  | t :: ts, vs, hok, h => by
    simp only [T.rfOks] at hok
    simp only [T.reps] at h
    simp only [T.rfs, T.reps]
    obtain ⟨v, vs', e, h1, h2⟩ := h
    exact ⟨v, vs', e, T.rep_rf hF t v hok.1 h1, T.reps_rf hF ts vs' hok.2 h2⟩
end
def rfE (k : Nat) (row : List C) : Env → Env
  | [] => []
  | p :: env => (p.1, p.2.rf k row) :: rfE k row env
def Env.rfOk (k len : Nat) : Env → Prop
  | [] => True
  | p :: env => p.2.rfOk k len ∧ Env.rfOk k len env
def rfB (k : Nat) (row : List C) : Bx → Bx
  | [] => []
  | p :: B => (match p.2 with
    | .cells cs => (p.1, .cells (Cell.rfs k row cs))
    | r => (p.1, r)) :: rfB k row B
def Bx.rfOk (k len : Nat) : Bx → Prop
  | [] => True
  | p :: B => (match p.2 with
    | .cells cs => Cell.rfOks k len cs
    | _ => True) ∧ Bx.rfOk k len B
theorem rfE_lookup {k len d : Nat} {row : List C} {t : T} : ∀ {env : Env}, Env.rfOk k len env → (rfE k row env).lookup d = some t → ∃ u, env.lookup d = some u ∧ t = u.rf k row ∧ u.rfOk k len
  | [], _, h => by simp [rfE] at h
  | p :: env, ho, h => by
    obtain ⟨e, u⟩ := p
    simp only [Env.rfOk] at ho
    simp only [rfE, List.lookup_cons] at h ⊢
    cases hb : (d == e) with
    | true => rw [hb] at h; simp only [Option.some.injEq] at h; exact ⟨u, rfl, h.symm, ho.1⟩
    | false => rw [hb] at h; exact rfE_lookup ho.2 h
theorem rfB_mem {k len i : Nat} {row : List C} {r : Res} : ∀ {B : Bx}, Bx.rfOk k len B → (i, r) ∈ rfB k row B → ∃ r0, (i, r0) ∈ B ∧ ((r = r0 ∧ ∀ cs, r0 ≠ .cells cs) ∨ ∃ cs, r0 = .cells cs ∧ r = .cells (Cell.rfs k row cs) ∧ Cell.rfOks k len cs)
  | p :: B, ho, h => by
    obtain ⟨i', r'⟩ := p
    simp only [Bx.rfOk] at ho
    simp only [rfB] at h
    rcases List.mem_cons.1 h with h | h
    · cases r' with
      | cells cs => cases h; exact ⟨.cells cs, by simp, .inr ⟨cs, rfl, rfl, ho.1⟩⟩
      | row s rs => cases h; exact ⟨.row s rs, by simp, .inl ⟨rfl, by intro cs; simp⟩⟩
    · obtain ⟨r0, hm, h⟩ := rfB_mem ho.2 h
      exact ⟨r0, List.mem_cons_of_mem _ hm, h⟩
theorem rfB_keys {k : Nat} {row : List C} : ∀ {B : Bx}, (rfB k row B).map (·.1) = B.map (·.1)
  | [] => rfl
  | (i, .cells cs) :: B => by simp only [rfB, List.map_cons, rfB_keys]
  | (i, .row s rs) :: B => by simp only [rfB, List.map_cons, rfB_keys]
theorem Bx.rfOk_drop {k j len : Nat} : ∀ {B : Bx}, Bx.rfOk k len B → Bx.rfOk k len (Bx.drop j B)
  | [], _ => trivial
  | p :: B, h => by
    simp only [Bx.rfOk] at h
    unfold Bx.drop
    cases hp : (p.1 == j) with
    | true => exact h.2
    | false => exact ⟨h.1, Bx.rfOk_drop h.2⟩
theorem Sat.freezeC {κ : Kap} {M : Mem} {ν : Nu} {B : Bx} {w : World} {k : Nat} {row : List C} (h : Sat κ M ν B w) (hk : (k, .cells (row.map .dat)) ∈ B) (hlow : k < pin) :
    ∃ M', M.ext κ M' ∧ Sat κ M' ν (Bx.drop k B) w ∧ RfRow M M' ν k row := by
  have hr := h.res k _ hk
  simp only [Res.ok] at hr
  obtain ⟨b, c, et, hb, hheap, hcs⟩ := hr
  have hd := h.drop (B' := Bx.drop k B) (fun x hx => (Bx.mem_drop h.nodup hx).1) (Bx.drop_nodup k h.nodup)
  obtain ⟨ha1, ha2⟩ := h.away k _ b hk hb
  have hb2 : κ.w.heap.size ≤ b := ha2.elim id fun h2 => absurd h2.1 (by omega)
  have hle : M.le (M.put b (.cells c et (0, 0))) := by
    intro i x e
    unfold Mem.put
    split
    · rename_i hi; subst hi; rw [ha1] at e; cases e
    · exact e
  refine ⟨M.put b (.cells c et (0, 0)), ⟨hle, fun i x e => ?_⟩, ?_, hle, b, c.toList, hb, ?_, repRow_mono hle _ _ (Cell.reps_map_c.1 hcs)⟩
  · unfold Mem.put at e
    split at e
    · rename_i hi; subst hi; exact .inr hb2
    · exact .inl e
  · refine ⟨hd.os, hd.tape, hd.output, hd.dr, hd.size, hd.unch, ?_, fun j r hm => Res.ok_mono hle (fun b x e _ => e) (hd.res j r hm), ?_, hd.inj, hd.nodup⟩
    · intro i x e
      unfold Mem.put at e
      split at e
      · rename_i hi; subst hi; cases e; exact hheap
      · exact h.fro _ _ e
    · intro j r b' hm hb'
      obtain ⟨hm', hne⟩ := Bx.mem_drop h.nodup hm
      obtain ⟨h1, h2⟩ := h.away j r b' hm' hb'
      refine ⟨?_, h2⟩
      unfold Mem.put
      rw [if_neg]
      · exact h1
      · intro e; subst e
        exact hne (h.inj j r k _ b' hm' hk hb' hb)
  · exact ⟨c, et, (0, 0), [], [], by simp [Mem.put], by simp, rfl⟩
/-- the cells of a box as data -/
def datRow : List Cell → Option (List C)
  | [] => some []
  | .dat c :: cs => match datRow cs with
    | some r => some (c :: r)
    | none => none
  | _ => none
theorem datRow_spec : ∀ {cs : List Cell} {r : List C}, datRow cs = some r → cs = r.map .dat
  | [], r, h => by simp only [datRow, Option.some.injEq] at h; subst h; rfl
  | .dat c :: cs, r, h => by
    simp only [datRow] at h
    split at h
    · rename_i r' e
      simp only [Option.some.injEq] at h
      subst h
      rw [datRow_spec e]; rfl
    · cases h
  | .ptr .. :: cs, r, h => by simp [datRow] at h
  | .own .. :: cs, r, h => by simp [datRow] at h
  | .rp .. :: cs, r, h => by simp [datRow] at h
  | .arr .. :: cs, r, h => by simp [datRow] at h
  | .ref .. :: cs, r, h => by simp [datRow] at h
  | .clo .. :: cs, r, h => by simp [datRow] at h
theorem Gh.refer {env : Env} {B : Bx} (k : Nat) {cs : List Cell} {row : List C} (hb : B.lookup k = some (.cells cs)) (hcs : datRow cs = some row) (hlow : lowN k = true) (hE : Env.rfOk k row.length env) (hB : Bx.rfOk k row.length B) :
    Gh n ⟨env, B⟩ ⟨rfE k row env, rfB k row (Bx.drop k B)⟩ := by
  intro κ M0 a w s
  obtain ⟨M, ν, h1, h2, h3, h4, h5, h6⟩ := s
  have hcs := datRow_spec hcs
  subst hcs
  obtain ⟨M', g1, g2, g3⟩ := h5.freezeC (lookup_box hb) (lowN_spec hlow)
  have hB' := Bx.rfOk_drop (j := k) hB
  refine ⟨M', ν, h1.trans g1, h2, h3, ?_, ⟨g2.os, g2.tape, g2.output, g2.dr, g2.size, g2.unch, g2.fro, ?_, ?_, ?_, by rw [rfB_keys]; exact g2.nodup⟩, h6⟩
  · intro d t e
    obtain ⟨u, hu, rfl, hok⟩ := rfE_lookup hE e
    exact T.rep_rf g3 u _ hok (h4 d u hu)
  · intro i r hm
    obtain ⟨r0, hm0, ⟨rfl, _⟩ | ⟨cs, rfl, rfl, hok⟩⟩ := rfB_mem hB' hm
    · exact g2.res i r hm0
    · have h0 := h5.res i _ (Bx.mem_drop h5.nodup hm0).1
      simp only [Res.ok] at h0 ⊢
      obtain ⟨b, c, et, e1, e2, e3⟩ := h0
      exact ⟨b, c, et, e1, e2, Cell.reps_rf g3 cs _ hok e3⟩
  · intro i r b hm hb
    obtain ⟨r0, hm0, _⟩ := rfB_mem hB' hm
    exact g2.away i r0 b hm0 hb
  · intro i r i' r' b hm hm' hb hb'
    obtain ⟨r0, hm0, _⟩ := rfB_mem hB' hm
    obtain ⟨r1, hm1, _⟩ := rfB_mem hB' hm'
    exact g2.inj i r0 i' r1 b hm0 hm1 hb hb'
/-- ahead of a region the box k is frozen: what points to it reads what it holds -/
theorem AWP.refer {env : Env} {B : Bx} {id : Nat} {l : Array Oper} {d : Bool} (k : Nat) {cs : List Cell} {row : List C} (hb : B.lookup k = some (.cells cs)) (hcs : datRow cs = some row) (hlow : lowN k = true) (hE : Env.rfOk k row.length env) (hB : Bx.rfOk k row.length B)
    (h : AWP P n (.region id l d) ⟨rfE k row env, rfB k row (Bx.drop k B)⟩ Q) : AWP P n (.region id l d) ⟨env, B⟩ Q := AWP.gh (Gh.refer k hb hcs hlow hE hB) h
attribute [go_sem] rfE rfB Env.rfOk Bx.rfOk T.rf T.rfs Cell.rf Cell.rfs T.rfOk T.rfOks Cell.rfOk Cell.rfOks datRow List.drop_zero
end Go.Sx
