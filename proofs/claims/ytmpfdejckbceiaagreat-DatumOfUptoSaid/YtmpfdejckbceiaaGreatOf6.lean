/- A part of the proof: lemmas about the walk of the program and about plain integers and lists. No conditions beyond those that each lemma states. -/
import Derived.Test.YtmpfdejckbceiaaGreatOf5
set_option linter.unusedSimpArgs false
set_option linter.unusedVariables false
set_option maxRecDepth 20000
set_option maxHeartbeats 1000000
namespace Go.Proofs.YtmpfdejckbceiaaGreat
open Go Go.Sx
open Nat renaming reduceBEq → zA, reduceBNe → zB, reduceAdd → zC, reduceSub → zD, reduceMul → zE, reduceLeDiff → zF, reduceLT → zG, reduceEqDiff → zH
open Int renaming reduceToNat → zI, reduceLE → zJ, reduceLT → zK, reduceEq → zL
open Bool renaming not_eq_true' → zM, not_eq_false' → zN
/-- the entry below strings.Compare -/
theorem cmpString_calls (a b : ByteArray) (w : World) :
    Calls Tryz.prog 91 #[.string a, .string b] w fun e w' => e = .returned (.int .i64 (Lib.compareBytes a.data.toList b.data.toList)) ∧ w' = w := by
  go_enter Tryz.func91, Tryz.ntmps91
  go_wp2
  rw [run_callFunc_extern Tryz.func103 (by kernel_rfl) (by kernel_rfl) (by kernel_rfl) (e := Extern.BytealgCompare.compare) (by kernel_rfl), Lib.run_compareString]
  simp only [Result.andThen]
  rw [Oper.upon_value]
  go_wp2
  go_ret
  exact ⟨rfl, rfl⟩
theorem cmpString_c (a b : List UInt8) : PC Tryz.prog 91 [S a, S b] (I .i64 (Lib.compareBytes a b)) := by
  refine ⟨⟨_, Tryz.func91, rfl, rfl⟩, fun M ν w vs hs hr => ?_⟩
  simp only [T.reps, T.rep, Cell.rep, C.rep] at hr
  obtain ⟨v1, vs1, rfl, rfl, v2, vs2, rfl, rfl, rfl⟩ := hr
  refine Calls.mono (cmpString_calls ⟨a.toArray⟩ ⟨b.toArray⟩ w) ?_
  rintro e w' ⟨rfl, rfl⟩
  exact ⟨_, M, rfl, Mem.ext.refl _ M, by simp only [T.rep, Cell.rep, C.rep], hs⟩
theorem stringsCompare_c (a b : List UInt8) : PC Tryz.prog 73 [S a, S b] (I .i64 (Lib.compareBytes a b)) := by
  refine PCB.of_body Tryz.func73 rfl (by decide) Tryz.ntmps73 Tryz.results73 rfl rfl rfl ?_ rfl rfl
  repeat' (first | (simp only [go_sem, zA, zB, zC, zD, zE, zF, zG, reduceCtorEq, zH, zI, zJ, zK, zL]; all_goals fail_if_success guard_target =ₛ False) | (with_reducible first | ((first | refine seqVC_stepN rfl ?_ | refine AWP.seq ?_ | refine AWP.seqR (by kernel_rfl) ?_); intro K hK) | ((first | refine hK _ _ _ ?_ | refine hK _ _ ?_ | refine hK _ ?_); clear hK K) | refine seqVC_nil ?_ | refine AWP.block ?_ | (refine AWP.cond (by with_unfolding_all rfl) ?_ ?_ <;> intro h <;> (try simp only [zM, zN] at h) <;> try exact absurd h (by decide)) | refine AWP.skip ?_ | refine AWP.ret ?_ | refine AWP.exit ?_ | refine ⟨_, cmpString_c _ _, ?_⟩ | refine Or.inl ?_) | (clear hK K))
  all_goals (first | exact fun _ h => (by cases h) | refine fin0 ?_)
  all_goals rfl
theorem cmpB_zero : ∀ {a b : List UInt8}, Lib.compareBytes a b = 0 ↔ a = b
  | [], [] => by simp [Lib.compareBytes]
  | [], _ :: _ => by simp [Lib.compareBytes]
  | _ :: _, [] => by simp [Lib.compareBytes]
  | x :: a, y :: b => by
    unfold Lib.compareBytes
    by_cases h1 : x < y
    · simp only [h1, if_true]
      constructor
      · intro h; cases h
      · intro h; cases h; exact absurd h1 (by simp)
    · by_cases h2 : y < x
      · simp only [h1, h2, if_true, if_false]
        constructor
        · intro h; cases h
        · intro h; cases h; exact absurd h2 (by simp)
      · have hxy : x = y := UInt8.le_antisymm (UInt8.not_lt.1 h2) (UInt8.not_lt.1 h1)
        subst hxy
        have ih := @cmpB_zero a b
        simp only [h1, if_false, ih, List.cons.injEq, true_and]
def chainC (a b : Int) : Int := bif decide (a = 0) then b else a
theorem chainC_zero {a b : Int} : chainC a b = 0 ↔ a = 0 ∧ b = 0 := by
  unfold chainC
  by_cases h : a = 0 <;> simp [h]
def keyC (a b : KeyD) : Int := chainC (cmpI a.kind b.kind) (Lib.compareBytes a.text b.text)
theorem identCompareKeys_c (a b : KeyD) : PC Tryz.prog 75 [.st (encKey a), .st (encKey b)] (I .i64 (keyC a b)) := by
  refine PCB.of_body Tryz.func75 rfl (by decide) Tryz.ntmps75 Tryz.results75 rfl rfl rfl ?_ rfl rfl
  cases hz0 : decide (cmpI a.kind b.kind = 0)
  repeat' (first | (simp only [go_sem, zA, zB, zC, zD, zE, zF, zG, reduceCtorEq, zH, zI, zJ, zK, zL, encKey, hz0]; all_goals fail_if_success guard_target =ₛ False) | (with_reducible first | ((first | refine seqVC_stepN rfl ?_ | refine AWP.seq ?_ | refine AWP.seqR (by kernel_rfl) ?_); intro K hK) | ((first | refine hK _ _ _ ?_ | refine hK _ _ ?_ | refine hK _ ?_); clear hK K) | refine seqVC_nil ?_ | refine AWP.block ?_ | (refine AWP.cond (by with_unfolding_all rfl) ?_ ?_ <;> intro h <;> (try simp only [zM, zN] at h) <;> try exact absurd h (by decide)) | refine AWP.skip ?_ | refine AWP.ret ?_ | refine AWP.exit ?_ | refine ⟨_, cmpInt_c _ _, ?_⟩ | refine ⟨_, stringsCompare_c _ _, ?_⟩ | refine Or.inl ?_) | (clear hK K))
  all_goals (refine fin0 ?_; simp only [keyC, chainC, hz0, cond_true, cond_false])
mutual
def valC : Val → Val → Int
  | ⟨kind, num, text, kids, keys, ents, labels⟩, b => chainC (cmpI kind b.kind) (chainC (cmpI num b.num) (chainC (Lib.compareBytes text b.text) (chainC (listCmp keyC keys b.keys) (chainC (bif decide (cmpI kids.length b.kids.length = 0) then valsC kids b.kids else cmpI kids.length b.kids.length)
      (chainC (bif decide (cmpI ents.length b.ents.length = 0) then entsC ents b.ents else cmpI ents.length b.ents.length) (listCmp Lib.compareBytes labels b.labels))))))
def valsC : List Val → List Val → Int
  | [], _ => 0
  | x :: a, l => match l with
    | [] => 0
    | y :: b => bif decide (valC x y = 0) then valsC a b else valC x y
def entC : List Val × Bool × Val → List Val × Bool × Val → Int
  | (args, fails, result), e => chainC (bif decide (cmpI args.length e.1.length = 0) then valsC args e.1 else cmpI args.length e.1.length) (bif (fails == e.2.1) then valC result e.2.2 else (bif fails then -1 else 1))
def entsC : List (List Val × Bool × Val) → List (List Val × Bool × Val) → Int
  | [], _ => 0
  | x :: a, l => match l with
    | [] => 0
    | y :: b => bif decide (entC x y = 0) then entsC a b else entC x y
end
theorem valsC_eq : ∀ a b : List Val, valsC a b = firstC valC a b
  | [], b => by cases b <;> simp only [valsC, entsC, firstC]
  | x :: a, [] => by simp only [valsC, firstC]
  | x :: a, y :: b => by simp only [valsC, firstC, valsC_eq a b]
theorem entsC_eq : ∀ a b : List (List Val × Bool × Val), entsC a b = firstC entC a b
  | [], b => by cases b <;> simp only [valsC, entsC, firstC]
  | x :: a, [] => by simp only [entsC, firstC]
  | x :: a, y :: b => by simp only [entsC, firstC, entsC_eq a b]
theorem valC_eq (a b : Val) : valC a b = chainC (cmpI a.kind b.kind) (chainC (cmpI a.num b.num) (chainC (Lib.compareBytes a.text b.text) (chainC (listCmp keyC a.keys b.keys) (chainC (listCmp valC a.kids b.kids) (chainC (listCmp entC a.ents b.ents) (listCmp Lib.compareBytes a.labels b.labels)))))) := by
  cases a; simp only [valC, valsC_eq, entsC_eq, listCmp]
theorem entC_eq (a b : List Val × Bool × Val) : entC a b = chainC (listCmp valC a.1 b.1) (bif (a.2.1 == b.2.1) then valC a.2.2 b.2.2 else (bif a.2.1 then -1 else 1)) := by
  obtain ⟨x, y, z⟩ := a; simp only [entC, valsC_eq, listCmp]
theorem compareValues_c (a b : List Val) (h : ∀ x ∈ a, ∀ y, PC Tryz.prog 58 [.st (encVal x), .st (encVal y)] (I .i64 (valC x y))) :
    PC Tryz.prog 76 [.one (.dat (.sl 7 (a.map encVal))), .one (.dat (.sl 7 (b.map encVal)))] (I .i64 (listCmp valC a b)) := by
  refine PCB.of_body Tryz.func76 rfl (by decide) Tryz.ntmps76 Tryz.results76 rfl rfl rfl ?_ rfl rfl
  repeat' (first | (simp only [go_sem, zA, zB, zC, zD, zE, zF, zG, reduceCtorEq, zH, zI, zJ, zK, zL]; all_goals fail_if_success guard_target =ₛ False) | (with_reducible first | ((first | refine seqVC_stepN rfl ?_ | refine AWP.seq ?_ | refine AWP.seqR (by kernel_rfl) ?_); intro K hK) | ((first | refine hK _ _ _ ?_ | refine hK _ _ ?_ | refine hK _ ?_); clear hK K) | refine seqVC_nil ?_ | refine AWP.block ?_ | (refine AWP.cond (by with_unfolding_all rfl) ?_ ?_ <;> intro h <;> (try simp only [zM, zN] at h) <;> try exact absurd h (by decide)) | refine AWP.skip ?_ | refine AWP.ret ?_ | refine AWP.exit ?_ | refine ⟨_, cmpVals_c 58 valC a b (fun x hx y _ => h x hx y), ?_⟩ | refine Or.inl ?_) | (clear hK K))
  all_goals (first | exact fun _ h => (by cases h) | refine fin0 ?_)
  all_goals rfl
theorem compareEntries_c (a b : List Val × Bool × Val) (h : ∀ x ∈ a.1, ∀ y, PC Tryz.prog 58 [.st (encVal x), .st (encVal y)] (I .i64 (valC x y))) (h2 : ∀ y, PC Tryz.prog 58 [.st (encVal a.2.2), .st (encVal y)] (I .i64 (valC a.2.2 y))) :
    PC Tryz.prog 78 [.st (encEnt a), .st (encEnt b)] (I .i64 (entC a b)) := by
  refine PCB.of_body Tryz.func78 rfl (by decide) Tryz.ntmps78 Tryz.results78 rfl rfl rfl ?_ rfl rfl
  have h3 := h2 b.2.2
  rw [encVal_eq, encVal_eq] at h3
  cases h0 : decide (listCmp valC a.1 b.1 = 0)
  ·
    repeat' (first | (simp only [go_sem, zA, zB, zC, zD, zE, zF, zG, reduceCtorEq, zH, zI, zJ, zK, zL, encEnt_eq, h0]; all_goals fail_if_success guard_target =ₛ False) | (with_reducible first | ((first | refine seqVC_stepN rfl ?_ | refine AWP.seq ?_ | refine AWP.seqR (by kernel_rfl) ?_); intro K hK) | ((first | refine hK _ _ _ ?_ | refine hK _ _ ?_ | refine hK _ ?_); clear hK K) | refine seqVC_nil ?_ | refine AWP.block ?_ | (refine AWP.cond (by with_unfolding_all rfl) ?_ ?_ <;> intro h <;> (try simp only [zM, zN] at h) <;> try exact absurd h (by decide)) | refine AWP.skip ?_ | refine AWP.ret ?_ | refine AWP.exit ?_ | refine ⟨_, compareValues_c a.1 b.1 h, ?_⟩ | refine Or.inl ?_) | (clear hK K))
    all_goals (refine fin0 ?_; simp only [entC_eq, chainC, h0, cond_true, cond_false])
  cases hd : (a.2.1 == b.2.1)
  · cases hf : a.2.1
    ·
      rw [hf] at hd
      repeat' (first | (simp only [go_sem, zA, zB, zC, zD, zE, zF, zG, reduceCtorEq, zH, zI, zJ, zK, zL, encEnt_eq, h0, hd, hf]; all_goals fail_if_success guard_target =ₛ False) | (with_reducible first | ((first | refine seqVC_stepN rfl ?_ | refine AWP.seq ?_ | refine AWP.seqR (by kernel_rfl) ?_); intro K hK) | ((first | refine hK _ _ _ ?_ | refine hK _ _ ?_ | refine hK _ ?_); clear hK K) | refine seqVC_nil ?_ | refine AWP.block ?_ | (refine AWP.cond (by with_unfolding_all rfl) ?_ ?_ <;> intro h <;> (try simp only [zM, zN] at h) <;> try exact absurd h (by decide)) | refine AWP.skip ?_ | refine AWP.ret ?_ | refine AWP.exit ?_ | refine ⟨_, compareValues_c a.1 b.1 h, ?_⟩ | refine ⟨_, h3, ?_⟩ | refine Or.inl ?_) | (clear hK K))
      all_goals (refine fin0 ?_; simp only [entC_eq, chainC, h0, hd, hf, cond_true, cond_false, Bool.not_true, Bool.not_false])
    ·
      rw [hf] at hd
      repeat' (first | (simp only [go_sem, zA, zB, zC, zD, zE, zF, zG, reduceCtorEq, zH, zI, zJ, zK, zL, encEnt_eq, h0, hd, hf]; all_goals fail_if_success guard_target =ₛ False) | (with_reducible first | ((first | refine seqVC_stepN rfl ?_ | refine AWP.seq ?_ | refine AWP.seqR (by kernel_rfl) ?_); intro K hK) | ((first | refine hK _ _ _ ?_ | refine hK _ _ ?_ | refine hK _ ?_); clear hK K) | refine seqVC_nil ?_ | refine AWP.block ?_ | (refine AWP.cond (by with_unfolding_all rfl) ?_ ?_ <;> intro h <;> (try simp only [zM, zN] at h) <;> try exact absurd h (by decide)) | refine AWP.skip ?_ | refine AWP.ret ?_ | refine AWP.exit ?_ | refine ⟨_, compareValues_c a.1 b.1 h, ?_⟩ | refine ⟨_, h3, ?_⟩ | refine Or.inl ?_) | (clear hK K))
      all_goals (refine fin0 ?_; simp only [entC_eq, chainC, h0, hd, hf, cond_true, cond_false, Bool.not_true, Bool.not_false])
  ·
    repeat' (first | (simp only [go_sem, zA, zB, zC, zD, zE, zF, zG, reduceCtorEq, zH, zI, zJ, zK, zL, encEnt_eq, h0, hd]; all_goals fail_if_success guard_target =ₛ False) | (with_reducible first | ((first | refine seqVC_stepN rfl ?_ | refine AWP.seq ?_ | refine AWP.seqR (by kernel_rfl) ?_); intro K hK) | ((first | refine hK _ _ _ ?_ | refine hK _ _ ?_ | refine hK _ ?_); clear hK K) | refine seqVC_nil ?_ | refine AWP.block ?_ | (refine AWP.cond (by with_unfolding_all rfl) ?_ ?_ <;> intro h <;> (try simp only [zM, zN] at h) <;> try exact absurd h (by decide)) | refine AWP.skip ?_ | refine AWP.ret ?_ | refine AWP.exit ?_ | refine ⟨_, compareValues_c a.1 b.1 h, ?_⟩ | refine ⟨_, h3, ?_⟩ | refine Or.inl ?_) | (clear hK K))
    all_goals (refine fin0 ?_; simp only [entC_eq, chainC, h0, hd, cond_true, cond_false, Bool.not_true, Bool.not_false])
theorem compare_c (a b : Val) : PC Tryz.prog 58 [.st (encVal a), .st (encVal b)] (I .i64 (valC a b)) := by
  have hk : ∀ x ∈ a.kids, ∀ y, PC Tryz.prog 58 [.st (encVal x), .st (encVal y)] (I .i64 (valC x y)) := fun x hx y => compare_c x y
  have he : ∀ e ∈ a.ents, ∀ y, PC Tryz.prog 78 [.st (encEnt e), .st (encEnt y)] (I .i64 (entC e y)) := fun e he y => compareEntries_c e y (fun x hx y => compare_c x y) (fun y => compare_c e.2.2 y)
  refine PCB.of_body Tryz.func58 rfl (by decide) Tryz.ntmps58 Tryz.results58 rfl rfl rfl ?_ rfl rfl
  cases z1 : decide (cmpI a.kind b.kind = 0)
  ·
    repeat' (first | (simp only [go_sem, zA, zB, zC, zD, zE, zF, zG, reduceCtorEq, zH, zI, zJ, zK, zL, encVal_eq, z1]; all_goals fail_if_success guard_target =ₛ False) | (with_reducible first | ((first | refine seqVC_stepN rfl ?_ | refine AWP.seq ?_ | refine AWP.seqR (by kernel_rfl) ?_); intro K hK) | ((first | refine hK _ _ _ ?_ | refine hK _ _ ?_ | refine hK _ ?_); clear hK K) | refine seqVC_nil ?_ | refine AWP.block ?_ | (refine AWP.cond (by with_unfolding_all rfl) ?_ ?_ <;> intro h <;> (try simp only [zM, zN] at h) <;> try exact absurd h (by decide)) | refine AWP.skip ?_ | refine AWP.ret ?_ | refine AWP.exit ?_ | refine ⟨_, cmpInt_c _ _, ?_⟩ | refine ⟨_, cmpInt64_c _ _, ?_⟩ | refine ⟨_, stringsCompare_c _ _, ?_⟩ | refine ⟨_, cmpKeys_c 75 keyC a.keys b.keys (fun x _ y _ => identCompareKeys_c x y), ?_⟩ | refine ⟨_, compareValues_c a.kids b.kids hk, ?_⟩ | refine ⟨_, cmpEnts_c 78 entC a.ents b.ents (fun x hx y _ => he x hx y), ?_⟩ | refine ⟨_, cmpStrs_c 73 Lib.compareBytes a.labels b.labels (fun x _ y _ => stringsCompare_c x y), ?_⟩ | refine Or.inl ?_) | (clear hK K))
    all_goals (refine fin0 ?_; simp only [valC_eq, chainC, z1, cond_true, cond_false])
  cases z2 : decide (cmpI a.num b.num = 0)
  ·
    repeat' (first | (simp only [go_sem, zA, zB, zC, zD, zE, zF, zG, reduceCtorEq, zH, zI, zJ, zK, zL, encVal_eq, z1, z2]; all_goals fail_if_success guard_target =ₛ False) | (with_reducible first | ((first | refine seqVC_stepN rfl ?_ | refine AWP.seq ?_ | refine AWP.seqR (by kernel_rfl) ?_); intro K hK) | ((first | refine hK _ _ _ ?_ | refine hK _ _ ?_ | refine hK _ ?_); clear hK K) | refine seqVC_nil ?_ | refine AWP.block ?_ | (refine AWP.cond (by with_unfolding_all rfl) ?_ ?_ <;> intro h <;> (try simp only [zM, zN] at h) <;> try exact absurd h (by decide)) | refine AWP.skip ?_ | refine AWP.ret ?_ | refine AWP.exit ?_ | refine ⟨_, cmpInt_c _ _, ?_⟩ | refine ⟨_, cmpInt64_c _ _, ?_⟩ | refine ⟨_, stringsCompare_c _ _, ?_⟩ | refine ⟨_, cmpKeys_c 75 keyC a.keys b.keys (fun x _ y _ => identCompareKeys_c x y), ?_⟩ | refine ⟨_, compareValues_c a.kids b.kids hk, ?_⟩ | refine ⟨_, cmpEnts_c 78 entC a.ents b.ents (fun x hx y _ => he x hx y), ?_⟩ | refine ⟨_, cmpStrs_c 73 Lib.compareBytes a.labels b.labels (fun x _ y _ => stringsCompare_c x y), ?_⟩ | refine Or.inl ?_) | (clear hK K))
    all_goals (refine fin0 ?_; simp only [valC_eq, chainC, z1, z2, cond_true, cond_false])
  cases z3 : decide (Lib.compareBytes a.text b.text = 0)
  ·
    repeat' (first | (simp only [go_sem, zA, zB, zC, zD, zE, zF, zG, reduceCtorEq, zH, zI, zJ, zK, zL, encVal_eq, z1, z2, z3]; all_goals fail_if_success guard_target =ₛ False) | (with_reducible first | ((first | refine seqVC_stepN rfl ?_ | refine AWP.seq ?_ | refine AWP.seqR (by kernel_rfl) ?_); intro K hK) | ((first | refine hK _ _ _ ?_ | refine hK _ _ ?_ | refine hK _ ?_); clear hK K) | refine seqVC_nil ?_ | refine AWP.block ?_ | (refine AWP.cond (by with_unfolding_all rfl) ?_ ?_ <;> intro h <;> (try simp only [zM, zN] at h) <;> try exact absurd h (by decide)) | refine AWP.skip ?_ | refine AWP.ret ?_ | refine AWP.exit ?_ | refine ⟨_, cmpInt_c _ _, ?_⟩ | refine ⟨_, cmpInt64_c _ _, ?_⟩ | refine ⟨_, stringsCompare_c _ _, ?_⟩ | refine ⟨_, cmpKeys_c 75 keyC a.keys b.keys (fun x _ y _ => identCompareKeys_c x y), ?_⟩ | refine ⟨_, compareValues_c a.kids b.kids hk, ?_⟩ | refine ⟨_, cmpEnts_c 78 entC a.ents b.ents (fun x hx y _ => he x hx y), ?_⟩ | refine ⟨_, cmpStrs_c 73 Lib.compareBytes a.labels b.labels (fun x _ y _ => stringsCompare_c x y), ?_⟩ | refine Or.inl ?_) | (clear hK K))
    all_goals (refine fin0 ?_; simp only [valC_eq, chainC, z1, z2, z3, cond_true, cond_false])
  cases z4 : decide (listCmp keyC a.keys b.keys = 0)
  ·
    repeat' (first | (simp only [go_sem, zA, zB, zC, zD, zE, zF, zG, reduceCtorEq, zH, zI, zJ, zK, zL, encVal_eq, z1, z2, z3, z4]; all_goals fail_if_success guard_target =ₛ False) | (with_reducible first | ((first | refine seqVC_stepN rfl ?_ | refine AWP.seq ?_ | refine AWP.seqR (by kernel_rfl) ?_); intro K hK) | ((first | refine hK _ _ _ ?_ | refine hK _ _ ?_ | refine hK _ ?_); clear hK K) | refine seqVC_nil ?_ | refine AWP.block ?_ | (refine AWP.cond (by with_unfolding_all rfl) ?_ ?_ <;> intro h <;> (try simp only [zM, zN] at h) <;> try exact absurd h (by decide)) | refine AWP.skip ?_ | refine AWP.ret ?_ | refine AWP.exit ?_ | refine ⟨_, cmpInt_c _ _, ?_⟩ | refine ⟨_, cmpInt64_c _ _, ?_⟩ | refine ⟨_, stringsCompare_c _ _, ?_⟩ | refine ⟨_, cmpKeys_c 75 keyC a.keys b.keys (fun x _ y _ => identCompareKeys_c x y), ?_⟩ | refine ⟨_, compareValues_c a.kids b.kids hk, ?_⟩ | refine ⟨_, cmpEnts_c 78 entC a.ents b.ents (fun x hx y _ => he x hx y), ?_⟩ | refine ⟨_, cmpStrs_c 73 Lib.compareBytes a.labels b.labels (fun x _ y _ => stringsCompare_c x y), ?_⟩ | refine Or.inl ?_) | (clear hK K))
    all_goals (refine fin0 ?_; simp only [valC_eq, chainC, z1, z2, z3, z4, cond_true, cond_false])
  cases z5 : decide (listCmp valC a.kids b.kids = 0)
  ·
    repeat' (first | (simp only [go_sem, zA, zB, zC, zD, zE, zF, zG, reduceCtorEq, zH, zI, zJ, zK, zL, encVal_eq, z1, z2, z3, z4, z5]; all_goals fail_if_success guard_target =ₛ False) | (with_reducible first | ((first | refine seqVC_stepN rfl ?_ | refine AWP.seq ?_ | refine AWP.seqR (by kernel_rfl) ?_); intro K hK) | ((first | refine hK _ _ _ ?_ | refine hK _ _ ?_ | refine hK _ ?_); clear hK K) | refine seqVC_nil ?_ | refine AWP.block ?_ | (refine AWP.cond (by with_unfolding_all rfl) ?_ ?_ <;> intro h <;> (try simp only [zM, zN] at h) <;> try exact absurd h (by decide)) | refine AWP.skip ?_ | refine AWP.ret ?_ | refine AWP.exit ?_ | refine ⟨_, cmpInt_c _ _, ?_⟩ | refine ⟨_, cmpInt64_c _ _, ?_⟩ | refine ⟨_, stringsCompare_c _ _, ?_⟩ | refine ⟨_, cmpKeys_c 75 keyC a.keys b.keys (fun x _ y _ => identCompareKeys_c x y), ?_⟩ | refine ⟨_, compareValues_c a.kids b.kids hk, ?_⟩ | refine ⟨_, cmpEnts_c 78 entC a.ents b.ents (fun x hx y _ => he x hx y), ?_⟩ | refine ⟨_, cmpStrs_c 73 Lib.compareBytes a.labels b.labels (fun x _ y _ => stringsCompare_c x y), ?_⟩ | refine Or.inl ?_) | (clear hK K))
    all_goals (refine fin0 ?_; simp only [valC_eq, chainC, z1, z2, z3, z4, z5, cond_true, cond_false])
  cases z6 : decide (listCmp entC a.ents b.ents = 0)
  ·
    repeat' (first | (simp only [go_sem, zA, zB, zC, zD, zE, zF, zG, reduceCtorEq, zH, zI, zJ, zK, zL, encVal_eq, z1, z2, z3, z4, z5, z6]; all_goals fail_if_success guard_target =ₛ False) | (with_reducible first | ((first | refine seqVC_stepN rfl ?_ | refine AWP.seq ?_ | refine AWP.seqR (by kernel_rfl) ?_); intro K hK) | ((first | refine hK _ _ _ ?_ | refine hK _ _ ?_ | refine hK _ ?_); clear hK K) | refine seqVC_nil ?_ | refine AWP.block ?_ | (refine AWP.cond (by with_unfolding_all rfl) ?_ ?_ <;> intro h <;> (try simp only [zM, zN] at h) <;> try exact absurd h (by decide)) | refine AWP.skip ?_ | refine AWP.ret ?_ | refine AWP.exit ?_ | refine ⟨_, cmpInt_c _ _, ?_⟩ | refine ⟨_, cmpInt64_c _ _, ?_⟩ | refine ⟨_, stringsCompare_c _ _, ?_⟩ | refine ⟨_, cmpKeys_c 75 keyC a.keys b.keys (fun x _ y _ => identCompareKeys_c x y), ?_⟩ | refine ⟨_, compareValues_c a.kids b.kids hk, ?_⟩ | refine ⟨_, cmpEnts_c 78 entC a.ents b.ents (fun x hx y _ => he x hx y), ?_⟩ | refine ⟨_, cmpStrs_c 73 Lib.compareBytes a.labels b.labels (fun x _ y _ => stringsCompare_c x y), ?_⟩ | refine Or.inl ?_) | (clear hK K))
    all_goals (refine fin0 ?_; simp only [valC_eq, chainC, z1, z2, z3, z4, z5, z6, cond_true, cond_false])
  repeat' (first | (simp only [go_sem, zA, zB, zC, zD, zE, zF, zG, reduceCtorEq, zH, zI, zJ, zK, zL, encVal_eq, z1, z2, z3, z4, z5, z6]; all_goals fail_if_success guard_target =ₛ False) | (with_reducible first | ((first | refine seqVC_stepN rfl ?_ | refine AWP.seq ?_ | refine AWP.seqR (by kernel_rfl) ?_); intro K hK) | ((first | refine hK _ _ _ ?_ | refine hK _ _ ?_ | refine hK _ ?_); clear hK K) | refine seqVC_nil ?_ | refine AWP.block ?_ | (refine AWP.cond (by with_unfolding_all rfl) ?_ ?_ <;> intro h <;> (try simp only [zM, zN] at h) <;> try exact absurd h (by decide)) | refine AWP.skip ?_ | refine AWP.ret ?_ | refine AWP.exit ?_ | refine ⟨_, cmpInt_c _ _, ?_⟩ | refine ⟨_, cmpInt64_c _ _, ?_⟩ | refine ⟨_, stringsCompare_c _ _, ?_⟩ | refine ⟨_, cmpKeys_c 75 keyC a.keys b.keys (fun x _ y _ => identCompareKeys_c x y), ?_⟩ | refine ⟨_, compareValues_c a.kids b.kids hk, ?_⟩ | refine ⟨_, cmpEnts_c 78 entC a.ents b.ents (fun x hx y _ => he x hx y), ?_⟩ | refine ⟨_, cmpStrs_c 73 Lib.compareBytes a.labels b.labels (fun x _ y _ => stringsCompare_c x y), ?_⟩ | refine Or.inl ?_) | (clear hK K))
  all_goals (refine fin0 ?_; simp only [valC_eq, chainC, z1, z2, z3, z4, z5, z6, cond_true, cond_false])
termination_by SizeOf.sizeOf a
decreasing_by
  · cases a; simp only at hx; have := List.sizeOf_lt_of_mem hx; simp; omega
  · cases a; simp only at he; have h1 := List.sizeOf_lt_of_mem he; have h2 := List.sizeOf_lt_of_mem hx; obtain ⟨e1, e2, e3⟩ := e; simp at h1 h2 ⊢; omega
  · cases a; simp only at he; have h1 := List.sizeOf_lt_of_mem he; obtain ⟨e1, e2, e3⟩ := e; simp at h1 ⊢; omega
theorem equal_c (a b : Val) : PC Tryz.prog 34 [.st (encVal a), .st (encVal b)] (Bo (decide (valC a b = 0))) := by
  refine PCB.of_body Tryz.func34 rfl (by decide) Tryz.ntmps34 Tryz.results34 rfl rfl rfl ?_ rfl rfl
  repeat' (first | (simp only [go_sem, zA, zB, zC, zD, zE, zF, zG, reduceCtorEq, zH, zI, zJ, zK, zL]; all_goals fail_if_success guard_target =ₛ False) | (with_reducible first | ((first | refine seqVC_stepN rfl ?_ | refine AWP.seq ?_ | refine AWP.seqR (by kernel_rfl) ?_); intro K hK) | ((first | refine hK _ _ _ ?_ | refine hK _ _ ?_ | refine hK _ ?_); clear hK K) | refine seqVC_nil ?_ | refine AWP.block ?_ | (refine AWP.cond (by with_unfolding_all rfl) ?_ ?_ <;> intro h <;> (try simp only [zM, zN] at h) <;> try exact absurd h (by decide)) | refine AWP.skip ?_ | refine AWP.ret ?_ | refine AWP.exit ?_ | refine ⟨_, compare_c a b, ?_⟩ | refine Or.inl ?_) | (clear hK K))
  all_goals (first | exact fun _ h => (by cases h) | refine fin0 ?_)
  all_goals rfl
end Go.Proofs.YtmpfdejckbceiaaGreat
set_option linter.unusedSimpArgs false
set_option linter.unusedVariables false
set_option maxRecDepth 20000
set_option maxHeartbeats 4000000
namespace Go.Proofs.YtmpfdejckbceiaaGreat
open Go Go.Sx
open Nat renaming reduceBEq → zA, reduceBNe → zB, reduceAdd → zC, reduceSub → zD, reduceMul → zE, reduceLeDiff → zF, reduceLT → zG, reduceEqDiff → zH
open Int renaming reduceToNat → zI, reduceLE → zJ, reduceLT → zK, reduceEq → zL
open Bool renaming not_eq_true' → zM, not_eq_false' → zN
/-- the document's order of values is the same -/
theorem bytesLess_cmp : ∀ a b : List UInt8, Op.bytesLess a b = decide (Lib.compareBytes a b = -1)
  | [], [] => by simp [Op.bytesLess, Lib.compareBytes]
  | [], _ :: _ => by simp [Op.bytesLess, Lib.compareBytes]
  | _ :: _, [] => by simp [Op.bytesLess, Lib.compareBytes]
  | x :: a, y :: b => by
    have ih := bytesLess_cmp a b
    simp only [Op.bytesLess, Lib.compareBytes]
    by_cases h1 : x < y
    · simp [h1]
    · by_cases h2 : y < x
      · have hne : ¬ x = y := by intro e; subst e; exact h1 h2
        simp [h1, h2, hne]
      · have hxy : x = y := UInt8.le_antisymm (UInt8.not_lt.1 h2) (UInt8.not_lt.1 h1)
        simp [h1, h2, hxy, ih]
theorem cmpB_range : ∀ a b : List UInt8, Lib.compareBytes a b = -1 ∨ Lib.compareBytes a b = 0 ∨ Lib.compareBytes a b = 1
  | [], [] => by simp [Lib.compareBytes]
  | [], _ :: _ => by simp [Lib.compareBytes]
  | _ :: _, [] => by simp [Lib.compareBytes]
  | x :: a, y :: b => by
    have ih := cmpB_range a b
    simp only [Lib.compareBytes]
    split
    · simp
    · split
      · simp
      · exact ih
theorem textCmp_eq (a b : List UInt8) : textCmp a b = Lib.compareBytes a b := by
  unfold textCmp
  rw [bytesLess_cmp]
  have hz := @cmpB_zero a b
  rcases cmpB_range a b with h | h | h
  · simp [h]
  · have := hz.1 h
    simp [h, this]
    have h2 := (@cmpB_zero b b).2 rfl
    simp [h2]
  · have : ¬ a = b := fun e => by have := hz.2 e; omega
    simp [h, this]
theorem keyCmp_eq (a b : KeyD) : keyCmp a b = keyC a b := by
  unfold keyCmp keyC chainC
  rw [textCmp_eq]
  have : decide (cmpI a.kind b.kind = 0) = decide (a.kind = b.kind) := by
    rw [← Bool.coe_iff_coe]; simp [cmpI_zero]
  rw [this]
  cases decide (a.kind = b.kind) <;> rfl
theorem refText_c (a b : List UInt8) : PC Tryz.prog 53 [S a, S b] (I .i64 (Lib.compareBytes a b)) := by
  rw [← textCmp_eq]; exact text_c a b
theorem refOrder_c (a b : Int) : PC Tryz.prog 52 [I .i64 a, I .i64 b] (I .i64 (cmpI a b)) := order_c a b
theorem refKeys_c (a b : KeyD) : PC Tryz.prog 47 [.st (encKey a), .st (encKey b)] (I .i64 (keyC a b)) := by
  rw [← keyCmp_eq]; exact compareKeys_c a b
theorem count_c (a b : Int) : PC Tryz.prog 51 [I .i64 a, I .i64 b] (I .i64 (cmpI a b)) := by
  refine PCB.of_body Tryz.func51 rfl (by decide) Tryz.ntmps51 Tryz.results51 rfl rfl rfl ?_ rfl rfl
  repeat' (first | (simp only [go_sem, zA, zB, zC, zD, zE, zF, zG, reduceCtorEq, zH, zI, zJ, zK, zL]; all_goals fail_if_success guard_target =ₛ False) | (with_reducible first | ((first | refine seqVC_stepN rfl ?_ | refine AWP.seq ?_ | refine AWP.seqR (by kernel_rfl) ?_); intro K hK) | ((first | refine hK _ _ _ ?_ | refine hK _ _ ?_ | refine hK _ ?_); clear hK K) | refine seqVC_nil ?_ | refine AWP.block ?_ | (refine AWP.cond (by with_unfolding_all rfl) ?_ ?_ <;> intro h <;> (try simp only [zM, zN] at h) <;> try exact absurd h (by decide)) | refine AWP.skip ?_ | refine AWP.ret ?_ | refine AWP.exit ?_ | refine ⟨_, refOrder_c _ _, ?_⟩ | refine Or.inl ?_) | (clear hK K))
  all_goals (first | exact fun _ h => (by cases h) | refine fin0 ?_)
  all_goals rfl
theorem firstC_step {α : Type} {f : α → α → Int} {a b : List α} {k : Nat} {x y : α} (hx : a[k]? = some x) (hy : b[k]? = some y) :
    firstC f (a.drop k) (b.drop k) = bif decide (f x y = 0) then firstC f (a.drop (k + 1)) (b.drop (k + 1)) else f x y := by
  have h1 := (List.getElem?_eq_some_iff.1 hx)
  have h2 := (List.getElem?_eq_some_iff.1 hy)
  obtain ⟨h1, e1⟩ := h1
  obtain ⟨h2, e2⟩ := h2
  rw [List.drop_eq_getElem_cons h1, List.drop_eq_getElem_cons h2, e1, e2]
  rfl
theorem firstC_end {α : Type} {f : α → α → Int} {a b : List α} : firstC f (a.drop a.length) (b.drop a.length) = 0 := by
  rw [List.drop_length]; exact firstC_nil f _
theorem len_dec {a b : Nat} : decide (cmpI (a : Int) (b : Int) = 0) = decide ((a : Int) = (b : Int)) := by
  rw [← Bool.coe_iff_coe]; simp [cmpI_zero]
theorem refValues_c (a b : List Val) (hh : ∀ x ∈ a, ∀ y, PC Tryz.prog 29 [.st (encVal x), .st (encVal y)] (I .i64 (valC x y))) :
    PC Tryz.prog 54 [.one (.dat (.sl 7 (a.map encVal))), .one (.dat (.sl 7 (b.map encVal)))] (I .i64 (listCmp valC a b)) := by
  unfold listCmp
  rw [len_dec]
  refine PCB.of_body Tryz.func54 rfl (by decide) Tryz.ntmps54 Tryz.results54 rfl rfl rfl ?_ rfl rfl
  cases hl : decide ((a.length : Int) = (b.length : Int)) with
  | false =>
    repeat' (first | (simp only [go_sem, zA, zB, zC, zD, zE, zF, zG, reduceCtorEq, zH, zI, zJ, zK, zL, List.length_map, hl]; all_goals fail_if_success guard_target =ₛ False) | (with_reducible first | ((first | refine seqVC_stepN rfl ?_ | refine AWP.seq ?_ | refine AWP.seqR (by kernel_rfl) ?_ | refine parVC_stepN rfl ?_ | refine parEVC_stepN rfl ?_ | refine genVC_stepN rfl ?_); intro K hK) | ((first | refine hK _ _ _ ?_ | refine hK _ _ ?_ | refine hK _ ?_); clear hK K) | refine seqVC_nil ?_ | refine parVC_nil ?_ | refine parEVC_nil ?_ | refine genVC_nil ?_ | refine AWP.block ?_ | (refine AWP.cond (by with_unfolding_all rfl) ?_ ?_ <;> intro h <;> (try simp only [zM, zN] at h) <;> try exact absurd h (by decide)) | refine AWP.skip ?_ | refine AWP.ret ?_ | refine AWP.exit ?_ | refine ⟨_, count_c _ _, ?_⟩ | refine AWP.parR mixed (by kernel_rfl) fun K hK => ?_ | refine ⟨(by kernel_rfl : depB _ _ _ = true), ?_⟩ | refine Or.inl ?_) | (clear hK K))
    all_goals (first | exact fun _ h => (by cases h) | refine fin0 ?_)
    all_goals rfl
  | true =>
    have hlab : a.length = b.length := by have := of_decide_eq_true hl; omega
    repeat' (first | (simp only [go_sem, zA, zB, zC, zD, zE, zF, zG, reduceCtorEq, zH, zI, zJ, zK, zL, List.length_map, hl]; all_goals fail_if_success guard_target =ₛ False) | (with_reducible first | ((first | refine seqVC_stepN rfl ?_ | refine AWP.seq ?_ | refine AWP.seqR (by kernel_rfl) ?_ | refine parVC_stepN rfl ?_ | refine parEVC_stepN rfl ?_ | refine genVC_stepN rfl ?_); intro K hK) | ((first | refine hK _ _ _ ?_ | refine hK _ _ ?_ | refine hK _ ?_); clear hK K) | refine seqVC_nil ?_ | refine parVC_nil ?_ | refine parEVC_nil ?_ | refine genVC_nil ?_ | refine AWP.block ?_ | (refine AWP.cond (by with_unfolding_all rfl) ?_ ?_ <;> intro h <;> (try simp only [zM, zN] at h) <;> try exact absurd h (by decide)) | refine AWP.skip ?_ | refine AWP.ret ?_ | refine AWP.exit ?_ | refine ⟨_, count_c _ _, ?_⟩ | refine AWP.parR mixed (by kernel_rfl) fun K hK => ?_ | refine ⟨(by kernel_rfl : depB _ _ _ = true), ?_⟩ | refine Or.inl ?_) | (clear hK K))
    refine AWP.len 0 rfl fun hlen0 => ?_
    (try rw [List.length_map] at hlen0)
    refine AWP.range (S := Unit) (a) encVal (fun k s => (5, I .i64 (k : Nat)) :: []) (fun k s => []) [0, 1] [] (fun k s => firstC valC a b = firstC valC (a.drop k) (b.drop k)) (()) (by simp only [go_sem, zA, zB, zC, zD, zE, zF, zG, reduceCtorEq, zH, zI, zJ, zK, zL]; exact Gh.to [] (by repeat (first | exact trivial | refine ⟨rfl, ?_⟩ | refine ⟨by (simp only [go_sem, zA, zB, zC, zD, zE, zF, zG, reduceCtorEq, zH, zI, zJ, zK, zL, List.length_append, List.length_map, List.length_cons, List.length_nil, Nat.zero_add]) <;> rfl, ?_⟩)) (by repeat (first | exact trivial | refine ⟨rfl, ?_⟩ | refine ⟨by (simp only [go_sem, zA, zB, zC, zD, zE, zF, zG, reduceCtorEq, zH, zI, zJ, zK, zL, List.length_append, List.length_map, List.length_cons, List.length_nil, Nat.zero_add]) <;> rfl, ?_⟩)) rfl rfl rfl) ?_ ?_ ?_
    · rfl
    · intro k s x hlt hx hx' hb hok
      simp only [go_sem, zA, zB, zC, zD, zE, zF, zG, reduceCtorEq, zH, zI, zJ, zK, zL]
      obtain ⟨y, hy, hy', _, _⟩ := at_lt (enc := encVal) (show k < b.length by omega)
      rw [firstC_step hx hy] at hok
      cases hz : decide (valC x y = 0) <;> simp only [hz, cond_true, cond_false] at hok
      ·
        repeat' (first | (simp only [go_sem, zA, zB, zC, zD, zE, zF, zG, reduceCtorEq, zH, zI, zJ, zK, zL, List.length_map, hb, hz]; all_goals fail_if_success guard_target =ₛ False) | (with_reducible first | ((first | refine seqVC_stepN rfl ?_ | refine AWP.seq ?_ | refine AWP.seqR (by kernel_rfl) ?_ | refine parVC_stepN rfl ?_ | refine parEVC_stepN rfl ?_ | refine genVC_stepN rfl ?_); intro K hK) | ((first | refine hK _ _ _ ?_ | refine hK _ _ ?_ | refine hK _ ?_); clear hK K) | refine seqVC_nil ?_ | refine parVC_nil ?_ | refine parEVC_nil ?_ | refine genVC_nil ?_ | refine AWP.block ?_ | (refine AWP.cond (by with_unfolding_all rfl) ?_ ?_ <;> intro h <;> (try simp only [zM, zN] at h) <;> try exact absurd h (by decide)) | refine AWP.skip ?_ | refine AWP.ret ?_ | refine AWP.exit ?_ | refine ⟨_, hh x (List.mem_of_getElem? hx) y, ?_⟩ | refine ⟨by omega, encVal x, hx', ?_⟩ | refine ⟨by omega, encVal y, hy', ?_⟩ | refine AWP.parR mixed (by kernel_rfl) fun K hK => ?_ | refine ⟨(by kernel_rfl : depB _ _ _ = true), ?_⟩ | refine Or.inl ?_) | (clear hK K))
        all_goals (refine fin0 ?_; rw [hok])
      ·
        repeat' (first | (simp only [go_sem, zA, zB, zC, zD, zE, zF, zG, reduceCtorEq, zH, zI, zJ, zK, zL, List.length_map, hb, hz]; all_goals fail_if_success guard_target =ₛ False) | (with_reducible first | ((first | refine seqVC_stepN rfl ?_ | refine AWP.seq ?_ | refine AWP.seqR (by kernel_rfl) ?_ | refine parVC_stepN rfl ?_ | refine parEVC_stepN rfl ?_ | refine genVC_stepN rfl ?_); intro K hK) | ((first | refine hK _ _ _ ?_ | refine hK _ _ ?_ | refine hK _ ?_); clear hK K) | refine seqVC_nil ?_ | refine parVC_nil ?_ | refine parEVC_nil ?_ | refine genVC_nil ?_ | refine AWP.block ?_ | (refine AWP.cond (by with_unfolding_all rfl) ?_ ?_ <;> intro h <;> (try simp only [zM, zN] at h) <;> try exact absurd h (by decide)) | refine AWP.skip ?_ | refine AWP.ret ?_ | refine AWP.exit ?_ | refine ⟨_, hh x (List.mem_of_getElem? hx) y, ?_⟩ | refine ⟨by omega, encVal x, hx', ?_⟩ | refine ⟨by omega, encVal y, hy', ?_⟩ | refine AWP.parR mixed (by kernel_rfl) fun K hK => ?_ | refine ⟨(by kernel_rfl : depB _ _ _ = true), ?_⟩ | refine Or.inl ?_) | (clear hK K))
        all_goals (rw [wrap_succ hlt hlen0])
        all_goals (refine ⟨(), ?_, Gh.to [] (by repeat (first | exact trivial | refine ⟨rfl, ?_⟩ | refine ⟨by (simp only [go_sem, zA, zB, zC, zD, zE, zF, zG, reduceCtorEq, zH, zI, zJ, zK, zL, List.length_append, List.length_map, List.length_cons, List.length_nil, Nat.zero_add]) <;> rfl, ?_⟩)) (by repeat (first | exact trivial | refine ⟨rfl, ?_⟩ | refine ⟨by (simp only [go_sem, zA, zB, zC, zD, zE, zF, zG, reduceCtorEq, zH, zI, zJ, zK, zL, List.length_append, List.length_map, List.length_cons, List.length_nil, Nat.zero_add]) <;> rfl, ?_⟩)) rfl rfl rfl⟩)
        all_goals exact hok
    · intro s hb hok
      simp only [go_sem, zA, zB, zC, zD, zE, zF, zG, reduceCtorEq, zH, zI, zJ, zK, zL]
      rw [firstC_end] at hok
      repeat' (first | (simp only [go_sem, zA, zB, zC, zD, zE, zF, zG, reduceCtorEq, zH, zI, zJ, zK, zL, List.length_map, hb]; all_goals fail_if_success guard_target =ₛ False) | (with_reducible first | ((first | refine seqVC_stepN rfl ?_ | refine AWP.seq ?_ | refine AWP.seqR (by kernel_rfl) ?_ | refine parVC_stepN rfl ?_ | refine parEVC_stepN rfl ?_ | refine genVC_stepN rfl ?_); intro K hK) | ((first | refine hK _ _ _ ?_ | refine hK _ _ ?_ | refine hK _ ?_); clear hK K) | refine seqVC_nil ?_ | refine parVC_nil ?_ | refine parEVC_nil ?_ | refine genVC_nil ?_ | refine AWP.block ?_ | (refine AWP.cond (by with_unfolding_all rfl) ?_ ?_ <;> intro h <;> (try simp only [zM, zN] at h) <;> try exact absurd h (by decide)) | refine AWP.skip ?_ | refine AWP.ret ?_ | refine AWP.exit ?_ | refine AWP.parR mixed (by kernel_rfl) fun K hK => ?_ | refine ⟨(by kernel_rfl : depB _ _ _ = true), ?_⟩ | refine Or.inl ?_) | (clear hK K))
      all_goals (refine fin0 ?_; rw [hok])
theorem refEntries_c (a b : List Val × Bool × Val) (hh : ∀ x ∈ a.1, ∀ y, PC Tryz.prog 29 [.st (encVal x), .st (encVal y)] (I .i64 (valC x y))) (h2 : ∀ y, PC Tryz.prog 29 [.st (encVal a.2.2), .st (encVal y)] (I .i64 (valC a.2.2 y))) :
    PC Tryz.prog 55 [.st (encEnt a), .st (encEnt b)] (I .i64 (entC a b)) := by
  have h3 := h2 b.2.2
  rw [encVal_eq, encVal_eq] at h3
  refine PCB.of_body Tryz.func55 rfl (by decide) Tryz.ntmps55 Tryz.results55 rfl rfl rfl ?_ rfl rfl
  cases h0 : decide (listCmp valC a.1 b.1 = 0)
  ·
    repeat' (first | (simp only [go_sem, zA, zB, zC, zD, zE, zF, zG, reduceCtorEq, zH, zI, zJ, zK, zL, encEnt_eq, h0]; all_goals fail_if_success guard_target =ₛ False) | (with_reducible first | ((first | refine seqVC_stepN rfl ?_ | refine AWP.seq ?_ | refine AWP.seqR (by kernel_rfl) ?_); intro K hK) | ((first | refine hK _ _ _ ?_ | refine hK _ _ ?_ | refine hK _ ?_); clear hK K) | refine seqVC_nil ?_ | refine AWP.block ?_ | (refine AWP.cond (by with_unfolding_all rfl) ?_ ?_ <;> intro h <;> (try simp only [zM, zN] at h) <;> try exact absurd h (by decide)) | refine AWP.skip ?_ | refine AWP.ret ?_ | refine AWP.exit ?_ | refine ⟨_, refValues_c a.1 b.1 hh, ?_⟩ | refine Or.inl ?_) | (clear hK K))
    all_goals (refine fin0 ?_; simp only [entC_eq, chainC, h0, cond_true, cond_false])
  cases hd : (a.2.1 == b.2.1)
  · cases hf : a.2.1
    ·
      rw [hf] at hd
      repeat' (first | (simp only [go_sem, zA, zB, zC, zD, zE, zF, zG, reduceCtorEq, zH, zI, zJ, zK, zL, encEnt_eq, h0, hd, hf]; all_goals fail_if_success guard_target =ₛ False) | (with_reducible first | ((first | refine seqVC_stepN rfl ?_ | refine AWP.seq ?_ | refine AWP.seqR (by kernel_rfl) ?_); intro K hK) | ((first | refine hK _ _ _ ?_ | refine hK _ _ ?_ | refine hK _ ?_); clear hK K) | refine seqVC_nil ?_ | refine AWP.block ?_ | (refine AWP.cond (by with_unfolding_all rfl) ?_ ?_ <;> intro h <;> (try simp only [zM, zN] at h) <;> try exact absurd h (by decide)) | refine AWP.skip ?_ | refine AWP.ret ?_ | refine AWP.exit ?_ | refine ⟨_, refValues_c a.1 b.1 hh, ?_⟩ | refine ⟨_, h3, ?_⟩ | refine Or.inl ?_) | (clear hK K))
      all_goals (refine fin0 ?_; simp only [entC_eq, chainC, h0, hd, hf, cond_true, cond_false, Bool.not_true, Bool.not_false])
    ·
      rw [hf] at hd
      repeat' (first | (simp only [go_sem, zA, zB, zC, zD, zE, zF, zG, reduceCtorEq, zH, zI, zJ, zK, zL, encEnt_eq, h0, hd, hf]; all_goals fail_if_success guard_target =ₛ False) | (with_reducible first | ((first | refine seqVC_stepN rfl ?_ | refine AWP.seq ?_ | refine AWP.seqR (by kernel_rfl) ?_); intro K hK) | ((first | refine hK _ _ _ ?_ | refine hK _ _ ?_ | refine hK _ ?_); clear hK K) | refine seqVC_nil ?_ | refine AWP.block ?_ | (refine AWP.cond (by with_unfolding_all rfl) ?_ ?_ <;> intro h <;> (try simp only [zM, zN] at h) <;> try exact absurd h (by decide)) | refine AWP.skip ?_ | refine AWP.ret ?_ | refine AWP.exit ?_ | refine ⟨_, refValues_c a.1 b.1 hh, ?_⟩ | refine ⟨_, h3, ?_⟩ | refine Or.inl ?_) | (clear hK K))
      all_goals (refine fin0 ?_; simp only [entC_eq, chainC, h0, hd, hf, cond_true, cond_false, Bool.not_true, Bool.not_false])
  ·
    repeat' (first | (simp only [go_sem, zA, zB, zC, zD, zE, zF, zG, reduceCtorEq, zH, zI, zJ, zK, zL, encEnt_eq, h0, hd]; all_goals fail_if_success guard_target =ₛ False) | (with_reducible first | ((first | refine seqVC_stepN rfl ?_ | refine AWP.seq ?_ | refine AWP.seqR (by kernel_rfl) ?_); intro K hK) | ((first | refine hK _ _ _ ?_ | refine hK _ _ ?_ | refine hK _ ?_); clear hK K) | refine seqVC_nil ?_ | refine AWP.block ?_ | (refine AWP.cond (by with_unfolding_all rfl) ?_ ?_ <;> intro h <;> (try simp only [zM, zN] at h) <;> try exact absurd h (by decide)) | refine AWP.skip ?_ | refine AWP.ret ?_ | refine AWP.exit ?_ | refine ⟨_, refValues_c a.1 b.1 hh, ?_⟩ | refine ⟨_, h3, ?_⟩ | refine Or.inl ?_) | (clear hK K))
    all_goals (refine fin0 ?_; simp only [entC_eq, chainC, h0, hd, cond_true, cond_false, Bool.not_true, Bool.not_false])
theorem dec_cmpI {a b : Int} : decide (cmpI a b = 0) = decide (a = b) := by
  rw [← Bool.coe_iff_coe]; simp [cmpI_zero]
theorem dec_cmpB {a b : List UInt8} : decide (Lib.compareBytes a b = 0) = decide (a = b) := by
  rw [← Bool.coe_iff_coe]; simp [cmpB_zero]
theorem refCompare_c (a b : Val) : PC Tryz.prog 29 [.st (encVal a), .st (encVal b)] (I .i64 (valC a b)) := by
  have hk : ∀ x ∈ a.kids, ∀ y, PC Tryz.prog 29 [.st (encVal x), .st (encVal y)] (I .i64 (valC x y)) := fun x hx y => refCompare_c x y
  have he : ∀ e ∈ a.ents, ∀ y, PC Tryz.prog 55 [.st (encEnt e), .st (encEnt y)] (I .i64 (entC e y)) := fun e he y => refEntries_c e y (fun x hx y => refCompare_c x y) (fun y => refCompare_c e.2.2 y)
  have hm := valC_eq a b
  simp only [chainC, listCmp, dec_cmpI, dec_cmpB] at hm
  refine PCB.of_body Tryz.func29 rfl (by decide) Tryz.ntmps29 Tryz.results29 rfl rfl rfl ?_ rfl rfl
  cases z1 : decide (a.kind = b.kind)
  ·
    repeat' (first | (simp only [go_sem, zA, zB, zC, zD, zE, zF, zG, reduceCtorEq, zH, zI, zJ, zK, zL, encVal_eq, z1]; all_goals fail_if_success guard_target =ₛ False) | (with_reducible first | ((first | refine seqVC_stepN rfl ?_ | refine AWP.seq ?_ | refine AWP.seqR (by kernel_rfl) ?_ | refine parVC_stepN rfl ?_ | refine parEVC_stepN rfl ?_ | refine genVC_stepN rfl ?_); intro K hK) | ((first | refine hK _ _ _ ?_ | refine hK _ _ ?_ | refine hK _ ?_); clear hK K) | refine seqVC_nil ?_ | refine parVC_nil ?_ | refine parEVC_nil ?_ | refine genVC_nil ?_ | refine AWP.block ?_ | (refine AWP.cond (by with_unfolding_all rfl) ?_ ?_ <;> intro h <;> (try simp only [zM, zN] at h) <;> try exact absurd h (by decide)) | refine AWP.skip ?_ | refine AWP.ret ?_ | refine AWP.exit ?_ | refine ⟨_, count_c _ _, ?_⟩ | refine AWP.parR mixed (by kernel_rfl) fun K hK => ?_ | refine ⟨(by kernel_rfl : depB _ _ _ = true), ?_⟩ | refine Or.inl ?_) | (clear hK K))
    all_goals (refine fin0 ?_; simp only [hm, z1, cond_true, cond_false])
  cases z2 : decide (a.num = b.num)
  ·
    repeat' (first | (simp only [go_sem, zA, zB, zC, zD, zE, zF, zG, reduceCtorEq, zH, zI, zJ, zK, zL, encVal_eq, z1, z2]; all_goals fail_if_success guard_target =ₛ False) | (with_reducible first | ((first | refine seqVC_stepN rfl ?_ | refine AWP.seq ?_ | refine AWP.seqR (by kernel_rfl) ?_ | refine parVC_stepN rfl ?_ | refine parEVC_stepN rfl ?_ | refine genVC_stepN rfl ?_); intro K hK) | ((first | refine hK _ _ _ ?_ | refine hK _ _ ?_ | refine hK _ ?_); clear hK K) | refine seqVC_nil ?_ | refine parVC_nil ?_ | refine parEVC_nil ?_ | refine genVC_nil ?_ | refine AWP.block ?_ | (refine AWP.cond (by with_unfolding_all rfl) ?_ ?_ <;> intro h <;> (try simp only [zM, zN] at h) <;> try exact absurd h (by decide)) | refine AWP.skip ?_ | refine AWP.ret ?_ | refine AWP.exit ?_ | refine ⟨_, refOrder_c _ _, ?_⟩ | refine AWP.parR mixed (by kernel_rfl) fun K hK => ?_ | refine ⟨(by kernel_rfl : depB _ _ _ = true), ?_⟩ | refine Or.inl ?_) | (clear hK K))
    all_goals (refine fin0 ?_; simp only [hm, z1, z2, cond_true, cond_false])
  cases z3 : decide (a.text = b.text)
  ·
    repeat' (first | (simp only [go_sem, zA, zB, zC, zD, zE, zF, zG, reduceCtorEq, zH, zI, zJ, zK, zL, encVal_eq, z1, z2, z3]; all_goals fail_if_success guard_target =ₛ False) | (with_reducible first | ((first | refine seqVC_stepN rfl ?_ | refine AWP.seq ?_ | refine AWP.seqR (by kernel_rfl) ?_ | refine parVC_stepN rfl ?_ | refine parEVC_stepN rfl ?_ | refine genVC_stepN rfl ?_); intro K hK) | ((first | refine hK _ _ _ ?_ | refine hK _ _ ?_ | refine hK _ ?_); clear hK K) | refine seqVC_nil ?_ | refine parVC_nil ?_ | refine parEVC_nil ?_ | refine genVC_nil ?_ | refine AWP.block ?_ | (refine AWP.cond (by with_unfolding_all rfl) ?_ ?_ <;> intro h <;> (try simp only [zM, zN] at h) <;> try exact absurd h (by decide)) | refine AWP.skip ?_ | refine AWP.ret ?_ | refine AWP.exit ?_ | refine ⟨_, refText_c _ _, ?_⟩ | refine AWP.parR mixed (by kernel_rfl) fun K hK => ?_ | refine ⟨(by kernel_rfl : depB _ _ _ = true), ?_⟩ | refine Or.inl ?_) | (clear hK K))
    all_goals (refine fin0 ?_; simp only [hm, z1, z2, z3, cond_true, cond_false])
  cases z4 : decide ((a.keys.length : Int) = (b.keys.length : Int))
  ·
    repeat' (first | (simp only [go_sem, zA, zB, zC, zD, zE, zF, zG, reduceCtorEq, zH, zI, zJ, zK, zL, encVal_eq, z1, z2, z3, z4, List.length_map]; all_goals fail_if_success guard_target =ₛ False) | (with_reducible first | ((first | refine seqVC_stepN rfl ?_ | refine AWP.seq ?_ | refine AWP.seqR (by kernel_rfl) ?_ | refine parVC_stepN rfl ?_ | refine parEVC_stepN rfl ?_ | refine genVC_stepN rfl ?_); intro K hK) | ((first | refine hK _ _ _ ?_ | refine hK _ _ ?_ | refine hK _ ?_); clear hK K) | refine seqVC_nil ?_ | refine parVC_nil ?_ | refine parEVC_nil ?_ | refine genVC_nil ?_ | refine AWP.block ?_ | (refine AWP.cond (by with_unfolding_all rfl) ?_ ?_ <;> intro h <;> (try simp only [zM, zN] at h) <;> try exact absurd h (by decide)) | refine AWP.skip ?_ | refine AWP.ret ?_ | refine AWP.exit ?_ | refine ⟨_, count_c _ _, ?_⟩ | refine AWP.parR mixed (by kernel_rfl) fun K hK => ?_ | refine ⟨(by kernel_rfl : depB _ _ _ = true), ?_⟩ | refine Or.inl ?_) | (clear hK K))
    all_goals (refine fin0 ?_; simp only [hm, z1, z2, z3, z4, cond_true, cond_false])
    all_goals (simp only [dec_cmpI, z4, cond_false])
  have l4 : a.keys.length = b.keys.length := by have := of_decide_eq_true z4; omega
  repeat' (first | (simp only [go_sem, zA, zB, zC, zD, zE, zF, zG, reduceCtorEq, zH, zI, zJ, zK, zL, encVal_eq, z1, z2, z3, z4, List.length_map]; all_goals fail_if_success guard_target =ₛ False) | (with_reducible first | ((first | refine seqVC_stepN rfl ?_ | refine AWP.seq ?_ | refine AWP.seqR (by kernel_rfl) ?_ | refine parVC_stepN rfl ?_ | refine parEVC_stepN rfl ?_ | refine genVC_stepN rfl ?_); intro K hK) | ((first | refine hK _ _ _ ?_ | refine hK _ _ ?_ | refine hK _ ?_); clear hK K) | refine seqVC_nil ?_ | refine parVC_nil ?_ | refine parEVC_nil ?_ | refine genVC_nil ?_ | refine AWP.block ?_ | (refine AWP.cond (by with_unfolding_all rfl) ?_ ?_ <;> intro h <;> (try simp only [zM, zN] at h) <;> try exact absurd h (by decide)) | refine AWP.skip ?_ | refine AWP.ret ?_ | refine AWP.exit ?_ | refine AWP.parR mixed (by kernel_rfl) fun K hK => ?_ | refine ⟨(by kernel_rfl : depB _ _ _ = true), ?_⟩ | refine Or.inl ?_) | (clear hK K))
  refine AWP.lenB 2 4 rfl rfl fun hlen0 => ?_
  (try rw [List.length_map] at hlen0)
  refine AWP.range (S := Unit) (a.keys) encKey (fun k s => (5, I .i64 (k : Nat)) :: []) (fun k s => []) [2, 3] [2, 3] (fun k s => firstC keyC a.keys b.keys = firstC keyC (a.keys.drop k) (b.keys.drop k)) (()) (by simp only [go_sem, zA, zB, zC, zD, zE, zF, zG, reduceCtorEq, zH, zI, zJ, zK, zL]; exact Gh.to [] (by repeat (first | exact trivial | refine ⟨rfl, ?_⟩ | refine ⟨by (simp only [go_sem, zA, zB, zC, zD, zE, zF, zG, reduceCtorEq, zH, zI, zJ, zK, zL, List.length_append, List.length_map, List.length_cons, List.length_nil, Nat.zero_add]) <;> rfl, ?_⟩)) (by repeat (first | exact trivial | refine ⟨rfl, ?_⟩ | refine ⟨by (simp only [go_sem, zA, zB, zC, zD, zE, zF, zG, reduceCtorEq, zH, zI, zJ, zK, zL, List.length_append, List.length_map, List.length_cons, List.length_nil, Nat.zero_add]) <;> rfl, ?_⟩)) rfl rfl rfl) ?_ ?_ ?_
  · rfl
  · intro k s x hlt hx hx' hb hok
    simp only [go_sem, zA, zB, zC, zD, zE, zF, zG, reduceCtorEq, zH, zI, zJ, zK, zL]
    obtain ⟨y, hy, hy', _, _⟩ := at_lt (enc := encKey) (show k < b.keys.length by omega)
    rw [firstC_step hx hy] at hok
    cases hz : decide (keyC x y = 0) <;> simp only [hz, cond_true, cond_false] at hok
    ·
      repeat' (first | (simp only [go_sem, zA, zB, zC, zD, zE, zF, zG, reduceCtorEq, zH, zI, zJ, zK, zL, encVal_eq, List.length_map, hb, hz]; all_goals fail_if_success guard_target =ₛ False) | (with_reducible first | ((first | refine seqVC_stepN rfl ?_ | refine AWP.seq ?_ | refine AWP.seqR (by kernel_rfl) ?_ | refine parVC_stepN rfl ?_ | refine parEVC_stepN rfl ?_ | refine genVC_stepN rfl ?_); intro K hK) | ((first | refine hK _ _ _ ?_ | refine hK _ _ ?_ | refine hK _ ?_); clear hK K) | refine seqVC_nil ?_ | refine parVC_nil ?_ | refine parEVC_nil ?_ | refine genVC_nil ?_ | refine AWP.block ?_ | (refine AWP.cond (by with_unfolding_all rfl) ?_ ?_ <;> intro h <;> (try simp only [zM, zN] at h) <;> try exact absurd h (by decide)) | refine AWP.skip ?_ | refine AWP.ret ?_ | refine AWP.exit ?_ | refine ⟨_, refKeys_c x y, ?_⟩ | refine ⟨by omega, encKey x, hx', ?_⟩ | refine ⟨by omega, encKey y, hy', ?_⟩ | refine AWP.parR mixed (by kernel_rfl) fun K hK => ?_ | refine ⟨(by kernel_rfl : depB _ _ _ = true), ?_⟩ | refine Or.inl ?_) | (clear hK K))
      all_goals (refine fin0 ?_; simp only [hm, hok, hz, z1, z2, z3, z4, cond_true, cond_false])
    ·
      repeat' (first | (simp only [go_sem, zA, zB, zC, zD, zE, zF, zG, reduceCtorEq, zH, zI, zJ, zK, zL, encVal_eq, List.length_map, hb, hz]; all_goals fail_if_success guard_target =ₛ False) | (with_reducible first | ((first | refine seqVC_stepN rfl ?_ | refine AWP.seq ?_ | refine AWP.seqR (by kernel_rfl) ?_ | refine parVC_stepN rfl ?_ | refine parEVC_stepN rfl ?_ | refine genVC_stepN rfl ?_); intro K hK) | ((first | refine hK _ _ _ ?_ | refine hK _ _ ?_ | refine hK _ ?_); clear hK K) | refine seqVC_nil ?_ | refine parVC_nil ?_ | refine parEVC_nil ?_ | refine genVC_nil ?_ | refine AWP.block ?_ | (refine AWP.cond (by with_unfolding_all rfl) ?_ ?_ <;> intro h <;> (try simp only [zM, zN] at h) <;> try exact absurd h (by decide)) | refine AWP.skip ?_ | refine AWP.ret ?_ | refine AWP.exit ?_ | refine ⟨_, refKeys_c x y, ?_⟩ | refine ⟨by omega, encKey x, hx', ?_⟩ | refine ⟨by omega, encKey y, hy', ?_⟩ | refine AWP.parR mixed (by kernel_rfl) fun K hK => ?_ | refine ⟨(by kernel_rfl : depB _ _ _ = true), ?_⟩ | refine Or.inl ?_) | (clear hK K))
      all_goals (rw [wrap_succ hlt hlen0])
      all_goals (refine ⟨(), ?_, Gh.to [] (by repeat (first | exact trivial | refine ⟨rfl, ?_⟩ | refine ⟨by (simp only [go_sem, zA, zB, zC, zD, zE, zF, zG, reduceCtorEq, zH, zI, zJ, zK, zL, List.length_append, List.length_map, List.length_cons, List.length_nil, Nat.zero_add]) <;> rfl, ?_⟩)) (by repeat (first | exact trivial | refine ⟨rfl, ?_⟩ | refine ⟨by (simp only [go_sem, zA, zB, zC, zD, zE, zF, zG, reduceCtorEq, zH, zI, zJ, zK, zL, List.length_append, List.length_map, List.length_cons, List.length_nil, Nat.zero_add]) <;> rfl, ?_⟩)) rfl rfl rfl⟩)
      all_goals exact hok
  intro s0 hb0 hok0
  simp only [go_sem, zA, zB, zC, zD, zE, zF, zG, reduceCtorEq, zH, zI, zJ, zK, zL]
  rw [firstC_end] at hok0
  cases z5 : decide (listCmp valC a.kids b.kids = 0)
  ·
    have z5' := z5
    unfold listCmp at z5'
    rw [len_dec] at z5'
    repeat' (first | (simp only [go_sem, zA, zB, zC, zD, zE, zF, zG, reduceCtorEq, zH, zI, zJ, zK, zL, encVal_eq, z5, hb0, List.length_map]; all_goals fail_if_success guard_target =ₛ False) | (with_reducible first | ((first | refine seqVC_stepN rfl ?_ | refine AWP.seq ?_ | refine AWP.seqR (by kernel_rfl) ?_ | refine parVC_stepN rfl ?_ | refine parEVC_stepN rfl ?_ | refine genVC_stepN rfl ?_); intro K hK) | ((first | refine hK _ _ _ ?_ | refine hK _ _ ?_ | refine hK _ ?_); clear hK K) | refine seqVC_nil ?_ | refine parVC_nil ?_ | refine parEVC_nil ?_ | refine genVC_nil ?_ | refine AWP.block ?_ | (refine AWP.cond (by with_unfolding_all rfl) ?_ ?_ <;> intro h <;> (try simp only [zM, zN] at h) <;> try exact absurd h (by decide)) | refine AWP.skip ?_ | refine AWP.ret ?_ | refine AWP.exit ?_ | refine ⟨_, refValues_c a.kids b.kids hk, ?_⟩ | refine AWP.parR mixed (by kernel_rfl) fun K hK => ?_ | refine ⟨(by kernel_rfl : depB _ _ _ = true), ?_⟩ | refine Or.inl ?_) | (clear hK K))
    all_goals (refine fin0 ?_; simp only [hm, z1, z2, z3, z4, hok0, z5', decide_true, cond_true, cond_false, listCmp, len_dec])
  have z5' := z5
  unfold listCmp at z5'
  rw [len_dec] at z5'
  cases z6 : decide ((a.ents.length : Int) = (b.ents.length : Int))
  ·
    repeat' (first | (simp only [go_sem, zA, zB, zC, zD, zE, zF, zG, reduceCtorEq, zH, zI, zJ, zK, zL, encVal_eq, z5, z6, hb0, List.length_map]; all_goals fail_if_success guard_target =ₛ False) | (with_reducible first | ((first | refine seqVC_stepN rfl ?_ | refine AWP.seq ?_ | refine AWP.seqR (by kernel_rfl) ?_ | refine parVC_stepN rfl ?_ | refine parEVC_stepN rfl ?_ | refine genVC_stepN rfl ?_); intro K hK) | ((first | refine hK _ _ _ ?_ | refine hK _ _ ?_ | refine hK _ ?_); clear hK K) | refine seqVC_nil ?_ | refine parVC_nil ?_ | refine parEVC_nil ?_ | refine genVC_nil ?_ | refine AWP.block ?_ | (refine AWP.cond (by with_unfolding_all rfl) ?_ ?_ <;> intro h <;> (try simp only [zM, zN] at h) <;> try exact absurd h (by decide)) | refine AWP.skip ?_ | refine AWP.ret ?_ | refine AWP.exit ?_ | refine ⟨_, refValues_c a.kids b.kids hk, ?_⟩ | refine ⟨_, count_c _ _, ?_⟩ | refine AWP.parR mixed (by kernel_rfl) fun K hK => ?_ | refine ⟨(by kernel_rfl : depB _ _ _ = true), ?_⟩ | refine Or.inl ?_) | (clear hK K))
    all_goals (refine fin0 ?_; simp only [hm, z1, z2, z3, z4, hok0, z5', z6, decide_true, cond_true, cond_false, dec_cmpI])
  have l6 : a.ents.length = b.ents.length := by have := of_decide_eq_true z6; omega
  repeat' (first | (simp only [go_sem, zA, zB, zC, zD, zE, zF, zG, reduceCtorEq, zH, zI, zJ, zK, zL, encVal_eq, z5, z6, hb0, List.length_map]; all_goals fail_if_success guard_target =ₛ False) | (with_reducible first | ((first | refine seqVC_stepN rfl ?_ | refine AWP.seq ?_ | refine AWP.seqR (by kernel_rfl) ?_ | refine parVC_stepN rfl ?_ | refine parEVC_stepN rfl ?_ | refine genVC_stepN rfl ?_); intro K hK) | ((first | refine hK _ _ _ ?_ | refine hK _ _ ?_ | refine hK _ ?_); clear hK K) | refine seqVC_nil ?_ | refine parVC_nil ?_ | refine parEVC_nil ?_ | refine genVC_nil ?_ | refine AWP.block ?_ | (refine AWP.cond (by with_unfolding_all rfl) ?_ ?_ <;> intro h <;> (try simp only [zM, zN] at h) <;> try exact absurd h (by decide)) | refine AWP.skip ?_ | refine AWP.ret ?_ | refine AWP.exit ?_ | refine ⟨_, refValues_c a.kids b.kids hk, ?_⟩ | refine AWP.parR mixed (by kernel_rfl) fun K hK => ?_ | refine ⟨(by kernel_rfl : depB _ _ _ = true), ?_⟩ | refine Or.inl ?_) | (clear hK K))
  refine AWP.lenB 2 5 rfl rfl fun hlen1 => ?_
  (try rw [List.length_map] at hlen1)
  refine AWP.range (S := Unit) (a.ents) encEnt (fun k s => (8, I .i64 (k : Nat)) :: []) (fun k s => []) [2, 3] [2, 3] (fun k s => firstC entC a.ents b.ents = firstC entC (a.ents.drop k) (b.ents.drop k)) (()) (by simp only [go_sem, zA, zB, zC, zD, zE, zF, zG, reduceCtorEq, zH, zI, zJ, zK, zL]; exact Gh.to [] (by repeat (first | exact trivial | refine ⟨rfl, ?_⟩ | refine ⟨by (simp only [go_sem, zA, zB, zC, zD, zE, zF, zG, reduceCtorEq, zH, zI, zJ, zK, zL, List.length_append, List.length_map, List.length_cons, List.length_nil, Nat.zero_add]) <;> rfl, ?_⟩)) (by repeat (first | exact trivial | refine ⟨rfl, ?_⟩ | refine ⟨by (simp only [go_sem, zA, zB, zC, zD, zE, zF, zG, reduceCtorEq, zH, zI, zJ, zK, zL, List.length_append, List.length_map, List.length_cons, List.length_nil, Nat.zero_add]) <;> rfl, ?_⟩)) rfl rfl rfl) ?_ ?_ ?_
  · rfl
  · intro k s x hlt hx hx' hb hok
    simp only [go_sem, zA, zB, zC, zD, zE, zF, zG, reduceCtorEq, zH, zI, zJ, zK, zL]
    obtain ⟨y, hy, hy', _, _⟩ := at_lt (enc := encEnt) (show k < b.ents.length by omega)
    rw [firstC_step hx hy] at hok
    cases hz : decide (entC x y = 0) <;> simp only [hz, cond_true, cond_false] at hok
    ·
      repeat' (first | (simp only [go_sem, zA, zB, zC, zD, zE, zF, zG, reduceCtorEq, zH, zI, zJ, zK, zL, encVal_eq, List.length_map, hb, hz]; all_goals fail_if_success guard_target =ₛ False) | (with_reducible first | ((first | refine seqVC_stepN rfl ?_ | refine AWP.seq ?_ | refine AWP.seqR (by kernel_rfl) ?_ | refine parVC_stepN rfl ?_ | refine parEVC_stepN rfl ?_ | refine genVC_stepN rfl ?_); intro K hK) | ((first | refine hK _ _ _ ?_ | refine hK _ _ ?_ | refine hK _ ?_); clear hK K) | refine seqVC_nil ?_ | refine parVC_nil ?_ | refine parEVC_nil ?_ | refine genVC_nil ?_ | refine AWP.block ?_ | (refine AWP.cond (by with_unfolding_all rfl) ?_ ?_ <;> intro h <;> (try simp only [zM, zN] at h) <;> try exact absurd h (by decide)) | refine AWP.skip ?_ | refine AWP.ret ?_ | refine AWP.exit ?_ | refine ⟨_, he x (List.mem_of_getElem? hx) y, ?_⟩ | refine ⟨by omega, encEnt x, hx', ?_⟩ | refine ⟨by omega, encEnt y, hy', ?_⟩ | refine AWP.parR mixed (by kernel_rfl) fun K hK => ?_ | refine ⟨(by kernel_rfl : depB _ _ _ = true), ?_⟩ | refine Or.inl ?_) | (clear hK K))
      all_goals (refine fin0 ?_; simp only [hm, hok, hz, z1, z2, z3, z4, hok0, z5', z6, decide_true, cond_true, cond_false])
    ·
      repeat' (first | (simp only [go_sem, zA, zB, zC, zD, zE, zF, zG, reduceCtorEq, zH, zI, zJ, zK, zL, encVal_eq, List.length_map, hb, hz]; all_goals fail_if_success guard_target =ₛ False) | (with_reducible first | ((first | refine seqVC_stepN rfl ?_ | refine AWP.seq ?_ | refine AWP.seqR (by kernel_rfl) ?_ | refine parVC_stepN rfl ?_ | refine parEVC_stepN rfl ?_ | refine genVC_stepN rfl ?_); intro K hK) | ((first | refine hK _ _ _ ?_ | refine hK _ _ ?_ | refine hK _ ?_); clear hK K) | refine seqVC_nil ?_ | refine parVC_nil ?_ | refine parEVC_nil ?_ | refine genVC_nil ?_ | refine AWP.block ?_ | (refine AWP.cond (by with_unfolding_all rfl) ?_ ?_ <;> intro h <;> (try simp only [zM, zN] at h) <;> try exact absurd h (by decide)) | refine AWP.skip ?_ | refine AWP.ret ?_ | refine AWP.exit ?_ | refine ⟨_, he x (List.mem_of_getElem? hx) y, ?_⟩ | refine ⟨by omega, encEnt x, hx', ?_⟩ | refine ⟨by omega, encEnt y, hy', ?_⟩ | refine AWP.parR mixed (by kernel_rfl) fun K hK => ?_ | refine ⟨(by kernel_rfl : depB _ _ _ = true), ?_⟩ | refine Or.inl ?_) | (clear hK K))
      all_goals (rw [wrap_succ hlt hlen1])
      all_goals (refine ⟨(), ?_, Gh.to [] (by repeat (first | exact trivial | refine ⟨rfl, ?_⟩ | refine ⟨by (simp only [go_sem, zA, zB, zC, zD, zE, zF, zG, reduceCtorEq, zH, zI, zJ, zK, zL, List.length_append, List.length_map, List.length_cons, List.length_nil, Nat.zero_add]) <;> rfl, ?_⟩)) (by repeat (first | exact trivial | refine ⟨rfl, ?_⟩ | refine ⟨by (simp only [go_sem, zA, zB, zC, zD, zE, zF, zG, reduceCtorEq, zH, zI, zJ, zK, zL, List.length_append, List.length_map, List.length_cons, List.length_nil, Nat.zero_add]) <;> rfl, ?_⟩)) rfl rfl rfl⟩)
      all_goals exact hok
  intro s1 hb1 hok1
  simp only [go_sem, zA, zB, zC, zD, zE, zF, zG, reduceCtorEq, zH, zI, zJ, zK, zL]
  rw [firstC_end] at hok1
  cases z7 : decide ((a.labels.length : Int) = (b.labels.length : Int))
  ·
    repeat' (first | (simp only [go_sem, zA, zB, zC, zD, zE, zF, zG, reduceCtorEq, zH, zI, zJ, zK, zL, encVal_eq, z7, hb1, List.length_map]; all_goals fail_if_success guard_target =ₛ False) | (with_reducible first | ((first | refine seqVC_stepN rfl ?_ | refine AWP.seq ?_ | refine AWP.seqR (by kernel_rfl) ?_ | refine parVC_stepN rfl ?_ | refine parEVC_stepN rfl ?_ | refine genVC_stepN rfl ?_); intro K hK) | ((first | refine hK _ _ _ ?_ | refine hK _ _ ?_ | refine hK _ ?_); clear hK K) | refine seqVC_nil ?_ | refine parVC_nil ?_ | refine parEVC_nil ?_ | refine genVC_nil ?_ | refine AWP.block ?_ | (refine AWP.cond (by with_unfolding_all rfl) ?_ ?_ <;> intro h <;> (try simp only [zM, zN] at h) <;> try exact absurd h (by decide)) | refine AWP.skip ?_ | refine AWP.ret ?_ | refine AWP.exit ?_ | refine ⟨_, count_c _ _, ?_⟩ | refine AWP.parR mixed (by kernel_rfl) fun K hK => ?_ | refine ⟨(by kernel_rfl : depB _ _ _ = true), ?_⟩ | refine Or.inl ?_) | (clear hK K))
    all_goals (refine fin0 ?_; simp only [hm, z1, z2, z3, z4, hok0, z5', z6, hok1, z7, decide_true, cond_true, cond_false])
  have l7 : a.labels.length = b.labels.length := by have := of_decide_eq_true z7; omega
  repeat' (first | (simp only [go_sem, zA, zB, zC, zD, zE, zF, zG, reduceCtorEq, zH, zI, zJ, zK, zL, encVal_eq, z7, hb1, List.length_map]; all_goals fail_if_success guard_target =ₛ False) | (with_reducible first | ((first | refine seqVC_stepN rfl ?_ | refine AWP.seq ?_ | refine AWP.seqR (by kernel_rfl) ?_ | refine parVC_stepN rfl ?_ | refine parEVC_stepN rfl ?_ | refine genVC_stepN rfl ?_); intro K hK) | ((first | refine hK _ _ _ ?_ | refine hK _ _ ?_ | refine hK _ ?_); clear hK K) | refine seqVC_nil ?_ | refine parVC_nil ?_ | refine parEVC_nil ?_ | refine genVC_nil ?_ | refine AWP.block ?_ | (refine AWP.cond (by with_unfolding_all rfl) ?_ ?_ <;> intro h <;> (try simp only [zM, zN] at h) <;> try exact absurd h (by decide)) | refine AWP.skip ?_ | refine AWP.ret ?_ | refine AWP.exit ?_ | refine AWP.parR mixed (by kernel_rfl) fun K hK => ?_ | refine ⟨(by kernel_rfl : depB _ _ _ = true), ?_⟩ | refine Or.inl ?_) | (clear hK K))
  refine AWP.lenB 2 6 rfl rfl fun hlen2 => ?_
  (try rw [List.length_map] at hlen2)
  refine AWP.range (S := Unit) (a.labels) encStr (fun k s => (10, I .i64 (k : Nat)) :: []) (fun k s => []) [2, 3] [2, 3] (fun k s => firstC Lib.compareBytes a.labels b.labels = firstC Lib.compareBytes (a.labels.drop k) (b.labels.drop k)) (()) (by simp only [go_sem, zA, zB, zC, zD, zE, zF, zG, reduceCtorEq, zH, zI, zJ, zK, zL]; exact Gh.to [] (by repeat (first | exact trivial | refine ⟨rfl, ?_⟩ | refine ⟨by (simp only [go_sem, zA, zB, zC, zD, zE, zF, zG, reduceCtorEq, zH, zI, zJ, zK, zL, List.length_append, List.length_map, List.length_cons, List.length_nil, Nat.zero_add]) <;> rfl, ?_⟩)) (by repeat (first | exact trivial | refine ⟨rfl, ?_⟩ | refine ⟨by (simp only [go_sem, zA, zB, zC, zD, zE, zF, zG, reduceCtorEq, zH, zI, zJ, zK, zL, List.length_append, List.length_map, List.length_cons, List.length_nil, Nat.zero_add]) <;> rfl, ?_⟩)) rfl rfl rfl) ?_ ?_ ?_
  · rfl
  · intro k s x hlt hx hx' hb hok
    simp only [go_sem, zA, zB, zC, zD, zE, zF, zG, reduceCtorEq, zH, zI, zJ, zK, zL]
    obtain ⟨y, hy, hy', _, _⟩ := at_lt (enc := encStr) (show k < b.labels.length by omega)
    rw [firstC_step hx hy] at hok
    cases hz : decide (Lib.compareBytes x y = 0) <;> simp only [hz, cond_true, cond_false] at hok
    ·
      repeat' (first | (simp only [go_sem, zA, zB, zC, zD, zE, zF, zG, reduceCtorEq, zH, zI, zJ, zK, zL, encStr, encVal_eq, List.length_map, hb, hz]; all_goals fail_if_success guard_target =ₛ False) | (with_reducible first | ((first | refine seqVC_stepN rfl ?_ | refine AWP.seq ?_ | refine AWP.seqR (by kernel_rfl) ?_ | refine parVC_stepN rfl ?_ | refine parEVC_stepN rfl ?_ | refine genVC_stepN rfl ?_); intro K hK) | ((first | refine hK _ _ _ ?_ | refine hK _ _ ?_ | refine hK _ ?_); clear hK K) | refine seqVC_nil ?_ | refine parVC_nil ?_ | refine parEVC_nil ?_ | refine genVC_nil ?_ | refine AWP.block ?_ | (refine AWP.cond (by with_unfolding_all rfl) ?_ ?_ <;> intro h <;> (try simp only [zM, zN] at h) <;> try exact absurd h (by decide)) | refine AWP.skip ?_ | refine AWP.ret ?_ | refine AWP.exit ?_ | refine ⟨_, refText_c x y, ?_⟩ | refine ⟨by omega, encStr x, hx', ?_⟩ | refine ⟨by omega, encStr y, hy', ?_⟩ | refine AWP.parR mixed (by kernel_rfl) fun K hK => ?_ | refine ⟨(by kernel_rfl : depB _ _ _ = true), ?_⟩ | refine Or.inl ?_) | (clear hK K))
      all_goals (refine fin0 ?_; simp only [hm, hok, hz, z1, z2, z3, z4, hok0, z5', z6, hok1, z7, decide_true, cond_true, cond_false])
    ·
      repeat' (first | (simp only [go_sem, zA, zB, zC, zD, zE, zF, zG, reduceCtorEq, zH, zI, zJ, zK, zL, encStr, encVal_eq, List.length_map, hb, hz]; all_goals fail_if_success guard_target =ₛ False) | (with_reducible first | ((first | refine seqVC_stepN rfl ?_ | refine AWP.seq ?_ | refine AWP.seqR (by kernel_rfl) ?_ | refine parVC_stepN rfl ?_ | refine parEVC_stepN rfl ?_ | refine genVC_stepN rfl ?_); intro K hK) | ((first | refine hK _ _ _ ?_ | refine hK _ _ ?_ | refine hK _ ?_); clear hK K) | refine seqVC_nil ?_ | refine parVC_nil ?_ | refine parEVC_nil ?_ | refine genVC_nil ?_ | refine AWP.block ?_ | (refine AWP.cond (by with_unfolding_all rfl) ?_ ?_ <;> intro h <;> (try simp only [zM, zN] at h) <;> try exact absurd h (by decide)) | refine AWP.skip ?_ | refine AWP.ret ?_ | refine AWP.exit ?_ | refine ⟨_, refText_c x y, ?_⟩ | refine ⟨by omega, encStr x, hx', ?_⟩ | refine ⟨by omega, encStr y, hy', ?_⟩ | refine AWP.parR mixed (by kernel_rfl) fun K hK => ?_ | refine ⟨(by kernel_rfl : depB _ _ _ = true), ?_⟩ | refine Or.inl ?_) | (clear hK K))
      all_goals (rw [wrap_succ hlt hlen2])
      all_goals (refine ⟨(), ?_, Gh.to [] (by repeat (first | exact trivial | refine ⟨rfl, ?_⟩ | refine ⟨by (simp only [go_sem, zA, zB, zC, zD, zE, zF, zG, reduceCtorEq, zH, zI, zJ, zK, zL, List.length_append, List.length_map, List.length_cons, List.length_nil, Nat.zero_add]) <;> rfl, ?_⟩)) (by repeat (first | exact trivial | refine ⟨rfl, ?_⟩ | refine ⟨by (simp only [go_sem, zA, zB, zC, zD, zE, zF, zG, reduceCtorEq, zH, zI, zJ, zK, zL, List.length_append, List.length_map, List.length_cons, List.length_nil, Nat.zero_add]) <;> rfl, ?_⟩)) rfl rfl rfl⟩)
      all_goals exact hok
  intro s2 hb2 hok2
  simp only [go_sem, zA, zB, zC, zD, zE, zF, zG, reduceCtorEq, zH, zI, zJ, zK, zL]
  rw [firstC_end] at hok2
  repeat' (first | (simp only [go_sem, zA, zB, zC, zD, zE, zF, zG, reduceCtorEq, zH, zI, zJ, zK, zL, encVal_eq, hb2, List.length_map]; all_goals fail_if_success guard_target =ₛ False) | (with_reducible first | ((first | refine seqVC_stepN rfl ?_ | refine AWP.seq ?_ | refine AWP.seqR (by kernel_rfl) ?_ | refine parVC_stepN rfl ?_ | refine parEVC_stepN rfl ?_ | refine genVC_stepN rfl ?_); intro K hK) | ((first | refine hK _ _ _ ?_ | refine hK _ _ ?_ | refine hK _ ?_); clear hK K) | refine seqVC_nil ?_ | refine parVC_nil ?_ | refine parEVC_nil ?_ | refine genVC_nil ?_ | refine AWP.block ?_ | (refine AWP.cond (by with_unfolding_all rfl) ?_ ?_ <;> intro h <;> (try simp only [zM, zN] at h) <;> try exact absurd h (by decide)) | refine AWP.skip ?_ | refine AWP.ret ?_ | refine AWP.exit ?_ | refine AWP.parR mixed (by kernel_rfl) fun K hK => ?_ | refine ⟨(by kernel_rfl : depB _ _ _ = true), ?_⟩ | refine Or.inl ?_) | (clear hK K))
  all_goals (refine fin0 ?_; simp only [hm, z1, z2, z3, z4, hok0, z5', z6, hok1, z7, hok2, decide_true, cond_true, cond_false])
termination_by SizeOf.sizeOf a
decreasing_by
  · cases a; simp only at hx; have := List.sizeOf_lt_of_mem hx; simp; omega
  · cases a; simp only at he; have h1 := List.sizeOf_lt_of_mem he; have h2 := List.sizeOf_lt_of_mem hx; obtain ⟨e1, e2, e3⟩ := e; simp at h1 h2 ⊢; omega
  · cases a; simp only at he; have h1 := List.sizeOf_lt_of_mem he; obtain ⟨e1, e2, e3⟩ := e; simp at h1 ⊢; omega
end Go.Proofs.YtmpfdejckbceiaaGreat
set_option linter.unusedSimpArgs false
set_option linter.unusedVariables false
set_option maxRecDepth 20000
set_option maxHeartbeats 1000000
namespace Go.Proofs.YtmpfdejckbceiaaGreat
open Go Go.Sx
open Nat renaming reduceBEq → zA, reduceBNe → zB, reduceAdd → zC, reduceSub → zD, reduceMul → zE, reduceLeDiff → zF, reduceLT → zG, reduceEqDiff → zH
open Int renaming reduceToNat → zI, reduceLE → zJ, reduceLT → zK, reduceEq → zL
open Bool renaming not_eq_true' → zM, not_eq_false' → zN
def atoms4 : List (List UInt8) := [[116, 114, 117, 101], [102, 97, 108, 115, 101], [97], [111, 107]]
def mods2 : List (List UInt8) := [[109], [110]]
def funDat (s : Src) : Dat := { zeroDat with kind := 9, num := nextV s 3, mod := mods2.getD (nextV (nextS s 3) 2).toNat [], version := 1 + nextV (nextS (nextS s 3) 2) 2, routine := nextV (nextS (nextS (nextS s 3) 2) 2) 2 }
def madeBase (k : Int) (s : Src) : Dat × Src :=
  bif decide (k = 1) then (atomDat (atoms4.getD (nextV s 4).toNat []), nextS s 4) else
  bif decide (k = 2) then ({ zeroDat with kind := 2, text := wordV s }, nextS s 4) else
  bif decide (k = 3) then ({ zeroDat with kind := 4, num := nextV s 4 }, nextS s 4) else
  bif decide (k = 4) then ({ zeroDat with kind := 5 }, s) else
  bif decide (k = 5) then (funDat s, nextS (nextS (nextS (nextS s 3) 2) 2) 2) else
  bif decide (k = 6) then (intDat (numV s), nextS s 10) else
  (intDat (nextV s 5 - 1), nextS s 5)
def made0 (s : Src) : Dat × Src := madeBase (bif decide (6 < nextV s 12) then 0 else nextV s 12) (nextS s 12)
def node14 (n : Nat) : NodeD := ⟨14, 0, 0, [], List.replicate n 1, [], 0, 0⟩
def node2 : NodeD := ⟨2, 0, 0, [], [], [], 0, 0⟩
def wrapD (f : Dat) : Dat := { zeroDat with kind := 9, num := f.num, kids := [f], wrapped := true, nodes := [node14 (f.num + 1).toNat, node2], inner := [109], outer := [110] }
def consDat (a b : Dat) : Dat := { zeroDat with kind := 7, kids := [a, b] }
def madeN (f : Src → Dat × Src) : Nat → Src → List Dat → List Dat × Src
  | 0, s, acc => (acc, s)
  | n + 1, s, acc => madeN f n (f s).2 (acc ++ [(f s).1])
def listN (f : Src → Dat × Src) : Nat → Src → Dat → Dat × Src
  | 0, s, t => (t, s)
  | n + 1, s, t => listN f n (f s).2 (consDat (f s).1 t)
def mapN (f : Src → Dat × Src) : Nat → Src → Dat → Dat × Src
  | 0, s, m => (m, s)
  | n + 1, s, m => mapN f n (f (keyV s).2).2 (putR m (keyV s).1 (f (keyV s).2).1).1
def made : Nat → Src → Dat × Src
  | 0, s => made0 s
  | d + 1, s =>
    bif decide (nextV s 12 ≤ 6) then madeBase (nextV s 12) (nextS s 12) else
    bif decide (nextV s 12 = 7) then (bif decide ((made0 (nextS s 12)).1.kind = 9) then (wrapD (made0 (nextS s 12)).1, (made0 (nextS s 12)).2) else made0 (nextS s 12)) else
    bif decide (nextV s 12 ≤ 9) then
      ({ zeroDat with kind := 6, kids := (madeN (made d) (nextV (nextS s 12) 4).toNat (nextS (nextS s 12) 4) []).1 }, (madeN (made d) (nextV (nextS s 12) 4).toNat (nextS (nextS s 12) 4) []).2) else
    bif decide (nextV s 12 = 10) then listN (made d) (1 + nextV (nextS s 12) 2).toNat (nextS (nextS s 12) 2) { zeroDat with kind := 5 } else
    mapN (made d) (nextV (nextS s 12) 3).toNat (nextS (nextS s 12) 3) { zeroDat with kind := 8 }
theorem ok_base {k : Int} {s : Src} (h : s.ok) : (madeBase k s).2.ok := by
  unfold madeBase
  cases decide (k = 1) <;> cases decide (k = 2) <;> cases decide (k = 3) <;> cases decide (k = 4) <;> cases decide (k = 5) <;> cases decide (k = 6) <;>
    first | exact ok_next h _ | exact h | exact ok_next (ok_next (ok_next (ok_next h 3) 2) 2) 2
theorem ok_made0 {s : Src} (h : s.ok) : (made0 s).2.ok := ok_base (ok_next h 12)
theorem ok_madeN {f : Src → Dat × Src} (hf : ∀ s : Src, s.ok → (f s).2.ok) : ∀ (n : Nat) (s : Src) (acc : List Dat), s.ok → (madeN f n s acc).2.ok
  | 0, s, acc, h => h
  | n + 1, s, acc, h => ok_madeN hf n _ _ (hf s h)
theorem ok_listN {f : Src → Dat × Src} (hf : ∀ s : Src, s.ok → (f s).2.ok) : ∀ (n : Nat) (s : Src) (t : Dat), s.ok → (listN f n s t).2.ok
  | 0, s, t, h => h
  | n + 1, s, t, h => ok_listN hf n _ _ (hf s h)
theorem ok_mapN {f : Src → Dat × Src} (hf : ∀ s : Src, s.ok → (f s).2.ok) : ∀ (n : Nat) (s : Src) (t : Dat), s.ok → (mapN f n s t).2.ok
  | 0, s, t, h => h
  | n + 1, s, t, h => ok_mapN hf n _ _ (hf _ (ok_key h))
theorem ok_made : ∀ (d : Nat) {s : Src}, s.ok → (made d s).2.ok
  | 0, s, h => ok_made0 h
  | d + 1, s, h => by
    have h1 := ok_next h 12
    have hf : ∀ s : Src, s.ok → (made d s).2.ok := fun s h => ok_made d h
    unfold made
    cases decide (nextV s 12 ≤ 6) <;> cases decide (nextV s 12 = 7) <;> cases decide (nextV s 12 ≤ 9) <;> cases decide (nextV s 12 = 10) <;> cases decide ((made0 (nextS s 12)).1.kind = 9) <;>
      first | exact ok_base h1 | exact ok_made0 h1 | exact ok_madeN hf _ _ _ (ok_next h1 4) | exact ok_listN hf _ _ _ (ok_next h1 2) | exact ok_mapN hf _ _ _ (ok_next h1 3)
theorem made0_fun (s : Src) (h : (made0 s).1.kind = 9) : 0 ≤ (made0 s).1.num ∧ (made0 s).1.num ≤ 2 := by
  unfold made0 at *
  generalize nextS s 12 = s1 at *
  generalize (bif decide (6 < nextV s 12) then (0 : Int) else nextV s 12) = k at *
  unfold madeBase at *
  have hv := nextV_in s1 (n := 3) (by omega)
  cases h1 : decide (k = 1) <;> cases h2 : decide (k = 2) <;> cases h3 : decide (k = 3) <;> cases h4 : decide (k = 4) <;> cases h5 : decide (k = 5) <;> cases h6 : decide (k = 6) <;>
    simp only [h1, h2, h3, h4, h5, h6, cond_true, cond_false, atomDat, intDat, zeroDat, funDat] at h ⊢ <;> first | omega | (simp at h)
end Go.Proofs.YtmpfdejckbceiaaGreat
set_option linter.unusedSimpArgs false
set_option linter.unusedVariables false
set_option maxRecDepth 20000
set_option maxHeartbeats 4000000
namespace Go.Proofs.YtmpfdejckbceiaaGreat
open Go Go.Sx
open Nat renaming reduceBEq → zA, reduceBNe → zB, reduceAdd → zC, reduceSub → zD, reduceMul → zE, reduceLeDiff → zF, reduceLT → zG, reduceEqDiff → zH
open Int renaming reduceToNat → zI, reduceLE → zJ, reduceLT → zK, reduceEq → zL
open Bool renaming not_eq_true' → zM, not_eq_false' → zN
/-- the contract of Made at a depth -/
def MadeC (d : Nat) : Prop := ∀ s : Src, s.ok → PCB Tryz.prog 7 [Sp pin, I .i64 d] [(pin, srcB s)] (Dt (made d s).1) [(pin, srcB (made d s).2)]
theorem MadeC.k {d : Nat} (h : MadeC d) (k : Nat) (s : Src) (hs : s.ok) : PCBk Tryz.prog 7 [Sp k, I .i64 d] k (srcB s) (Dt (made d s).1) (srcB (made d s).2) := PCBk.mk k (h s hs)
theorem dec_pos {n : Nat} : decide ((0 : Int) < ((n + 1 : Nat) : Int)) = true := by simp
theorem wrap_pred_nat {n : Nat} (hm : n ≤ 1000000) : IntKind.i64.wrap (((n + 1 : Nat) : Int) - 1) = (n : Int) := by rw [w64 (by omega)]; omega
theorem madeN_len (f : Src → Dat × Src) : ∀ (n : Nat) (s : Src) (acc : List Dat), (madeN f n s acc).1.length = acc.length + n
  | 0, s, acc => rfl
  | n + 1, s, acc => by rw [madeN, madeN_len f n]; simp; omega
theorem made_c8 (d : Nat) (hd : d ≤ 1000) (IH : MadeC d) (s : Src) (hs : s.ok) (hk : nextV s 12 = 8) :
    PCB Tryz.prog 7 [Sp pin, I .i64 (d + 1 : Nat)] [(pin, srcB s)] (Dt (made (d + 1) s).1) [(pin, srcB (made (d + 1) s).2)] := by
  have hM : made (d + 1) s = ({ zeroDat with kind := 6, kids := (madeN (made d) (nextV (nextS s 12) 4).toNat (nextS (nextS s 12) 4) []).1 }, (madeN (made d) (nextV (nextS s 12) 4).toNat (nextS (nextS s 12) 4) []).2) := by
    simp only [made, hk]; rfl
  rw [hM]
  refine PCB.of_body Tryz.func7 rfl (by decide) Tryz.ntmps7 Tryz.results7 rfl rfl rfl ?_ rfl rfl
  refine AWP.ghQ ?_
  have hs1 := ok_next hs 12
  have a1 := nextV_in (nextS s 12) (n := 4) (by omega)
  have hgt : decide ((6 : Int) < 8) = true := by decide
  have hd0 : decide (((d + 1 : Nat) : Int) = 0) = false := by simp; omega
  have hn : nextV (nextS s 12) 4 = (((nextV (nextS s 12) 4).toNat : Nat) : Int) := by omega
  repeat' (first | (simp only [go_sem, zA, zB, zC, zD, zE, zF, zG, reduceCtorEq, zH, zI, zJ, zK, zL, pin, hk, hgt, hd0]; all_goals fail_if_success guard_target =ₛ False) | (with_reducible first | ((first | refine seqVC_stepN rfl ?_ | refine seqVC_stepG rfl (by with_unfolding_all rfl) ?_ | refine AWP.seq ?_ | refine AWP.seqR (by kernel_rfl) ?_ | refine parVC_stepN rfl ?_ | refine parVC_stepG rfl (by with_unfolding_all rfl) ?_ | refine parEVC_stepN rfl ?_ | refine parEVC_stepG rfl (by with_unfolding_all rfl) ?_ | refine genVC_stepN rfl ?_ | refine genVC_stepG rfl (by with_unfolding_all rfl) ?_); intro K hK) | ((first | refine hK _ _ _ ?_ | refine hK _ _ ?_ | refine hK _ ?_); clear hK K) | refine seqVC_nil ?_ | refine parVC_nil ?_ | refine parEVC_nil ?_ | refine genVC_nil ?_ | refine AWP.block ?_ | (refine AWP.cond (by with_unfolding_all rfl) ?_ ?_ <;> intro h <;> (try simp only [zM, zN] at h) <;> try exact absurd h (by decide)) | refine AWP.skip ?_ | refine AWP.ret ?_ | refine AWP.exit ?_ | (refine ⟨fun h => ?_, fun h => ?_⟩ <;> (try simp only [zM, zN] at h) <;> try simp only [h])) | (refine ⟨1000000, _, _, _, next_k 1000000 _ (by repeat (first | with_reducible exact hs | with_reducible refine ok_next ?_ _)) _ (by omega), rfl, ?_⟩) | (with_reducible first | (refine AWP.segP (id := 14) 13 mixed (by kernel_rfl) fun K hK => ?_; simp only [List.take_succ_cons, List.take_zero, List.drop_succ_cons, List.drop_zero]) | (refine AWP.segP (id := 25) 8 mixed (by kernel_rfl) fun K hK => ?_; simp only [List.take_succ_cons, List.take_zero, List.drop_succ_cons, List.drop_zero]) | (refine AWP.segP (id := 40) 7 mixed (by kernel_rfl) fun K hK => ?_; simp only [List.take_succ_cons, List.take_zero, List.drop_succ_cons, List.drop_zero]) | (refine AWP.segP (id := 47) 11 mixed (by kernel_rfl) fun K hK => ?_; simp only [List.take_succ_cons, List.take_zero, List.drop_succ_cons, List.drop_zero]) | refine AWP.parR mixed (by kernel_rfl) fun K hK => ?_ | refine ⟨(by kernel_rfl : depB _ _ _ = true), ?_⟩ | refine Or.inl ?_) | (clear hK K))
  refine AWP.gh (Gh.nilrow 9 900 rfl rfl rfl rfl) ?_
  rw [hn]
  refine AWP.loopS (X := Nat × Src × List Dat) (fun x => [(10, I .i64 x.1), (9, .one (.own 900 x.2.2.length)), (0, Sp 1000000), (1, I .i64 (d + 1 : Nat)), (4, Sp 4)])
    (fun x => [(1000000, srcB x.2.1), (4, zeroB), Dr 900 x.2.2])
    (fun x => x.1 + x.2.2.length ≤ 1000 ∧ x.2.1.ok ∧ madeN (made d) (nextV (nextS s 12) 4).toNat (nextS (nextS s 12) 4) [] = madeN (made d) x.1 x.2.1 x.2.2) (fun x => x.1) ((nextV (nextS s 12) 4).toNat, nextS (nextS s 12) 4, []) (Gh.to [] (by repeat (first | exact trivial | refine ⟨rfl, ?_⟩ | refine ⟨by (simp only [go_sem, zA, zB, zC, zD, zE, zF, zG, reduceCtorEq, zH, zI, zJ, zK, zL, List.length_append, List.length_map, List.length_cons, List.length_nil, Nat.zero_add]) <;> rfl, ?_⟩)) (by repeat (first | exact trivial | refine ⟨rfl, ?_⟩ | refine ⟨by (simp only [go_sem, zA, zB, zC, zD, zE, zF, zG, reduceCtorEq, zH, zI, zJ, zK, zL, List.length_append, List.length_map, List.length_cons, List.length_nil, Nat.zero_add]) <;> rfl, ?_⟩)) rfl rfl rfl) ⟨by simp; omega, ok_next hs1 _, rfl⟩ ?_
  rintro ⟨n, t, acc⟩ ⟨hl, ht, hp⟩
  simp only at hl ht hp
  cases n with
  | succ n =>
    rw [madeN] at hp
    have hw : IntKind.i64.wrap (((d + 1 : Nat) : Int) - 1) = (d : Int) := wrap_pred_nat (by omega)
    have hw2 : IntKind.i64.wrap (((n + 1 : Nat) : Int) - 1) = (n : Int) := wrap_pred_nat (by omega)
    repeat' (first | (simp only [go_sem, zA, zB, zC, zD, zE, zF, zG, reduceCtorEq, zH, zI, zJ, zK, zL, pin, List.length_map, dec_pos, hw, hw2, dat_snoc]; all_goals fail_if_success guard_target =ₛ False) | (with_reducible first | ((first | refine seqVC_stepN rfl ?_ | refine seqVC_stepG rfl (by with_unfolding_all rfl) ?_ | refine AWP.seq ?_ | refine AWP.seqR (by kernel_rfl) ?_ | refine parVC_stepN rfl ?_ | refine parVC_stepG rfl (by with_unfolding_all rfl) ?_ | refine parEVC_stepN rfl ?_ | refine parEVC_stepG rfl (by with_unfolding_all rfl) ?_ | refine genVC_stepN rfl ?_ | refine genVC_stepG rfl (by with_unfolding_all rfl) ?_); intro K hK) | ((first | refine hK _ _ _ ?_ | refine hK _ _ ?_ | refine hK _ ?_); clear hK K) | refine seqVC_nil ?_ | refine parVC_nil ?_ | refine parEVC_nil ?_ | refine genVC_nil ?_ | refine AWP.block ?_ | (refine AWP.cond (by with_unfolding_all rfl) ?_ ?_ <;> intro h <;> (try simp only [zM, zN] at h) <;> try exact absurd h (by decide)) | refine AWP.skip ?_ | refine AWP.ret ?_ | refine AWP.exit ?_ | (refine ⟨fun h => ?_, fun h => ?_⟩ <;> (try simp only [zM, zN] at h) <;> try simp only [h]) | refine ⟨by omega, ?_⟩) | (refine ⟨1000000, _, _, _, IH.k 1000000 t ht, rfl, ?_⟩) | (with_reducible first | (refine AWP.segP (id := 14) 13 mixed (by kernel_rfl) fun K hK => ?_; simp only [List.take_succ_cons, List.take_zero, List.drop_succ_cons, List.drop_zero]) | (refine AWP.segP (id := 25) 8 mixed (by kernel_rfl) fun K hK => ?_; simp only [List.take_succ_cons, List.take_zero, List.drop_succ_cons, List.drop_zero]) | (refine AWP.segP (id := 40) 7 mixed (by kernel_rfl) fun K hK => ?_; simp only [List.take_succ_cons, List.take_zero, List.drop_succ_cons, List.drop_zero]) | (refine AWP.segP (id := 47) 11 mixed (by kernel_rfl) fun K hK => ?_; simp only [List.take_succ_cons, List.take_zero, List.drop_succ_cons, List.drop_zero]) | refine AWP.parR mixed (by kernel_rfl) fun K hK => ?_ | refine ⟨(by kernel_rfl : depB _ _ _ = true), ?_⟩ | refine Or.inl ?_) | (clear hK K))
    all_goals (refine ⟨(n, (made d t).2, acc ++ [(made d t).1]), by simp only; omega, ⟨by simp only [List.length_append, List.length_cons, List.length_nil]; omega, ok_made d ht, hp⟩, Gh.to [(900, 115)] (by repeat (first | exact trivial | refine ⟨rfl, ?_⟩ | refine ⟨by (simp only [go_sem, zA, zB, zC, zD, zE, zF, zG, reduceCtorEq, zH, zI, zJ, zK, zL, List.length_append, List.length_map, List.length_cons, List.length_nil, Nat.zero_add]) <;> rfl, ?_⟩)) (by repeat (first | exact trivial | refine ⟨rfl, ?_⟩ | refine ⟨by (simp only [go_sem, zA, zB, zC, zD, zE, zF, zG, reduceCtorEq, zH, zI, zJ, zK, zL, List.length_append, List.length_map, List.length_cons, List.length_nil, Nat.zero_add]) <;> rfl, ?_⟩)) rfl rfl rfl⟩)
  | zero =>
    rw [madeN] at hp
    have h0 : decide ((0 : Int) < ((0 : Nat) : Int)) = false := by simp
    repeat' (first | (simp only [go_sem, zA, zB, zC, zD, zE, zF, zG, reduceCtorEq, zH, zI, zJ, zK, zL, pin, h0]; all_goals fail_if_success guard_target =ₛ False) | (with_reducible first | ((first | refine seqVC_stepN rfl ?_ | refine seqVC_stepG rfl (by with_unfolding_all rfl) ?_ | refine AWP.seq ?_ | refine AWP.seqR (by kernel_rfl) ?_ | refine parVC_stepN rfl ?_ | refine parVC_stepG rfl (by with_unfolding_all rfl) ?_ | refine parEVC_stepN rfl ?_ | refine parEVC_stepG rfl (by with_unfolding_all rfl) ?_ | refine genVC_stepN rfl ?_ | refine genVC_stepG rfl (by with_unfolding_all rfl) ?_); intro K hK) | ((first | refine hK _ _ _ ?_ | refine hK _ _ ?_ | refine hK _ ?_); clear hK K) | refine seqVC_nil ?_ | refine parVC_nil ?_ | refine parEVC_nil ?_ | refine genVC_nil ?_ | refine AWP.block ?_ | (refine AWP.cond (by with_unfolding_all rfl) ?_ ?_ <;> intro h <;> (try simp only [zM, zN] at h) <;> try exact absurd h (by decide)) | refine AWP.skip ?_ | refine AWP.ret ?_ | refine AWP.exit ?_ | (refine ⟨fun h => ?_, fun h => ?_⟩ <;> (try simp only [zM, zN] at h) <;> try simp only [h]) | (refine AWP.segP (id := 14) 13 mixed (by kernel_rfl) fun K hK => ?_; simp only [List.take_succ_cons, List.take_zero, List.drop_succ_cons, List.drop_zero]) | (refine AWP.segP (id := 25) 8 mixed (by kernel_rfl) fun K hK => ?_; simp only [List.take_succ_cons, List.take_zero, List.drop_succ_cons, List.drop_zero]) | (refine AWP.segP (id := 40) 7 mixed (by kernel_rfl) fun K hK => ?_; simp only [List.take_succ_cons, List.take_zero, List.drop_succ_cons, List.drop_zero]) | (refine AWP.segP (id := 47) 11 mixed (by kernel_rfl) fun K hK => ?_; simp only [List.take_succ_cons, List.take_zero, List.drop_succ_cons, List.drop_zero]) | refine AWP.parR mixed (by kernel_rfl) fun K hK => ?_ | refine ⟨(by kernel_rfl : depB _ _ _ = true), ?_⟩ | refine Or.inl ?_) | (clear hK K))
    refine ⟨_, Gh.freeze 900 rfl rfl (by simp only [go_sem, zA, zB, zC, zD, zE, zF, zG, reduceCtorEq, zH, zI, zJ, zK, zL, List.length_map]) (by simp only [go_sem, zA, zB, zC, zD, zE, zF, zG, reduceCtorEq, zH, zI, zJ, zK, zL, List.length_map]), ?_⟩
    simp only [go_sem, zA, zB, zC, zD, zE, zF, zG, reduceCtorEq, zH, zI, zJ, zK, zL, List.length_map]
    all_goals (refine ⟨by simp only [hp, Dt, encDat_eq, zeroDat]; rfl, fun x hx => ?_⟩)
    all_goals (simp only [List.mem_singleton] at hx; subst hx; simp [hp, pin])
theorem made_c9 (d : Nat) (hd : d ≤ 1000) (IH : MadeC d) (s : Src) (hs : s.ok) (hk : nextV s 12 = 9) :
    PCB Tryz.prog 7 [Sp pin, I .i64 (d + 1 : Nat)] [(pin, srcB s)] (Dt (made (d + 1) s).1) [(pin, srcB (made (d + 1) s).2)] := by
  have hM : made (d + 1) s = ({ zeroDat with kind := 6, kids := (madeN (made d) (nextV (nextS s 12) 4).toNat (nextS (nextS s 12) 4) []).1 }, (madeN (made d) (nextV (nextS s 12) 4).toNat (nextS (nextS s 12) 4) []).2) := by
    simp only [made, hk]; rfl
  rw [hM]
  refine PCB.of_body Tryz.func7 rfl (by decide) Tryz.ntmps7 Tryz.results7 rfl rfl rfl ?_ rfl rfl
  refine AWP.ghQ ?_
  have hs1 := ok_next hs 12
  have a1 := nextV_in (nextS s 12) (n := 4) (by omega)
  have hgt : decide ((6 : Int) < 9) = true := by decide
  have hd0 : decide (((d + 1 : Nat) : Int) = 0) = false := by simp; omega
  have hn : nextV (nextS s 12) 4 = (((nextV (nextS s 12) 4).toNat : Nat) : Int) := by omega
  repeat' (first | (simp only [go_sem, zA, zB, zC, zD, zE, zF, zG, reduceCtorEq, zH, zI, zJ, zK, zL, pin, hk, hgt, hd0]; all_goals fail_if_success guard_target =ₛ False) | (with_reducible first | ((first | refine seqVC_stepN rfl ?_ | refine seqVC_stepG rfl (by with_unfolding_all rfl) ?_ | refine AWP.seq ?_ | refine AWP.seqR (by kernel_rfl) ?_ | refine parVC_stepN rfl ?_ | refine parVC_stepG rfl (by with_unfolding_all rfl) ?_ | refine parEVC_stepN rfl ?_ | refine parEVC_stepG rfl (by with_unfolding_all rfl) ?_ | refine genVC_stepN rfl ?_ | refine genVC_stepG rfl (by with_unfolding_all rfl) ?_); intro K hK) | ((first | refine hK _ _ _ ?_ | refine hK _ _ ?_ | refine hK _ ?_); clear hK K) | refine seqVC_nil ?_ | refine parVC_nil ?_ | refine parEVC_nil ?_ | refine genVC_nil ?_ | refine AWP.block ?_ | (refine AWP.cond (by with_unfolding_all rfl) ?_ ?_ <;> intro h <;> (try simp only [zM, zN] at h) <;> try exact absurd h (by decide)) | refine AWP.skip ?_ | refine AWP.ret ?_ | refine AWP.exit ?_ | (refine ⟨fun h => ?_, fun h => ?_⟩ <;> (try simp only [zM, zN] at h) <;> try simp only [h])) | (refine ⟨1000000, _, _, _, next_k 1000000 _ (by repeat (first | with_reducible exact hs | with_reducible refine ok_next ?_ _)) _ (by omega), rfl, ?_⟩) | (with_reducible first | (refine AWP.segP (id := 14) 13 mixed (by kernel_rfl) fun K hK => ?_; simp only [List.take_succ_cons, List.take_zero, List.drop_succ_cons, List.drop_zero]) | (refine AWP.segP (id := 25) 8 mixed (by kernel_rfl) fun K hK => ?_; simp only [List.take_succ_cons, List.take_zero, List.drop_succ_cons, List.drop_zero]) | (refine AWP.segP (id := 40) 7 mixed (by kernel_rfl) fun K hK => ?_; simp only [List.take_succ_cons, List.take_zero, List.drop_succ_cons, List.drop_zero]) | (refine AWP.segP (id := 47) 11 mixed (by kernel_rfl) fun K hK => ?_; simp only [List.take_succ_cons, List.take_zero, List.drop_succ_cons, List.drop_zero]) | refine AWP.parR mixed (by kernel_rfl) fun K hK => ?_ | refine ⟨(by kernel_rfl : depB _ _ _ = true), ?_⟩ | refine Or.inl ?_) | (clear hK K))
  refine AWP.gh (Gh.nilrow 9 900 rfl rfl rfl rfl) ?_
  rw [hn]
  refine AWP.loopS (X := Nat × Src × List Dat) (fun x => [(10, I .i64 x.1), (9, .one (.own 900 x.2.2.length)), (0, Sp 1000000), (1, I .i64 (d + 1 : Nat)), (4, Sp 4)])
    (fun x => [(1000000, srcB x.2.1), (4, zeroB), Dr 900 x.2.2])
    (fun x => x.1 + x.2.2.length ≤ 1000 ∧ x.2.1.ok ∧ madeN (made d) (nextV (nextS s 12) 4).toNat (nextS (nextS s 12) 4) [] = madeN (made d) x.1 x.2.1 x.2.2) (fun x => x.1) ((nextV (nextS s 12) 4).toNat, nextS (nextS s 12) 4, []) (Gh.to [] (by repeat (first | exact trivial | refine ⟨rfl, ?_⟩ | refine ⟨by (simp only [go_sem, zA, zB, zC, zD, zE, zF, zG, reduceCtorEq, zH, zI, zJ, zK, zL, List.length_append, List.length_map, List.length_cons, List.length_nil, Nat.zero_add]) <;> rfl, ?_⟩)) (by repeat (first | exact trivial | refine ⟨rfl, ?_⟩ | refine ⟨by (simp only [go_sem, zA, zB, zC, zD, zE, zF, zG, reduceCtorEq, zH, zI, zJ, zK, zL, List.length_append, List.length_map, List.length_cons, List.length_nil, Nat.zero_add]) <;> rfl, ?_⟩)) rfl rfl rfl) ⟨by simp; omega, ok_next hs1 _, rfl⟩ ?_
  rintro ⟨n, t, acc⟩ ⟨hl, ht, hp⟩
  simp only at hl ht hp
  cases n with
  | succ n =>
    rw [madeN] at hp
    have hw : IntKind.i64.wrap (((d + 1 : Nat) : Int) - 1) = (d : Int) := wrap_pred_nat (by omega)
    have hw2 : IntKind.i64.wrap (((n + 1 : Nat) : Int) - 1) = (n : Int) := wrap_pred_nat (by omega)
    repeat' (first | (simp only [go_sem, zA, zB, zC, zD, zE, zF, zG, reduceCtorEq, zH, zI, zJ, zK, zL, pin, List.length_map, dec_pos, hw, hw2, dat_snoc]; all_goals fail_if_success guard_target =ₛ False) | (with_reducible first | ((first | refine seqVC_stepN rfl ?_ | refine seqVC_stepG rfl (by with_unfolding_all rfl) ?_ | refine AWP.seq ?_ | refine AWP.seqR (by kernel_rfl) ?_ | refine parVC_stepN rfl ?_ | refine parVC_stepG rfl (by with_unfolding_all rfl) ?_ | refine parEVC_stepN rfl ?_ | refine parEVC_stepG rfl (by with_unfolding_all rfl) ?_ | refine genVC_stepN rfl ?_ | refine genVC_stepG rfl (by with_unfolding_all rfl) ?_); intro K hK) | ((first | refine hK _ _ _ ?_ | refine hK _ _ ?_ | refine hK _ ?_); clear hK K) | refine seqVC_nil ?_ | refine parVC_nil ?_ | refine parEVC_nil ?_ | refine genVC_nil ?_ | refine AWP.block ?_ | (refine AWP.cond (by with_unfolding_all rfl) ?_ ?_ <;> intro h <;> (try simp only [zM, zN] at h) <;> try exact absurd h (by decide)) | refine AWP.skip ?_ | refine AWP.ret ?_ | refine AWP.exit ?_ | (refine ⟨fun h => ?_, fun h => ?_⟩ <;> (try simp only [zM, zN] at h) <;> try simp only [h]) | refine ⟨by omega, ?_⟩) | (refine ⟨1000000, _, _, _, IH.k 1000000 t ht, rfl, ?_⟩) | (with_reducible first | (refine AWP.segP (id := 14) 13 mixed (by kernel_rfl) fun K hK => ?_; simp only [List.take_succ_cons, List.take_zero, List.drop_succ_cons, List.drop_zero]) | (refine AWP.segP (id := 25) 8 mixed (by kernel_rfl) fun K hK => ?_; simp only [List.take_succ_cons, List.take_zero, List.drop_succ_cons, List.drop_zero]) | (refine AWP.segP (id := 40) 7 mixed (by kernel_rfl) fun K hK => ?_; simp only [List.take_succ_cons, List.take_zero, List.drop_succ_cons, List.drop_zero]) | (refine AWP.segP (id := 47) 11 mixed (by kernel_rfl) fun K hK => ?_; simp only [List.take_succ_cons, List.take_zero, List.drop_succ_cons, List.drop_zero]) | refine AWP.parR mixed (by kernel_rfl) fun K hK => ?_ | refine ⟨(by kernel_rfl : depB _ _ _ = true), ?_⟩ | refine Or.inl ?_) | (clear hK K))
    all_goals (refine ⟨(n, (made d t).2, acc ++ [(made d t).1]), by simp only; omega, ⟨by simp only [List.length_append, List.length_cons, List.length_nil]; omega, ok_made d ht, hp⟩, Gh.to [(900, 115)] (by repeat (first | exact trivial | refine ⟨rfl, ?_⟩ | refine ⟨by (simp only [go_sem, zA, zB, zC, zD, zE, zF, zG, reduceCtorEq, zH, zI, zJ, zK, zL, List.length_append, List.length_map, List.length_cons, List.length_nil, Nat.zero_add]) <;> rfl, ?_⟩)) (by repeat (first | exact trivial | refine ⟨rfl, ?_⟩ | refine ⟨by (simp only [go_sem, zA, zB, zC, zD, zE, zF, zG, reduceCtorEq, zH, zI, zJ, zK, zL, List.length_append, List.length_map, List.length_cons, List.length_nil, Nat.zero_add]) <;> rfl, ?_⟩)) rfl rfl rfl⟩)
  | zero =>
    rw [madeN] at hp
    have h0 : decide ((0 : Int) < ((0 : Nat) : Int)) = false := by simp
    repeat' (first | (simp only [go_sem, zA, zB, zC, zD, zE, zF, zG, reduceCtorEq, zH, zI, zJ, zK, zL, pin, h0]; all_goals fail_if_success guard_target =ₛ False) | (with_reducible first | ((first | refine seqVC_stepN rfl ?_ | refine seqVC_stepG rfl (by with_unfolding_all rfl) ?_ | refine AWP.seq ?_ | refine AWP.seqR (by kernel_rfl) ?_ | refine parVC_stepN rfl ?_ | refine parVC_stepG rfl (by with_unfolding_all rfl) ?_ | refine parEVC_stepN rfl ?_ | refine parEVC_stepG rfl (by with_unfolding_all rfl) ?_ | refine genVC_stepN rfl ?_ | refine genVC_stepG rfl (by with_unfolding_all rfl) ?_); intro K hK) | ((first | refine hK _ _ _ ?_ | refine hK _ _ ?_ | refine hK _ ?_); clear hK K) | refine seqVC_nil ?_ | refine parVC_nil ?_ | refine parEVC_nil ?_ | refine genVC_nil ?_ | refine AWP.block ?_ | (refine AWP.cond (by with_unfolding_all rfl) ?_ ?_ <;> intro h <;> (try simp only [zM, zN] at h) <;> try exact absurd h (by decide)) | refine AWP.skip ?_ | refine AWP.ret ?_ | refine AWP.exit ?_ | (refine ⟨fun h => ?_, fun h => ?_⟩ <;> (try simp only [zM, zN] at h) <;> try simp only [h]) | (refine AWP.segP (id := 14) 13 mixed (by kernel_rfl) fun K hK => ?_; simp only [List.take_succ_cons, List.take_zero, List.drop_succ_cons, List.drop_zero]) | (refine AWP.segP (id := 25) 8 mixed (by kernel_rfl) fun K hK => ?_; simp only [List.take_succ_cons, List.take_zero, List.drop_succ_cons, List.drop_zero]) | (refine AWP.segP (id := 40) 7 mixed (by kernel_rfl) fun K hK => ?_; simp only [List.take_succ_cons, List.take_zero, List.drop_succ_cons, List.drop_zero]) | (refine AWP.segP (id := 47) 11 mixed (by kernel_rfl) fun K hK => ?_; simp only [List.take_succ_cons, List.take_zero, List.drop_succ_cons, List.drop_zero]) | refine AWP.parR mixed (by kernel_rfl) fun K hK => ?_ | refine ⟨(by kernel_rfl : depB _ _ _ = true), ?_⟩ | refine Or.inl ?_) | (clear hK K))
    refine ⟨_, Gh.freeze 900 rfl rfl (by simp only [go_sem, zA, zB, zC, zD, zE, zF, zG, reduceCtorEq, zH, zI, zJ, zK, zL, List.length_map]) (by simp only [go_sem, zA, zB, zC, zD, zE, zF, zG, reduceCtorEq, zH, zI, zJ, zK, zL, List.length_map]), ?_⟩
    simp only [go_sem, zA, zB, zC, zD, zE, zF, zG, reduceCtorEq, zH, zI, zJ, zK, zL, List.length_map]
    all_goals (refine ⟨by simp only [hp, Dt, encDat_eq, zeroDat]; rfl, fun x hx => ?_⟩)
    all_goals (simp only [List.mem_singleton] at hx; subst hx; simp [hp, pin])
theorem put_len (m : Dat) (k : KeyD) (d : Dat) : (putR m k d).1.kids.length ≤ m.kids.length + 1 := by
  unfold putR
  cases putBad m k
  · simp only [cond_false, mapDat]
    have h : ∀ (l : List (KeyD × Dat)) (a : PutA), (l.foldl (putStep k d) a).kids.length + (bif (l.foldl (putStep k d) a).placed then 0 else 1) ≤ a.kids.length + (bif a.placed then 0 else 1) + l.length := by
      intro l
      induction l with
      | nil => intro a; exact Nat.le_refl _
      | cons x l ih =>
        intro a
        rw [List.foldl_cons]
        have h1 := ih (putStep k d a x)
        have h2 : (putStep k d a x).kids.length + (bif (putStep k d a x).placed then 0 else 1) ≤ a.kids.length + (bif a.placed then 0 else 1) + 1 := by
          obtain ⟨ak, ad, ap⟩ := a
          unfold putStep
          cases decide (keyCmp k x.1 ≤ 0) <;> cases decide (keyCmp k x.1 = 0) <;> cases ap <;> simp
        simp only [List.length_cons]
        omega
    have h1 := h (m.keys.zip m.kids) ⟨[], [], false⟩
    have h2 : (m.keys.zip m.kids).length ≤ m.kids.length := by simp; omega
    have h3 : ∀ a : PutA, (putEnd k d a).kids.length = a.kids.length + (bif a.placed then 0 else 1) := by
      intro a
      unfold putEnd
      cases a.placed <;> simp
    rw [h3]
    simp only [List.length_nil, cond_false, Nat.zero_add] at h1
    omega
  · simp [zeroDat]
theorem made_c10 (d : Nat) (hd : d ≤ 1000) (IH : MadeC d) (s : Src) (hs : s.ok) (hk : nextV s 12 = 10) :
    PCB Tryz.prog 7 [Sp pin, I .i64 (d + 1 : Nat)] [(pin, srcB s)] (Dt (made (d + 1) s).1) [(pin, srcB (made (d + 1) s).2)] := by
  have hM : made (d + 1) s = listN (made d) (1 + nextV (nextS s 12) 2).toNat (nextS (nextS s 12) 2) { zeroDat with kind := 5 } := by
    simp only [made, hk]; rfl
  rw [hM]
  refine PCB.of_body Tryz.func7 rfl (by decide) Tryz.ntmps7 Tryz.results7 rfl rfl rfl ?_ rfl rfl
  have hs1 := ok_next hs 12
  have a1 := nextV_in (nextS s 12) (n := 2) (by omega)
  have hgt : decide ((6 : Int) < 10) = true := by decide
  have hd0 : decide (((d + 1 : Nat) : Int) = 0) = false := by simp; omega
  have hn : IntKind.i64.wrap (1 + nextV (nextS s 12) 2) = (((1 + nextV (nextS s 12) 2).toNat : Nat) : Int) := by rw [w64 (by omega)]; omega
  repeat' (first | (simp only [go_sem, zA, zB, zC, zD, zE, zF, zG, reduceCtorEq, zH, zI, zJ, zK, zL, pin, hk, hgt, hd0, hn]; all_goals fail_if_success guard_target =ₛ False) | (with_reducible first | ((first | refine seqVC_stepN rfl ?_ | refine seqVC_stepG rfl (by with_unfolding_all rfl) ?_ | refine AWP.seq ?_ | refine AWP.seqR (by kernel_rfl) ?_ | refine parVC_stepN rfl ?_ | refine parVC_stepG rfl (by with_unfolding_all rfl) ?_ | refine parEVC_stepN rfl ?_ | refine parEVC_stepG rfl (by with_unfolding_all rfl) ?_ | refine genVC_stepN rfl ?_ | refine genVC_stepG rfl (by with_unfolding_all rfl) ?_); intro K hK) | ((first | refine hK _ _ _ ?_ | refine hK _ _ ?_ | refine hK _ ?_); clear hK K) | refine seqVC_nil ?_ | refine parVC_nil ?_ | refine parEVC_nil ?_ | refine genVC_nil ?_ | refine AWP.block ?_ | (refine AWP.cond (by with_unfolding_all rfl) ?_ ?_ <;> intro h <;> (try simp only [zM, zN] at h) <;> try exact absurd h (by decide)) | refine AWP.skip ?_ | refine AWP.ret ?_ | refine AWP.exit ?_ | (refine ⟨fun h => ?_, fun h => ?_⟩ <;> (try simp only [zM, zN] at h) <;> try simp only [h])) | (refine ⟨1000000, _, _, _, next_k 1000000 _ (by repeat (first | with_reducible exact hs | with_reducible refine ok_next ?_ _)) _ (by omega), rfl, ?_⟩) | (with_reducible first | (refine AWP.segP (id := 14) 13 mixed (by kernel_rfl) fun K hK => ?_; simp only [List.take_succ_cons, List.take_zero, List.drop_succ_cons, List.drop_zero]) | (refine AWP.segP (id := 25) 8 mixed (by kernel_rfl) fun K hK => ?_; simp only [List.take_succ_cons, List.take_zero, List.drop_succ_cons, List.drop_zero]) | (refine AWP.segP (id := 40) 7 mixed (by kernel_rfl) fun K hK => ?_; simp only [List.take_succ_cons, List.take_zero, List.drop_succ_cons, List.drop_zero]) | (refine AWP.segP (id := 47) 11 mixed (by kernel_rfl) fun K hK => ?_; simp only [List.take_succ_cons, List.take_zero, List.drop_succ_cons, List.drop_zero]) | refine AWP.parR mixed (by kernel_rfl) fun K hK => ?_ | refine ⟨(by kernel_rfl : depB _ _ _ = true), ?_⟩ | refine Or.inl ?_) | (clear hK K))
  refine AWP.gh (Gh.soft 11 rfl) ?_
  refine AWP.loopS (X := Nat × Src × Dat) (fun x => [(12, I .i64 x.1), (0, Sp 1000000), (1, I .i64 (d + 1 : Nat)), (4, Sp 4), (11, Sp 11)])
    (fun x => [(1000000, srcB x.2.1), (4, zeroB), (11, .cells ((encDat x.2.2).map .dat))])
    (fun x => x.1 ≤ 1000 ∧ x.2.1.ok ∧ listN (made d) (1 + nextV (nextS s 12) 2).toNat (nextS (nextS s 12) 2) { zeroDat with kind := 5 } = listN (made d) x.1 x.2.1 x.2.2) (fun x => x.1) ((1 + nextV (nextS s 12) 2).toNat, nextS (nextS s 12) 2, { zeroDat with kind := 5 }) (Gh.to [] (by repeat (first | exact trivial | refine ⟨rfl, ?_⟩ | refine ⟨by (simp only [go_sem, zA, zB, zC, zD, zE, zF, zG, reduceCtorEq, zH, zI, zJ, zK, zL, List.length_append, List.length_map, List.length_cons, List.length_nil, Nat.zero_add]) <;> rfl, ?_⟩)) (by repeat (first | exact trivial | refine ⟨rfl, ?_⟩ | refine ⟨by (simp only [go_sem, zA, zB, zC, zD, zE, zF, zG, reduceCtorEq, zH, zI, zJ, zK, zL, List.length_append, List.length_map, List.length_cons, List.length_nil, Nat.zero_add]) <;> rfl, ?_⟩)) rfl rfl rfl) ⟨by simp only; omega, ok_next hs1 _, rfl⟩ ?_
  rintro ⟨n, t, acc⟩ ⟨hl, ht, hp⟩
  simp only at hl ht hp
  cases n with
  | succ n =>
    rw [listN] at hp
    have hw : IntKind.i64.wrap (((d + 1 : Nat) : Int) - 1) = (d : Int) := wrap_pred_nat (by omega)
    have hw2 : IntKind.i64.wrap (((n + 1 : Nat) : Int) - 1) = (n : Int) := wrap_pred_nat (by omega)
    repeat' (first | (simp only [go_sem, zA, zB, zC, zD, zE, zF, zG, reduceCtorEq, zH, zI, zJ, zK, zL, pin, List.length_map, dec_pos, hw, hw2]; all_goals fail_if_success guard_target =ₛ False) | (with_reducible first | ((first | refine seqVC_stepN rfl ?_ | refine seqVC_stepG rfl (by with_unfolding_all rfl) ?_ | refine AWP.seq ?_ | refine AWP.seqR (by kernel_rfl) ?_ | refine parVC_stepN rfl ?_ | refine parVC_stepG rfl (by with_unfolding_all rfl) ?_ | refine parEVC_stepN rfl ?_ | refine parEVC_stepG rfl (by with_unfolding_all rfl) ?_ | refine genVC_stepN rfl ?_ | refine genVC_stepG rfl (by with_unfolding_all rfl) ?_); intro K hK) | ((first | refine hK _ _ _ ?_ | refine hK _ _ ?_ | refine hK _ ?_); clear hK K) | refine seqVC_nil ?_ | refine parVC_nil ?_ | refine parEVC_nil ?_ | refine genVC_nil ?_ | refine AWP.block ?_ | (refine AWP.cond (by with_unfolding_all rfl) ?_ ?_ <;> intro h <;> (try simp only [zM, zN] at h) <;> try exact absurd h (by decide)) | refine AWP.skip ?_ | refine AWP.ret ?_ | refine AWP.exit ?_ | (refine ⟨fun h => ?_, fun h => ?_⟩ <;> (try simp only [zM, zN] at h) <;> try simp only [h])) | (refine ⟨1000000, _, _, _, IH.k 1000000 t ht, rfl, ?_⟩) | (with_reducible first | (refine AWP.segE (id := 40) 7 1000000 mixed (by kernel_rfl) fun K hK => ?_; simp only [List.take_succ_cons, List.take_zero, List.drop_succ_cons, List.drop_zero, Bx.drop, cond_true, cond_false, Nat.reduceBEq]) | (refine AWP.segP (id := 14) 13 mixed (by kernel_rfl) fun K hK => ?_; simp only [List.take_succ_cons, List.take_zero, List.drop_succ_cons, List.drop_zero]) | (refine AWP.segP (id := 25) 8 mixed (by kernel_rfl) fun K hK => ?_; simp only [List.take_succ_cons, List.take_zero, List.drop_succ_cons, List.drop_zero]) | (refine AWP.segP (id := 47) 11 mixed (by kernel_rfl) fun K hK => ?_; simp only [List.take_succ_cons, List.take_zero, List.drop_succ_cons, List.drop_zero]) | refine AWP.parR mixed (by kernel_rfl) fun K hK => ?_ | refine ⟨(by kernel_rfl : depB _ _ _ = true), ?_⟩ | refine Or.inl ?_) | (clear hK K))
    all_goals (refine ⟨(n, (made d t).2, consDat (made d t).1 acc), by simp only; omega, ⟨by simp only; omega, ok_made d ht, hp⟩, Gh.trans (Gh.soft 11 rfl) (Gh.to [] (by repeat (first | exact trivial | refine ⟨rfl, ?_⟩ | refine ⟨by (simp only [go_sem, zA, zB, zC, zD, zE, zF, zG, reduceCtorEq, zH, zI, zJ, zK, zL, List.length_append, List.length_map, List.length_cons, List.length_nil, Nat.zero_add]) <;> rfl, ?_⟩)) (by repeat (first | exact trivial | refine ⟨rfl, ?_⟩ | refine ⟨by (simp only [go_sem, zA, zB, zC, zD, zE, zF, zG, reduceCtorEq, zH, zI, zJ, zK, zL, List.length_append, List.length_map, List.length_cons, List.length_nil, Nat.zero_add]) <;> rfl, ?_⟩)) rfl rfl rfl)⟩)
  | zero =>
    rw [listN] at hp
    have h0 : decide ((0 : Int) < ((0 : Nat) : Int)) = false := by simp
    repeat' (first | (simp only [go_sem, zA, zB, zC, zD, zE, zF, zG, reduceCtorEq, zH, zI, zJ, zK, zL, pin, h0]; all_goals fail_if_success guard_target =ₛ False) | (with_reducible first | ((first | refine seqVC_stepN rfl ?_ | refine seqVC_stepG rfl (by with_unfolding_all rfl) ?_ | refine AWP.seq ?_ | refine AWP.seqR (by kernel_rfl) ?_ | refine parVC_stepN rfl ?_ | refine parVC_stepG rfl (by with_unfolding_all rfl) ?_ | refine parEVC_stepN rfl ?_ | refine parEVC_stepG rfl (by with_unfolding_all rfl) ?_ | refine genVC_stepN rfl ?_ | refine genVC_stepG rfl (by with_unfolding_all rfl) ?_); intro K hK) | ((first | refine hK _ _ _ ?_ | refine hK _ _ ?_ | refine hK _ ?_); clear hK K) | refine seqVC_nil ?_ | refine parVC_nil ?_ | refine parEVC_nil ?_ | refine genVC_nil ?_ | refine AWP.block ?_ | (refine AWP.cond (by with_unfolding_all rfl) ?_ ?_ <;> intro h <;> (try simp only [zM, zN] at h) <;> try exact absurd h (by decide)) | refine AWP.skip ?_ | refine AWP.ret ?_ | refine AWP.exit ?_ | (refine ⟨fun h => ?_, fun h => ?_⟩ <;> (try simp only [zM, zN] at h) <;> try simp only [h]) | (refine AWP.segP (id := 14) 13 mixed (by kernel_rfl) fun K hK => ?_; simp only [List.take_succ_cons, List.take_zero, List.drop_succ_cons, List.drop_zero]) | (refine AWP.segP (id := 25) 8 mixed (by kernel_rfl) fun K hK => ?_; simp only [List.take_succ_cons, List.take_zero, List.drop_succ_cons, List.drop_zero]) | (refine AWP.segP (id := 40) 7 mixed (by kernel_rfl) fun K hK => ?_; simp only [List.take_succ_cons, List.take_zero, List.drop_succ_cons, List.drop_zero]) | (refine AWP.segP (id := 47) 11 mixed (by kernel_rfl) fun K hK => ?_; simp only [List.take_succ_cons, List.take_zero, List.drop_succ_cons, List.drop_zero]) | refine AWP.parR mixed (by kernel_rfl) fun K hK => ?_ | refine ⟨(by kernel_rfl : depB _ _ _ = true), ?_⟩ | refine Or.inl ?_) | (clear hK K))
    all_goals (refine ⟨by simp only [hp], fun x hx => ?_⟩)
    all_goals (simp only [List.mem_singleton] at hx; subst hx; simp [hp, pin])
theorem made_c11 (d : Nat) (hd : d ≤ 1000) (IH : MadeC d) (s : Src) (hs : s.ok) (hk : nextV s 12 = 11) :
    PCB Tryz.prog 7 [Sp pin, I .i64 (d + 1 : Nat)] [(pin, srcB s)] (Dt (made (d + 1) s).1) [(pin, srcB (made (d + 1) s).2)] := by
  have hM : made (d + 1) s = mapN (made d) (nextV (nextS s 12) 3).toNat (nextS (nextS s 12) 3) { zeroDat with kind := 8 } := by
    simp only [made, hk]; rfl
  rw [hM]
  refine PCB.of_body Tryz.func7 rfl (by decide) Tryz.ntmps7 Tryz.results7 rfl rfl rfl ?_ rfl rfl
  have hs1 := ok_next hs 12
  have a1 := nextV_in (nextS s 12) (n := 3) (by omega)
  have hgt : decide ((6 : Int) < 11) = true := by decide
  have hd0 : decide (((d + 1 : Nat) : Int) = 0) = false := by simp; omega
  have hn : nextV (nextS s 12) 3 = (((nextV (nextS s 12) 3).toNat : Nat) : Int) := by omega
  repeat' (first | (simp only [go_sem, zA, zB, zC, zD, zE, zF, zG, reduceCtorEq, zH, zI, zJ, zK, zL, pin, hk, hgt, hd0]; all_goals fail_if_success guard_target =ₛ False) | (with_reducible first | ((first | refine seqVC_stepN rfl ?_ | refine seqVC_stepG rfl (by with_unfolding_all rfl) ?_ | refine AWP.seq ?_ | refine AWP.seqR (by kernel_rfl) ?_ | refine parVC_stepN rfl ?_ | refine parVC_stepG rfl (by with_unfolding_all rfl) ?_ | refine parEVC_stepN rfl ?_ | refine parEVC_stepG rfl (by with_unfolding_all rfl) ?_ | refine genVC_stepN rfl ?_ | refine genVC_stepG rfl (by with_unfolding_all rfl) ?_); intro K hK) | ((first | refine hK _ _ _ ?_ | refine hK _ _ ?_ | refine hK _ ?_); clear hK K) | refine seqVC_nil ?_ | refine parVC_nil ?_ | refine parEVC_nil ?_ | refine genVC_nil ?_ | refine AWP.block ?_ | (refine AWP.cond (by with_unfolding_all rfl) ?_ ?_ <;> intro h <;> (try simp only [zM, zN] at h) <;> try exact absurd h (by decide)) | refine AWP.skip ?_ | refine AWP.ret ?_ | refine AWP.exit ?_ | (refine ⟨fun h => ?_, fun h => ?_⟩ <;> (try simp only [zM, zN] at h) <;> try simp only [h])) | (refine ⟨1000000, _, _, _, next_k 1000000 _ (by repeat (first | with_reducible exact hs | with_reducible refine ok_next ?_ _)) _ (by omega), rfl, ?_⟩) | (with_reducible first | (refine AWP.segP (id := 14) 13 mixed (by kernel_rfl) fun K hK => ?_; simp only [List.take_succ_cons, List.take_zero, List.drop_succ_cons, List.drop_zero]) | (refine AWP.segP (id := 25) 8 mixed (by kernel_rfl) fun K hK => ?_; simp only [List.take_succ_cons, List.take_zero, List.drop_succ_cons, List.drop_zero]) | (refine AWP.segP (id := 40) 7 mixed (by kernel_rfl) fun K hK => ?_; simp only [List.take_succ_cons, List.take_zero, List.drop_succ_cons, List.drop_zero]) | (refine AWP.segP (id := 47) 11 mixed (by kernel_rfl) fun K hK => ?_; simp only [List.take_succ_cons, List.take_zero, List.drop_succ_cons, List.drop_zero]) | refine AWP.parR mixed (by kernel_rfl) fun K hK => ?_ | refine ⟨(by kernel_rfl : depB _ _ _ = true), ?_⟩ | refine Or.inl ?_) | (clear hK K))
  refine AWP.gh (Gh.soft 13 rfl) ?_
  rw [hn]
  refine AWP.loopS (X := Nat × Src × Dat) (fun x => [(14, I .i64 x.1), (0, Sp 1000000), (1, I .i64 (d + 1 : Nat)), (4, Sp 4), (13, Sp 13)])
    (fun x => [(1000000, srcB x.2.1), (4, zeroB), (13, .cells ((encDat x.2.2).map .dat))])
    (fun x => x.1 + x.2.2.kids.length ≤ 1000 ∧ x.2.1.ok ∧ mapN (made d) (nextV (nextS s 12) 3).toNat (nextS (nextS s 12) 3) { zeroDat with kind := 8 } = mapN (made d) x.1 x.2.1 x.2.2) (fun x => x.1) ((nextV (nextS s 12) 3).toNat, nextS (nextS s 12) 3, { zeroDat with kind := 8 }) (Gh.to [] (by repeat (first | exact trivial | refine ⟨rfl, ?_⟩ | refine ⟨by (simp only [go_sem, zA, zB, zC, zD, zE, zF, zG, reduceCtorEq, zH, zI, zJ, zK, zL, List.length_append, List.length_map, List.length_cons, List.length_nil, Nat.zero_add]) <;> rfl, ?_⟩)) (by repeat (first | exact trivial | refine ⟨rfl, ?_⟩ | refine ⟨by (simp only [go_sem, zA, zB, zC, zD, zE, zF, zG, reduceCtorEq, zH, zI, zJ, zK, zL, List.length_append, List.length_map, List.length_cons, List.length_nil, Nat.zero_add]) <;> rfl, ?_⟩)) rfl rfl rfl) ⟨by simp only [zeroDat, List.length_nil]; omega, ok_next hs1 _, rfl⟩ ?_
  rintro ⟨n, t, acc⟩ ⟨hl, ht, hp⟩
  simp only at hl ht hp
  cases n with
  | succ n =>
    rw [mapN] at hp
    have hw : IntKind.i64.wrap (((d + 1 : Nat) : Int) - 1) = (d : Int) := wrap_pred_nat (by omega)
    have hw2 : IntKind.i64.wrap (((n + 1 : Nat) : Int) - 1) = (n : Int) := wrap_pred_nat (by omega)
    repeat' (first | (simp only [go_sem, zA, zB, zC, zD, zE, zF, zG, reduceCtorEq, zH, zI, zJ, zK, zL, pin, List.length_map, dec_pos, hw, hw2]; all_goals fail_if_success guard_target =ₛ False) | (with_reducible first | ((first | refine seqVC_stepN rfl ?_ | refine seqVC_stepG rfl (by with_unfolding_all rfl) ?_ | refine AWP.seq ?_ | refine AWP.seqR (by kernel_rfl) ?_ | refine parVC_stepN rfl ?_ | refine parVC_stepG rfl (by with_unfolding_all rfl) ?_ | refine parEVC_stepN rfl ?_ | refine parEVC_stepG rfl (by with_unfolding_all rfl) ?_ | refine genVC_stepN rfl ?_ | refine genVC_stepG rfl (by with_unfolding_all rfl) ?_); intro K hK) | ((first | refine hK _ _ _ ?_ | refine hK _ _ ?_ | refine hK _ ?_); clear hK K) | refine seqVC_nil ?_ | refine parVC_nil ?_ | refine parEVC_nil ?_ | refine genVC_nil ?_ | refine AWP.block ?_ | (refine AWP.cond (by with_unfolding_all rfl) ?_ ?_ <;> intro h <;> (try simp only [zM, zN] at h) <;> try exact absurd h (by decide)) | refine AWP.skip ?_ | refine AWP.ret ?_ | refine AWP.exit ?_ | (refine ⟨fun h => ?_, fun h => ?_⟩ <;> (try simp only [zM, zN] at h) <;> try simp only [h]) | refine ⟨_, put_c acc _ _ (by omega), ?_⟩) | (refine ⟨1000000, _, _, _, key_k 1000000 t ht, rfl, ?_⟩) | (refine ⟨1000000, _, _, _, IH.k 1000000 (keyV t).2 (ok_key ht), rfl, ?_⟩) | (with_reducible first | (refine AWP.segEE (id := 47) 9 1000000 13 mixed (by kernel_rfl) fun K hK => ?_; simp only [List.take_succ_cons, List.take_zero, List.drop_succ_cons, List.drop_zero, Bx.drop, cond_true, cond_false, Nat.reduceBEq]) | (refine AWP.segP (id := 14) 13 mixed (by kernel_rfl) fun K hK => ?_; simp only [List.take_succ_cons, List.take_zero, List.drop_succ_cons, List.drop_zero]) | (refine AWP.segP (id := 25) 8 mixed (by kernel_rfl) fun K hK => ?_; simp only [List.take_succ_cons, List.take_zero, List.drop_succ_cons, List.drop_zero]) | (refine AWP.segP (id := 40) 7 mixed (by kernel_rfl) fun K hK => ?_; simp only [List.take_succ_cons, List.take_zero, List.drop_succ_cons, List.drop_zero]) | (refine AWP.segP (id := 47) 11 mixed (by kernel_rfl) fun K hK => ?_; simp only [List.take_succ_cons, List.take_zero, List.drop_succ_cons, List.drop_zero]) | refine AWP.parR mixed (by kernel_rfl) fun K hK => ?_ | refine ⟨(by kernel_rfl : depB _ _ _ = true), ?_⟩ | refine Or.inl ?_) | (clear hK K))
    all_goals (refine ⟨(n, (made d (keyV t).2).2, (putR acc (keyV t).1 (made d (keyV t).2).1).1), by simp only; omega, ⟨by have := put_len acc (keyV t).1 (made d (keyV t).2).1; simp only; omega, ok_made d (ok_key ht), hp⟩, Gh.to [] (by repeat (first | exact trivial | refine ⟨rfl, ?_⟩ | refine ⟨by (simp only [go_sem, zA, zB, zC, zD, zE, zF, zG, reduceCtorEq, zH, zI, zJ, zK, zL, List.length_append, List.length_map, List.length_cons, List.length_nil, Nat.zero_add]) <;> rfl, ?_⟩)) (by repeat (first | exact trivial | refine ⟨rfl, ?_⟩ | refine ⟨by (simp only [go_sem, zA, zB, zC, zD, zE, zF, zG, reduceCtorEq, zH, zI, zJ, zK, zL, List.length_append, List.length_map, List.length_cons, List.length_nil, Nat.zero_add]) <;> rfl, ?_⟩)) rfl rfl rfl⟩)
  | zero =>
    rw [mapN] at hp
    have h0 : decide ((0 : Int) < ((0 : Nat) : Int)) = false := by simp
    repeat' (first | (simp only [go_sem, zA, zB, zC, zD, zE, zF, zG, reduceCtorEq, zH, zI, zJ, zK, zL, pin, h0]; all_goals fail_if_success guard_target =ₛ False) | (with_reducible first | ((first | refine seqVC_stepN rfl ?_ | refine seqVC_stepG rfl (by with_unfolding_all rfl) ?_ | refine AWP.seq ?_ | refine AWP.seqR (by kernel_rfl) ?_ | refine parVC_stepN rfl ?_ | refine parVC_stepG rfl (by with_unfolding_all rfl) ?_ | refine parEVC_stepN rfl ?_ | refine parEVC_stepG rfl (by with_unfolding_all rfl) ?_ | refine genVC_stepN rfl ?_ | refine genVC_stepG rfl (by with_unfolding_all rfl) ?_); intro K hK) | ((first | refine hK _ _ _ ?_ | refine hK _ _ ?_ | refine hK _ ?_); clear hK K) | refine seqVC_nil ?_ | refine parVC_nil ?_ | refine parEVC_nil ?_ | refine genVC_nil ?_ | refine AWP.block ?_ | (refine AWP.cond (by with_unfolding_all rfl) ?_ ?_ <;> intro h <;> (try simp only [zM, zN] at h) <;> try exact absurd h (by decide)) | refine AWP.skip ?_ | refine AWP.ret ?_ | refine AWP.exit ?_ | (refine ⟨fun h => ?_, fun h => ?_⟩ <;> (try simp only [zM, zN] at h) <;> try simp only [h]) | (refine AWP.segP (id := 14) 13 mixed (by kernel_rfl) fun K hK => ?_; simp only [List.take_succ_cons, List.take_zero, List.drop_succ_cons, List.drop_zero]) | (refine AWP.segP (id := 25) 8 mixed (by kernel_rfl) fun K hK => ?_; simp only [List.take_succ_cons, List.take_zero, List.drop_succ_cons, List.drop_zero]) | (refine AWP.segP (id := 40) 7 mixed (by kernel_rfl) fun K hK => ?_; simp only [List.take_succ_cons, List.take_zero, List.drop_succ_cons, List.drop_zero]) | (refine AWP.segP (id := 47) 11 mixed (by kernel_rfl) fun K hK => ?_; simp only [List.take_succ_cons, List.take_zero, List.drop_succ_cons, List.drop_zero]) | refine AWP.parR mixed (by kernel_rfl) fun K hK => ?_ | refine ⟨(by kernel_rfl : depB _ _ _ = true), ?_⟩ | refine Or.inl ?_) | (clear hK K))
    all_goals (refine ⟨by simp only [hp], fun x hx => ?_⟩)
    all_goals (simp only [List.mem_singleton] at hx; subst hx; simp [hp, pin])
theorem base_c0 (dep : Nat) (s : Src) (hs : s.ok) (hk : nextV s 12 = 0) :
    PCB Tryz.prog 7 [Sp pin, I .i64 dep] [(pin, srcB s)] (Dt (madeBase 0 (nextS s 12)).1) [(pin, srcB (madeBase 0 (nextS s 12)).2)] := by
  refine PCB.of_body Tryz.func7 rfl (by decide) Tryz.ntmps7 Tryz.results7 rfl rfl rfl ?_ rfl rfl
  have hs1 := ok_next hs 12
  have a1 := nextV_in (nextS s 12) (n := 4) (by omega)
  have a2 := nextV_in (nextS (nextS s 12) 3) (n := 2) (by omega)
  have a3 := nextV_in (nextS (nextS (nextS s 12) 3) 2) (n := 2) (by omega)
  have hw1 : IntKind.i64.wrap (1 + nextV (nextS (nextS (nextS s 12) 3) 2) 2) = 1 + nextV (nextS (nextS (nextS s 12) 3) 2) 2 := by rw [w64 (by omega)]
  have a4 := nextV_in (nextS s 12) (n := 5) (by omega)
  have hw2 : IntKind.i64.wrap (nextV (nextS s 12) 5 - 1) = nextV (nextS s 12) 5 - 1 := by rw [w64 (by omega)]
  have hgt : decide ((6 : Int) < 0) = false := by decide
  repeat' (first | (simp only [go_sem, zA, zB, zC, zD, zE, zF, zG, reduceCtorEq, zH, zI, zJ, zK, zL, pin, hk, hgt, hw1, hw2]; all_goals fail_if_success guard_target =ₛ False) | (with_reducible first | ((first | refine seqVC_stepN rfl ?_ | refine seqVC_stepG rfl (by with_unfolding_all rfl) ?_ | refine AWP.seq ?_ | refine AWP.seqR (by kernel_rfl) ?_ | refine parVC_stepN rfl ?_ | refine parVC_stepG rfl (by with_unfolding_all rfl) ?_ | refine parEVC_stepN rfl ?_ | refine parEVC_stepG rfl (by with_unfolding_all rfl) ?_ | refine genVC_stepN rfl ?_ | refine genVC_stepG rfl (by with_unfolding_all rfl) ?_); intro K hK) | ((first | refine hK _ _ _ ?_ | refine hK _ _ ?_ | refine hK _ ?_); clear hK K) | refine seqVC_nil ?_ | refine parVC_nil ?_ | refine parEVC_nil ?_ | refine genVC_nil ?_ | refine AWP.block ?_ | (refine AWP.cond (by with_unfolding_all rfl) ?_ ?_ <;> intro h <;> (try simp only [zM, zN] at h) <;> try exact absurd h (by decide)) | refine AWP.skip ?_ | refine AWP.ret ?_ | refine AWP.exit ?_ | (refine ⟨fun h => ?_, fun h => ?_⟩ <;> (try simp only [zM, zN] at h) <;> try simp only [h])) | (refine ⟨1000000, _, _, _, next_k 1000000 _ (by repeat (first | with_reducible exact hs | with_reducible refine ok_next ?_ _)) _ (by omega), rfl, ?_⟩) | (refine ⟨1000000, _, _, _, word_k 1000000 _ hs1, rfl, ?_⟩) | (refine ⟨1000000, _, _, _, number_k 1000000 _ hs1, rfl, ?_⟩) | (with_reducible first | (refine AWP.genR (id := 14) [1,4,8,11,13] [1000000, 4] mixed (by kernel_rfl) fun K hK => ?_; simp only [Bx.outs, Bx.drop, cond_true, cond_false, Nat.reduceBEq, go_sem]) | (refine AWP.segP (id := 25) 8 mixed (by kernel_rfl) fun K hK => ?_; simp only [List.take_succ_cons, List.take_zero, List.drop_succ_cons, List.drop_zero]) | (refine AWP.segP (id := 40) 7 mixed (by kernel_rfl) fun K hK => ?_; simp only [List.take_succ_cons, List.take_zero, List.drop_succ_cons, List.drop_zero]) | (refine AWP.segP (id := 47) 11 mixed (by kernel_rfl) fun K hK => ?_; simp only [List.take_succ_cons, List.take_zero, List.drop_succ_cons, List.drop_zero]) | refine AWP.parR mixed (by kernel_rfl) fun K hK => ?_ | refine ⟨(by kernel_rfl : depB _ _ _ = true), ?_⟩ | refine Or.inl ?_) | (clear hK K))
  all_goals (refine ⟨by simp only [madeBase, cond_true, cond_false, decide_true, decide_false, Int.reduceEq, Dt, encDat_eq, atomDat, intDat, funDat, zeroDat]; rfl, fun x hx => ?_⟩)
  all_goals (simp only [List.mem_singleton] at hx; subst hx; simp [madeBase, pin])
theorem base_c1 (dep : Nat) (s : Src) (hs : s.ok) (hk : nextV s 12 = 1) :
    PCB Tryz.prog 7 [Sp pin, I .i64 dep] [(pin, srcB s)] (Dt (madeBase 1 (nextS s 12)).1) [(pin, srcB (madeBase 1 (nextS s 12)).2)] := by
  refine PCB.of_body Tryz.func7 rfl (by decide) Tryz.ntmps7 Tryz.results7 rfl rfl rfl ?_ rfl rfl
  have hs1 := ok_next hs 12
  have a1 := nextV_in (nextS s 12) (n := 4) (by omega)
  have a2 := nextV_in (nextS (nextS s 12) 3) (n := 2) (by omega)
  have a3 := nextV_in (nextS (nextS (nextS s 12) 3) 2) (n := 2) (by omega)
  have hw1 : IntKind.i64.wrap (1 + nextV (nextS (nextS (nextS s 12) 3) 2) 2) = 1 + nextV (nextS (nextS (nextS s 12) 3) 2) 2 := by rw [w64 (by omega)]
  have a4 := nextV_in (nextS s 12) (n := 5) (by omega)
  have hw2 : IntKind.i64.wrap (nextV (nextS s 12) 5 - 1) = nextV (nextS s 12) 5 - 1 := by rw [w64 (by omega)]
  have hgt : decide ((6 : Int) < 1) = false := by decide
  repeat' (first | (simp only [go_sem, zA, zB, zC, zD, zE, zF, zG, reduceCtorEq, zH, zI, zJ, zK, zL, pin, hk, hgt, hw1, hw2]; all_goals fail_if_success guard_target =ₛ False) | (with_reducible first | ((first | refine seqVC_stepN rfl ?_ | refine seqVC_stepG rfl (by with_unfolding_all rfl) ?_ | refine AWP.seq ?_ | refine AWP.seqR (by kernel_rfl) ?_ | refine parVC_stepN rfl ?_ | refine parVC_stepG rfl (by with_unfolding_all rfl) ?_ | refine parEVC_stepN rfl ?_ | refine parEVC_stepG rfl (by with_unfolding_all rfl) ?_ | refine genVC_stepN rfl ?_ | refine genVC_stepG rfl (by with_unfolding_all rfl) ?_); intro K hK) | ((first | refine hK _ _ _ ?_ | refine hK _ _ ?_ | refine hK _ ?_); clear hK K) | refine seqVC_nil ?_ | refine parVC_nil ?_ | refine parEVC_nil ?_ | refine genVC_nil ?_ | refine AWP.block ?_ | (refine AWP.cond (by with_unfolding_all rfl) ?_ ?_ <;> intro h <;> (try simp only [zM, zN] at h) <;> try exact absurd h (by decide)) | refine AWP.skip ?_ | refine AWP.ret ?_ | refine AWP.exit ?_ | (refine ⟨fun h => ?_, fun h => ?_⟩ <;> (try simp only [zM, zN] at h) <;> try simp only [h])) | (refine ⟨1000000, _, _, _, next_k 1000000 _ (by repeat (first | with_reducible exact hs | with_reducible refine ok_next ?_ _)) _ (by omega), rfl, ?_⟩) | (refine ⟨1000000, _, _, _, word_k 1000000 _ hs1, rfl, ?_⟩) | (refine ⟨1000000, _, _, _, number_k 1000000 _ hs1, rfl, ?_⟩) | ( refine ⟨a1.1, [.str (atoms4.getD (nextV (nextS s 12) 4).toNat [])], lit_get (fun x => [C.str x]) atoms4 [] a1, ?_⟩) | (with_reducible first | (refine AWP.genR (id := 14) [1,4,8,11,13] [1000000, 4] mixed (by kernel_rfl) fun K hK => ?_; simp only [Bx.outs, Bx.drop, cond_true, cond_false, Nat.reduceBEq, go_sem]) | (refine AWP.segP (id := 25) 8 mixed (by kernel_rfl) fun K hK => ?_; simp only [List.take_succ_cons, List.take_zero, List.drop_succ_cons, List.drop_zero]) | (refine AWP.segP (id := 40) 7 mixed (by kernel_rfl) fun K hK => ?_; simp only [List.take_succ_cons, List.take_zero, List.drop_succ_cons, List.drop_zero]) | (refine AWP.segP (id := 47) 11 mixed (by kernel_rfl) fun K hK => ?_; simp only [List.take_succ_cons, List.take_zero, List.drop_succ_cons, List.drop_zero]) | refine AWP.parR mixed (by kernel_rfl) fun K hK => ?_ | refine ⟨(by kernel_rfl : depB _ _ _ = true), ?_⟩ | refine Or.inl ?_) | (clear hK K))
  all_goals (refine ⟨by simp only [madeBase, cond_true, cond_false, decide_true, decide_false, Int.reduceEq, Dt, encDat_eq, atomDat, intDat, funDat, zeroDat]; rfl, fun x hx => ?_⟩)
  all_goals (simp only [List.mem_singleton] at hx; subst hx; simp [madeBase, pin])
theorem base_c2 (dep : Nat) (s : Src) (hs : s.ok) (hk : nextV s 12 = 2) :
    PCB Tryz.prog 7 [Sp pin, I .i64 dep] [(pin, srcB s)] (Dt (madeBase 2 (nextS s 12)).1) [(pin, srcB (madeBase 2 (nextS s 12)).2)] := by
  refine PCB.of_body Tryz.func7 rfl (by decide) Tryz.ntmps7 Tryz.results7 rfl rfl rfl ?_ rfl rfl
  have hs1 := ok_next hs 12
  have a1 := nextV_in (nextS s 12) (n := 4) (by omega)
  have a2 := nextV_in (nextS (nextS s 12) 3) (n := 2) (by omega)
  have a3 := nextV_in (nextS (nextS (nextS s 12) 3) 2) (n := 2) (by omega)
  have hw1 : IntKind.i64.wrap (1 + nextV (nextS (nextS (nextS s 12) 3) 2) 2) = 1 + nextV (nextS (nextS (nextS s 12) 3) 2) 2 := by rw [w64 (by omega)]
  have a4 := nextV_in (nextS s 12) (n := 5) (by omega)
  have hw2 : IntKind.i64.wrap (nextV (nextS s 12) 5 - 1) = nextV (nextS s 12) 5 - 1 := by rw [w64 (by omega)]
  have hgt : decide ((6 : Int) < 2) = false := by decide
  repeat' (first | (simp only [go_sem, zA, zB, zC, zD, zE, zF, zG, reduceCtorEq, zH, zI, zJ, zK, zL, pin, hk, hgt, hw1, hw2]; all_goals fail_if_success guard_target =ₛ False) | (with_reducible first | ((first | refine seqVC_stepN rfl ?_ | refine seqVC_stepG rfl (by with_unfolding_all rfl) ?_ | refine AWP.seq ?_ | refine AWP.seqR (by kernel_rfl) ?_ | refine parVC_stepN rfl ?_ | refine parVC_stepG rfl (by with_unfolding_all rfl) ?_ | refine parEVC_stepN rfl ?_ | refine parEVC_stepG rfl (by with_unfolding_all rfl) ?_ | refine genVC_stepN rfl ?_ | refine genVC_stepG rfl (by with_unfolding_all rfl) ?_); intro K hK) | ((first | refine hK _ _ _ ?_ | refine hK _ _ ?_ | refine hK _ ?_); clear hK K) | refine seqVC_nil ?_ | refine parVC_nil ?_ | refine parEVC_nil ?_ | refine genVC_nil ?_ | refine AWP.block ?_ | (refine AWP.cond (by with_unfolding_all rfl) ?_ ?_ <;> intro h <;> (try simp only [zM, zN] at h) <;> try exact absurd h (by decide)) | refine AWP.skip ?_ | refine AWP.ret ?_ | refine AWP.exit ?_ | (refine ⟨fun h => ?_, fun h => ?_⟩ <;> (try simp only [zM, zN] at h) <;> try simp only [h])) | (refine ⟨1000000, _, _, _, next_k 1000000 _ (by repeat (first | with_reducible exact hs | with_reducible refine ok_next ?_ _)) _ (by omega), rfl, ?_⟩) | (refine ⟨1000000, _, _, _, word_k 1000000 _ hs1, rfl, ?_⟩) | (refine ⟨1000000, _, _, _, number_k 1000000 _ hs1, rfl, ?_⟩) | (with_reducible first | (refine AWP.genR (id := 14) [1,4,8,11,13] [1000000, 4] mixed (by kernel_rfl) fun K hK => ?_; simp only [Bx.outs, Bx.drop, cond_true, cond_false, Nat.reduceBEq, go_sem]) | (refine AWP.segP (id := 25) 8 mixed (by kernel_rfl) fun K hK => ?_; simp only [List.take_succ_cons, List.take_zero, List.drop_succ_cons, List.drop_zero]) | (refine AWP.segP (id := 40) 7 mixed (by kernel_rfl) fun K hK => ?_; simp only [List.take_succ_cons, List.take_zero, List.drop_succ_cons, List.drop_zero]) | (refine AWP.segP (id := 47) 11 mixed (by kernel_rfl) fun K hK => ?_; simp only [List.take_succ_cons, List.take_zero, List.drop_succ_cons, List.drop_zero]) | refine AWP.parR mixed (by kernel_rfl) fun K hK => ?_ | refine ⟨(by kernel_rfl : depB _ _ _ = true), ?_⟩ | refine Or.inl ?_) | (clear hK K))
  all_goals (refine ⟨by simp only [madeBase, cond_true, cond_false, decide_true, decide_false, Int.reduceEq, Dt, encDat_eq, atomDat, intDat, funDat, zeroDat]; rfl, fun x hx => ?_⟩)
  all_goals (simp only [List.mem_singleton] at hx; subst hx; simp [madeBase, pin])
theorem base_c3 (dep : Nat) (s : Src) (hs : s.ok) (hk : nextV s 12 = 3) :
    PCB Tryz.prog 7 [Sp pin, I .i64 dep] [(pin, srcB s)] (Dt (madeBase 3 (nextS s 12)).1) [(pin, srcB (madeBase 3 (nextS s 12)).2)] := by
  refine PCB.of_body Tryz.func7 rfl (by decide) Tryz.ntmps7 Tryz.results7 rfl rfl rfl ?_ rfl rfl
  have hs1 := ok_next hs 12
  have a1 := nextV_in (nextS s 12) (n := 4) (by omega)
  have a2 := nextV_in (nextS (nextS s 12) 3) (n := 2) (by omega)
  have a3 := nextV_in (nextS (nextS (nextS s 12) 3) 2) (n := 2) (by omega)
  have hw1 : IntKind.i64.wrap (1 + nextV (nextS (nextS (nextS s 12) 3) 2) 2) = 1 + nextV (nextS (nextS (nextS s 12) 3) 2) 2 := by rw [w64 (by omega)]
  have a4 := nextV_in (nextS s 12) (n := 5) (by omega)
  have hw2 : IntKind.i64.wrap (nextV (nextS s 12) 5 - 1) = nextV (nextS s 12) 5 - 1 := by rw [w64 (by omega)]
  have hgt : decide ((6 : Int) < 3) = false := by decide
  repeat' (first | (simp only [go_sem, zA, zB, zC, zD, zE, zF, zG, reduceCtorEq, zH, zI, zJ, zK, zL, pin, hk, hgt, hw1, hw2]; all_goals fail_if_success guard_target =ₛ False) | (with_reducible first | ((first | refine seqVC_stepN rfl ?_ | refine seqVC_stepG rfl (by with_unfolding_all rfl) ?_ | refine AWP.seq ?_ | refine AWP.seqR (by kernel_rfl) ?_ | refine parVC_stepN rfl ?_ | refine parVC_stepG rfl (by with_unfolding_all rfl) ?_ | refine parEVC_stepN rfl ?_ | refine parEVC_stepG rfl (by with_unfolding_all rfl) ?_ | refine genVC_stepN rfl ?_ | refine genVC_stepG rfl (by with_unfolding_all rfl) ?_); intro K hK) | ((first | refine hK _ _ _ ?_ | refine hK _ _ ?_ | refine hK _ ?_); clear hK K) | refine seqVC_nil ?_ | refine parVC_nil ?_ | refine parEVC_nil ?_ | refine genVC_nil ?_ | refine AWP.block ?_ | (refine AWP.cond (by with_unfolding_all rfl) ?_ ?_ <;> intro h <;> (try simp only [zM, zN] at h) <;> try exact absurd h (by decide)) | refine AWP.skip ?_ | refine AWP.ret ?_ | refine AWP.exit ?_ | (refine ⟨fun h => ?_, fun h => ?_⟩ <;> (try simp only [zM, zN] at h) <;> try simp only [h])) | (refine ⟨1000000, _, _, _, next_k 1000000 _ (by repeat (first | with_reducible exact hs | with_reducible refine ok_next ?_ _)) _ (by omega), rfl, ?_⟩) | (refine ⟨1000000, _, _, _, word_k 1000000 _ hs1, rfl, ?_⟩) | (refine ⟨1000000, _, _, _, number_k 1000000 _ hs1, rfl, ?_⟩) | (with_reducible first | (refine AWP.genR (id := 14) [1,4,8,11,13] [1000000, 4] mixed (by kernel_rfl) fun K hK => ?_; simp only [Bx.outs, Bx.drop, cond_true, cond_false, Nat.reduceBEq, go_sem]) | (refine AWP.segP (id := 25) 8 mixed (by kernel_rfl) fun K hK => ?_; simp only [List.take_succ_cons, List.take_zero, List.drop_succ_cons, List.drop_zero]) | (refine AWP.segP (id := 40) 7 mixed (by kernel_rfl) fun K hK => ?_; simp only [List.take_succ_cons, List.take_zero, List.drop_succ_cons, List.drop_zero]) | (refine AWP.segP (id := 47) 11 mixed (by kernel_rfl) fun K hK => ?_; simp only [List.take_succ_cons, List.take_zero, List.drop_succ_cons, List.drop_zero]) | refine AWP.parR mixed (by kernel_rfl) fun K hK => ?_ | refine ⟨(by kernel_rfl : depB _ _ _ = true), ?_⟩ | refine Or.inl ?_) | (clear hK K))
  all_goals (refine ⟨by simp only [madeBase, cond_true, cond_false, decide_true, decide_false, Int.reduceEq, Dt, encDat_eq, atomDat, intDat, funDat, zeroDat]; rfl, fun x hx => ?_⟩)
  all_goals (simp only [List.mem_singleton] at hx; subst hx; simp [madeBase, pin])
theorem base_c4 (dep : Nat) (s : Src) (hs : s.ok) (hk : nextV s 12 = 4) :
    PCB Tryz.prog 7 [Sp pin, I .i64 dep] [(pin, srcB s)] (Dt (madeBase 4 (nextS s 12)).1) [(pin, srcB (madeBase 4 (nextS s 12)).2)] := by
  refine PCB.of_body Tryz.func7 rfl (by decide) Tryz.ntmps7 Tryz.results7 rfl rfl rfl ?_ rfl rfl
  have hs1 := ok_next hs 12
  have a1 := nextV_in (nextS s 12) (n := 4) (by omega)
  have a2 := nextV_in (nextS (nextS s 12) 3) (n := 2) (by omega)
  have a3 := nextV_in (nextS (nextS (nextS s 12) 3) 2) (n := 2) (by omega)
  have hw1 : IntKind.i64.wrap (1 + nextV (nextS (nextS (nextS s 12) 3) 2) 2) = 1 + nextV (nextS (nextS (nextS s 12) 3) 2) 2 := by rw [w64 (by omega)]
  have a4 := nextV_in (nextS s 12) (n := 5) (by omega)
  have hw2 : IntKind.i64.wrap (nextV (nextS s 12) 5 - 1) = nextV (nextS s 12) 5 - 1 := by rw [w64 (by omega)]
  have hgt : decide ((6 : Int) < 4) = false := by decide
  repeat' (first | (simp only [go_sem, zA, zB, zC, zD, zE, zF, zG, reduceCtorEq, zH, zI, zJ, zK, zL, pin, hk, hgt, hw1, hw2]; all_goals fail_if_success guard_target =ₛ False) | (with_reducible first | ((first | refine seqVC_stepN rfl ?_ | refine seqVC_stepG rfl (by with_unfolding_all rfl) ?_ | refine AWP.seq ?_ | refine AWP.seqR (by kernel_rfl) ?_ | refine parVC_stepN rfl ?_ | refine parVC_stepG rfl (by with_unfolding_all rfl) ?_ | refine parEVC_stepN rfl ?_ | refine parEVC_stepG rfl (by with_unfolding_all rfl) ?_ | refine genVC_stepN rfl ?_ | refine genVC_stepG rfl (by with_unfolding_all rfl) ?_); intro K hK) | ((first | refine hK _ _ _ ?_ | refine hK _ _ ?_ | refine hK _ ?_); clear hK K) | refine seqVC_nil ?_ | refine parVC_nil ?_ | refine parEVC_nil ?_ | refine genVC_nil ?_ | refine AWP.block ?_ | (refine AWP.cond (by with_unfolding_all rfl) ?_ ?_ <;> intro h <;> (try simp only [zM, zN] at h) <;> try exact absurd h (by decide)) | refine AWP.skip ?_ | refine AWP.ret ?_ | refine AWP.exit ?_ | (refine ⟨fun h => ?_, fun h => ?_⟩ <;> (try simp only [zM, zN] at h) <;> try simp only [h])) | (refine ⟨1000000, _, _, _, next_k 1000000 _ (by repeat (first | with_reducible exact hs | with_reducible refine ok_next ?_ _)) _ (by omega), rfl, ?_⟩) | (refine ⟨1000000, _, _, _, word_k 1000000 _ hs1, rfl, ?_⟩) | (refine ⟨1000000, _, _, _, number_k 1000000 _ hs1, rfl, ?_⟩) | (with_reducible first | (refine AWP.genR (id := 14) [1,4,8,11,13] [1000000, 4] mixed (by kernel_rfl) fun K hK => ?_; simp only [Bx.outs, Bx.drop, cond_true, cond_false, Nat.reduceBEq, go_sem]) | (refine AWP.segP (id := 25) 8 mixed (by kernel_rfl) fun K hK => ?_; simp only [List.take_succ_cons, List.take_zero, List.drop_succ_cons, List.drop_zero]) | (refine AWP.segP (id := 40) 7 mixed (by kernel_rfl) fun K hK => ?_; simp only [List.take_succ_cons, List.take_zero, List.drop_succ_cons, List.drop_zero]) | (refine AWP.segP (id := 47) 11 mixed (by kernel_rfl) fun K hK => ?_; simp only [List.take_succ_cons, List.take_zero, List.drop_succ_cons, List.drop_zero]) | refine AWP.parR mixed (by kernel_rfl) fun K hK => ?_ | refine ⟨(by kernel_rfl : depB _ _ _ = true), ?_⟩ | refine Or.inl ?_) | (clear hK K))
  all_goals (refine ⟨by simp only [madeBase, cond_true, cond_false, decide_true, decide_false, Int.reduceEq, Dt, encDat_eq, atomDat, intDat, funDat, zeroDat]; rfl, fun x hx => ?_⟩)
  all_goals (simp only [List.mem_singleton] at hx; subst hx; simp [madeBase, pin])
theorem base_c5 (dep : Nat) (s : Src) (hs : s.ok) (hk : nextV s 12 = 5) :
    PCB Tryz.prog 7 [Sp pin, I .i64 dep] [(pin, srcB s)] (Dt (madeBase 5 (nextS s 12)).1) [(pin, srcB (madeBase 5 (nextS s 12)).2)] := by
  refine PCB.of_body Tryz.func7 rfl (by decide) Tryz.ntmps7 Tryz.results7 rfl rfl rfl ?_ rfl rfl
  have hs1 := ok_next hs 12
  have a1 := nextV_in (nextS s 12) (n := 4) (by omega)
  have a2 := nextV_in (nextS (nextS s 12) 3) (n := 2) (by omega)
  have a3 := nextV_in (nextS (nextS (nextS s 12) 3) 2) (n := 2) (by omega)
  have hw1 : IntKind.i64.wrap (1 + nextV (nextS (nextS (nextS s 12) 3) 2) 2) = 1 + nextV (nextS (nextS (nextS s 12) 3) 2) 2 := by rw [w64 (by omega)]
  have a4 := nextV_in (nextS s 12) (n := 5) (by omega)
  have hw2 : IntKind.i64.wrap (nextV (nextS s 12) 5 - 1) = nextV (nextS s 12) 5 - 1 := by rw [w64 (by omega)]
  have hgt : decide ((6 : Int) < 5) = false := by decide
  repeat' (first | (simp only [go_sem, zA, zB, zC, zD, zE, zF, zG, reduceCtorEq, zH, zI, zJ, zK, zL, pin, hk, hgt, hw1, hw2]; all_goals fail_if_success guard_target =ₛ False) | (with_reducible first | ((first | refine seqVC_stepN rfl ?_ | refine seqVC_stepG rfl (by with_unfolding_all rfl) ?_ | refine AWP.seq ?_ | refine AWP.seqR (by kernel_rfl) ?_ | refine parVC_stepN rfl ?_ | refine parVC_stepG rfl (by with_unfolding_all rfl) ?_ | refine parEVC_stepN rfl ?_ | refine parEVC_stepG rfl (by with_unfolding_all rfl) ?_ | refine genVC_stepN rfl ?_ | refine genVC_stepG rfl (by with_unfolding_all rfl) ?_); intro K hK) | ((first | refine hK _ _ _ ?_ | refine hK _ _ ?_ | refine hK _ ?_); clear hK K) | refine seqVC_nil ?_ | refine parVC_nil ?_ | refine parEVC_nil ?_ | refine genVC_nil ?_ | refine AWP.block ?_ | (refine AWP.cond (by with_unfolding_all rfl) ?_ ?_ <;> intro h <;> (try simp only [zM, zN] at h) <;> try exact absurd h (by decide)) | refine AWP.skip ?_ | refine AWP.ret ?_ | refine AWP.exit ?_ | (refine ⟨fun h => ?_, fun h => ?_⟩ <;> (try simp only [zM, zN] at h) <;> try simp only [h])) | (refine ⟨1000000, _, _, _, next_k 1000000 _ (by repeat (first | with_reducible exact hs | with_reducible refine ok_next ?_ _)) _ (by omega), rfl, ?_⟩) | (refine ⟨1000000, _, _, _, word_k 1000000 _ hs1, rfl, ?_⟩) | (refine ⟨1000000, _, _, _, number_k 1000000 _ hs1, rfl, ?_⟩) | ( refine ⟨a2.1, [.str (mods2.getD (nextV (nextS (nextS s 12) 3) 2).toNat [])], lit_get (fun x => [C.str x]) mods2 [] a2, ?_⟩) | (with_reducible first | (refine AWP.genR (id := 14) [1,4,8,11,13] [1000000, 4] mixed (by kernel_rfl) fun K hK => ?_; simp only [Bx.outs, Bx.drop, cond_true, cond_false, Nat.reduceBEq, go_sem]) | (refine AWP.segP (id := 25) 8 mixed (by kernel_rfl) fun K hK => ?_; simp only [List.take_succ_cons, List.take_zero, List.drop_succ_cons, List.drop_zero]) | (refine AWP.segP (id := 40) 7 mixed (by kernel_rfl) fun K hK => ?_; simp only [List.take_succ_cons, List.take_zero, List.drop_succ_cons, List.drop_zero]) | (refine AWP.segP (id := 47) 11 mixed (by kernel_rfl) fun K hK => ?_; simp only [List.take_succ_cons, List.take_zero, List.drop_succ_cons, List.drop_zero]) | refine AWP.parR mixed (by kernel_rfl) fun K hK => ?_ | refine ⟨(by kernel_rfl : depB _ _ _ = true), ?_⟩ | refine Or.inl ?_) | (clear hK K))
  all_goals (refine ⟨by simp only [madeBase, cond_true, cond_false, decide_true, decide_false, Int.reduceEq, Dt, encDat_eq, atomDat, intDat, funDat, zeroDat]; rfl, fun x hx => ?_⟩)
  all_goals (simp only [List.mem_singleton] at hx; subst hx; simp [madeBase, pin])
theorem base_c6 (dep : Nat) (s : Src) (hs : s.ok) (hk : nextV s 12 = 6) :
    PCB Tryz.prog 7 [Sp pin, I .i64 dep] [(pin, srcB s)] (Dt (madeBase 6 (nextS s 12)).1) [(pin, srcB (madeBase 6 (nextS s 12)).2)] := by
  refine PCB.of_body Tryz.func7 rfl (by decide) Tryz.ntmps7 Tryz.results7 rfl rfl rfl ?_ rfl rfl
  have hs1 := ok_next hs 12
  have a1 := nextV_in (nextS s 12) (n := 4) (by omega)
  have a2 := nextV_in (nextS (nextS s 12) 3) (n := 2) (by omega)
  have a3 := nextV_in (nextS (nextS (nextS s 12) 3) 2) (n := 2) (by omega)
  have hw1 : IntKind.i64.wrap (1 + nextV (nextS (nextS (nextS s 12) 3) 2) 2) = 1 + nextV (nextS (nextS (nextS s 12) 3) 2) 2 := by rw [w64 (by omega)]
  have a4 := nextV_in (nextS s 12) (n := 5) (by omega)
  have hw2 : IntKind.i64.wrap (nextV (nextS s 12) 5 - 1) = nextV (nextS s 12) 5 - 1 := by rw [w64 (by omega)]
  have hgt : decide ((6 : Int) < 6) = false := by decide
  repeat' (first | (simp only [go_sem, zA, zB, zC, zD, zE, zF, zG, reduceCtorEq, zH, zI, zJ, zK, zL, pin, hk, hgt, hw1, hw2]; all_goals fail_if_success guard_target =ₛ False) | (with_reducible first | ((first | refine seqVC_stepN rfl ?_ | refine seqVC_stepG rfl (by with_unfolding_all rfl) ?_ | refine AWP.seq ?_ | refine AWP.seqR (by kernel_rfl) ?_ | refine parVC_stepN rfl ?_ | refine parVC_stepG rfl (by with_unfolding_all rfl) ?_ | refine parEVC_stepN rfl ?_ | refine parEVC_stepG rfl (by with_unfolding_all rfl) ?_ | refine genVC_stepN rfl ?_ | refine genVC_stepG rfl (by with_unfolding_all rfl) ?_); intro K hK) | ((first | refine hK _ _ _ ?_ | refine hK _ _ ?_ | refine hK _ ?_); clear hK K) | refine seqVC_nil ?_ | refine parVC_nil ?_ | refine parEVC_nil ?_ | refine genVC_nil ?_ | refine AWP.block ?_ | (refine AWP.cond (by with_unfolding_all rfl) ?_ ?_ <;> intro h <;> (try simp only [zM, zN] at h) <;> try exact absurd h (by decide)) | refine AWP.skip ?_ | refine AWP.ret ?_ | refine AWP.exit ?_ | (refine ⟨fun h => ?_, fun h => ?_⟩ <;> (try simp only [zM, zN] at h) <;> try simp only [h])) | (refine ⟨1000000, _, _, _, next_k 1000000 _ (by repeat (first | with_reducible exact hs | with_reducible refine ok_next ?_ _)) _ (by omega), rfl, ?_⟩) | (refine ⟨1000000, _, _, _, word_k 1000000 _ hs1, rfl, ?_⟩) | (refine ⟨1000000, _, _, _, number_k 1000000 _ hs1, rfl, ?_⟩) | (with_reducible first | (refine AWP.genR (id := 14) [1,4,8,11,13] [1000000, 4] mixed (by kernel_rfl) fun K hK => ?_; simp only [Bx.outs, Bx.drop, cond_true, cond_false, Nat.reduceBEq, go_sem]) | (refine AWP.segP (id := 25) 8 mixed (by kernel_rfl) fun K hK => ?_; simp only [List.take_succ_cons, List.take_zero, List.drop_succ_cons, List.drop_zero]) | (refine AWP.segP (id := 40) 7 mixed (by kernel_rfl) fun K hK => ?_; simp only [List.take_succ_cons, List.take_zero, List.drop_succ_cons, List.drop_zero]) | (refine AWP.segP (id := 47) 11 mixed (by kernel_rfl) fun K hK => ?_; simp only [List.take_succ_cons, List.take_zero, List.drop_succ_cons, List.drop_zero]) | refine AWP.parR mixed (by kernel_rfl) fun K hK => ?_ | refine ⟨(by kernel_rfl : depB _ _ _ = true), ?_⟩ | refine Or.inl ?_) | (clear hK K))
  all_goals (refine ⟨by simp only [madeBase, cond_true, cond_false, decide_true, decide_false, Int.reduceEq, Dt, encDat_eq, atomDat, intDat, funDat, zeroDat]; rfl, fun x hx => ?_⟩)
  all_goals (simp only [List.mem_singleton] at hx; subst hx; simp [madeBase, pin])
end Go.Proofs.YtmpfdejckbceiaaGreat
