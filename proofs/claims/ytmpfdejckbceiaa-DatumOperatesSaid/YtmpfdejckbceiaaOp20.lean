/- A part of the proof: lemmas about the walk of the program and about plain integers and lists. No conditions beyond those that each lemma states. -/
import Derived.Test.YtmpfdejckbceiaaOp19
set_option linter.unusedSimpArgs false
set_option linter.unusedVariables false
set_option maxRecDepth 20000
set_option maxHeartbeats 1000000
namespace Go.Proofs.Ytmpfdejckbceiaa
open Go Go.Sx

structure PutA where
  keys : List KeyD
  kids : List Dat
  placed : Bool
def putStep (k : KeyD) (d : Dat) (a : PutA) (x : KeyD × Dat) : PutA :=
  let b : PutA := bif decide (keyCmp k x.1 ≤ 0) && !a.placed then ⟨a.keys ++ [k], a.kids ++ [d], true⟩ else a
  bif !decide (keyCmp k x.1 = 0) then ⟨b.keys ++ [x.1], b.kids ++ [x.2], b.placed⟩ else b
def putEnd (k : KeyD) (d : Dat) (a : PutA) : PutA := bif !a.placed then ⟨a.keys ++ [k], a.kids ++ [d], true⟩ else a
def mapDat (a : PutA) : Dat := { zeroDat with kind := 8, kids := a.kids, keys := a.keys }
def putBad (m : Dat) (k : KeyD) : Bool := !decide (m.kind = 8) || (!validKeyB k || !decide ((m.keys.length : Int) = (m.kids.length : Int)))
def putR (m : Dat) (k : KeyD) (d : Dat) : Dat × Bool := bif putBad m k then (zeroDat, false) else (mapDat (putEnd k d ((m.keys.zip m.kids).foldl (putStep k d) ⟨[], [], false⟩)), true)

abbrev Kr (n : Nat) (l : List KeyD) : Nat × Res := (n, .row 2 (l.map encKey))
abbrev Dr (n : Nat) (l : List Dat) : Nat × Res := (n, .row 13 (l.map encDat))
/-- a datum under way -/
abbrev outB (kn dn : Nat) (a : PutA) : Res := .cells [.dat (.int .i64 8), .dat (.int .i64 0), .dat (.str []), .own dn a.kids.length, .own kn a.keys.length, .dat (.str []), .dat (.int .i64 0), .dat (.int .i64 0), .dat (.bool false), .dat (.nil 8), .dat (.int .i64 0), .dat (.str []), .dat (.str [])]
abbrev zeroB : Res := .cells [.dat (.int .i64 0), .dat (.int .i64 0), .dat (.str []), .dat (.nil 13), .dat (.nil 2), .dat (.str []), .dat (.int .i64 0), .dat (.int .i64 0), .dat (.bool false), .dat (.nil 8), .dat (.int .i64 0), .dat (.str []), .dat (.str [])]
theorem key_snoc (l : List KeyD) (x : KeyD) : l.map encKey ++ [encKey x] = (l ++ [x]).map encKey := by simp
theorem dat_snoc (l : List Dat) (x : Dat) : l.map encDat ++ [encDat x] = (l ++ [x]).map encDat := by simp

theorem put_c (m : Dat) (k : KeyD) (d : Dat) (hm : m.kids.length ≤ 1000000) : PC Try.prog 27 [Dt m, .st (encKey k), Dt d] (.tup [Dt (putR m k d).1, Bo (putR m k d).2]) := by
  refine PCB.of_body Try.func27 rfl (by decide) Try.ntmps27 Try.results27 rfl rfl rfl ?_ rfl rfl
  refine AWP.ghQ ?_
  cases hbad : putBad m k with
  | true =>
    cases h8 : decide (m.kind = 8) <;> cases hv : validKeyB k <;> cases hl : decide ((m.keys.length : Int) = (m.kids.length : Int))
    all_goals first
      | (exfalso; simp only [putBad, h8, hv, hl, Bool.not_true, Bool.or_false] at hbad; exact Bool.false_ne_true hbad)
      | skip
    repeat' (first
      | ((first | with_reducible refine seqVC_stepN rfl fun K hK => ?_ | with_reducible refine seqVC_stepG rfl (by with_unfolding_all rfl) fun K hK => ?_); (try simp only [go_sem, Nat.reduceBEq, Nat.reduceBNe, Nat.reduceAdd, Nat.reduceSub, Nat.reduceMul, Nat.reduceLeDiff, Nat.reduceLT, reduceCtorEq, Nat.reduceEqDiff, Int.reduceToNat, Int.reduceLE, Int.reduceLT, Int.reduceEq, List.length_map, h8, hv, hl]); all_goals fail_if_success guard_target =ₛ False)
      | with_reducible refine seqVC_nil ?_
      | (with_reducible refine hK _ _ _ ?_; clear hK K)
      | (with_reducible refine hK _ _ ?_; clear hK K)
      | (with_reducible refine hK _ ?_; clear hK K)
      | with_reducible refine AWP.seq fun K hK => ?_
      | (with_reducible refine AWP.seqR (by kernel_rfl) fun K hK => ?_)
      | ((first | with_reducible refine parVC_stepN rfl fun K hK => ?_ | with_reducible refine parVC_stepG rfl (by with_unfolding_all rfl) fun K hK => ?_ | with_reducible refine parEVC_stepN rfl fun K hK => ?_ | with_reducible refine parEVC_stepG rfl (by with_unfolding_all rfl) fun K hK => ?_ | with_reducible refine genVC_stepN rfl fun K hK => ?_ | with_reducible refine genVC_stepG rfl (by with_unfolding_all rfl) fun K hK => ?_); (try simp only [go_sem, Nat.reduceBEq, Nat.reduceBNe, Nat.reduceAdd, Nat.reduceSub, Nat.reduceMul, Nat.reduceLeDiff, Nat.reduceLT, reduceCtorEq, Nat.reduceEqDiff, Int.reduceToNat, Int.reduceLE, Int.reduceLT, Int.reduceEq, List.length_map, h8, hv, hl]); all_goals fail_if_success guard_target =ₛ False)
      | with_reducible refine parVC_nil ?_
      | with_reducible refine parEVC_nil ?_
      | with_reducible refine genVC_nil ?_
      | (with_reducible refine AWP.cond (by with_unfolding_all rfl) (fun h => ?_) (fun h => ?_); all_goals (try simp only [Bool.not_eq_true', Bool.not_eq_false'] at h); (all_goals try first | (exact absurd h Bool.false_ne_true) | (exact absurd h.symm Bool.false_ne_true) | (exact absurd h (by decide))))
      | with_reducible refine AWP.skip ?_
      | with_reducible refine AWP.ret ?_
      | with_reducible refine AWP.block ?_
      | with_reducible refine AWP.exit ?_
      | (with_reducible refine ⟨fun h => ?_, fun h => ?_⟩ <;> (try simp only [Bool.not_eq_true', Bool.not_eq_false'] at h) <;> simp only [h, go_sem, Nat.reduceBEq, Nat.reduceBNe, Nat.reduceAdd, Nat.reduceSub, Nat.reduceMul, Nat.reduceLeDiff, Nat.reduceLT, reduceCtorEq, Nat.reduceEqDiff, Int.reduceToNat, Int.reduceLE, Int.reduceLT, Int.reduceEq, List.length_map, h8, hv, hl])
      | ((first | (with_reducible refine ⟨_, validKey_c k, ?_⟩)); try simp only [go_sem, Nat.reduceBEq, Nat.reduceBNe, Nat.reduceAdd, Nat.reduceSub, Nat.reduceMul, Nat.reduceLeDiff, Nat.reduceLT, reduceCtorEq, Nat.reduceEqDiff, Int.reduceToNat, Int.reduceLE, Int.reduceLT, Int.reduceEq, List.length_map, h8, hv, hl])
      | (with_reducible refine AWP.segP (id := 15) 8 mixed (by kernel_rfl) fun K hK => ?_; simp only [List.take_succ_cons, List.take_zero, List.drop_succ_cons, List.drop_zero])
      | (with_reducible refine AWP.parR mixed (by kernel_rfl) fun K hK => ?_)
      | (with_reducible refine Or.inl ?_)
      | (simp only [go_sem, Nat.reduceBEq, Nat.reduceBNe, Nat.reduceAdd, Nat.reduceSub, Nat.reduceMul, Nat.reduceLeDiff, Nat.reduceLT, reduceCtorEq, Nat.reduceEqDiff, Int.reduceToNat, Int.reduceLE, Int.reduceLT, Int.reduceEq, List.length_map, h8, hv, hl])
      | (clear hK K))
    all_goals (refine ⟨_, Gh.refl _, ?_⟩)
    all_goals simp only [go_sem, Nat.reduceBEq, Nat.reduceBNe, Nat.reduceAdd, Nat.reduceSub, Nat.reduceMul, Nat.reduceLeDiff, Nat.reduceLT, reduceCtorEq, Nat.reduceEqDiff, Int.reduceToNat, Int.reduceLE, Int.reduceLT, Int.reduceEq]
    all_goals (refine fin0 ?_; simp only [putR, hbad, cond_true]; rfl)
  | false =>
    have hR : putR m k d = (mapDat (putEnd k d ((m.keys.zip m.kids).foldl (putStep k d) ⟨[], [], false⟩)), true) := by simp only [putR, hbad, cond_false]
    simp only [putBad, Bool.or_eq_false_iff, Bool.not_eq_false'] at hbad
    obtain ⟨h8, hv, hl⟩ := hbad
    have hlk : m.keys.length = m.kids.length := by simp only [decide_eq_true_eq] at hl; omega
    rw [hR]
    repeat' (first
      | ((first | with_reducible refine seqVC_stepN rfl fun K hK => ?_ | with_reducible refine seqVC_stepG rfl (by with_unfolding_all rfl) fun K hK => ?_); (try simp only [go_sem, Nat.reduceBEq, Nat.reduceBNe, Nat.reduceAdd, Nat.reduceSub, Nat.reduceMul, Nat.reduceLeDiff, Nat.reduceLT, reduceCtorEq, Nat.reduceEqDiff, Int.reduceToNat, Int.reduceLE, Int.reduceLT, Int.reduceEq, List.length_map, h8, hv, hl]); all_goals fail_if_success guard_target =ₛ False)
      | with_reducible refine seqVC_nil ?_
      | (with_reducible refine hK _ _ _ ?_; clear hK K)
      | (with_reducible refine hK _ _ ?_; clear hK K)
      | (with_reducible refine hK _ ?_; clear hK K)
      | with_reducible refine AWP.seq fun K hK => ?_
      | (with_reducible refine AWP.seqR (by kernel_rfl) fun K hK => ?_)
      | ((first | with_reducible refine parVC_stepN rfl fun K hK => ?_ | with_reducible refine parVC_stepG rfl (by with_unfolding_all rfl) fun K hK => ?_ | with_reducible refine parEVC_stepN rfl fun K hK => ?_ | with_reducible refine parEVC_stepG rfl (by with_unfolding_all rfl) fun K hK => ?_ | with_reducible refine genVC_stepN rfl fun K hK => ?_ | with_reducible refine genVC_stepG rfl (by with_unfolding_all rfl) fun K hK => ?_); (try simp only [go_sem, Nat.reduceBEq, Nat.reduceBNe, Nat.reduceAdd, Nat.reduceSub, Nat.reduceMul, Nat.reduceLeDiff, Nat.reduceLT, reduceCtorEq, Nat.reduceEqDiff, Int.reduceToNat, Int.reduceLE, Int.reduceLT, Int.reduceEq, List.length_map, h8, hv, hl]); all_goals fail_if_success guard_target =ₛ False)
      | with_reducible refine parVC_nil ?_
      | with_reducible refine parEVC_nil ?_
      | with_reducible refine genVC_nil ?_
      | (with_reducible refine AWP.cond (by with_unfolding_all rfl) (fun h => ?_) (fun h => ?_); all_goals (try simp only [Bool.not_eq_true', Bool.not_eq_false'] at h); (all_goals try first | (exact absurd h Bool.false_ne_true) | (exact absurd h.symm Bool.false_ne_true) | (exact absurd h (by decide))))
      | with_reducible refine AWP.skip ?_
      | with_reducible refine AWP.ret ?_
      | with_reducible refine AWP.block ?_
      | with_reducible refine AWP.exit ?_
      | (with_reducible refine ⟨fun h => ?_, fun h => ?_⟩ <;> (try simp only [Bool.not_eq_true', Bool.not_eq_false'] at h) <;> simp only [h, go_sem, Nat.reduceBEq, Nat.reduceBNe, Nat.reduceAdd, Nat.reduceSub, Nat.reduceMul, Nat.reduceLeDiff, Nat.reduceLT, reduceCtorEq, Nat.reduceEqDiff, Int.reduceToNat, Int.reduceLE, Int.reduceLT, Int.reduceEq, List.length_map, h8, hv, hl])
      | ((first | (with_reducible refine ⟨_, validKey_c k, ?_⟩)); try simp only [go_sem, Nat.reduceBEq, Nat.reduceBNe, Nat.reduceAdd, Nat.reduceSub, Nat.reduceMul, Nat.reduceLeDiff, Nat.reduceLT, reduceCtorEq, Nat.reduceEqDiff, Int.reduceToNat, Int.reduceLE, Int.reduceLT, Int.reduceEq, List.length_map, h8, hv, hl])
      | (with_reducible refine AWP.segP (id := 15) 8 mixed (by kernel_rfl) fun K hK => ?_; simp only [List.take_succ_cons, List.take_zero, List.drop_succ_cons, List.drop_zero])
      | (with_reducible refine AWP.parR mixed (by kernel_rfl) fun K hK => ?_)
      | (with_reducible refine Or.inl ?_)
      | (simp only [go_sem, Nat.reduceBEq, Nat.reduceBNe, Nat.reduceAdd, Nat.reduceSub, Nat.reduceMul, Nat.reduceLeDiff, Nat.reduceLT, reduceCtorEq, Nat.reduceEqDiff, Int.reduceToNat, Int.reduceLE, Int.reduceLT, Int.reduceEq, List.length_map, h8, hv, hl])
      | (clear hK K))
    refine AWP.gh (Gh.nilcell 8 4 900 rfl rfl rfl (by simp only [go_sem, Nat.reduceBEq, Nat.reduceBNe, Nat.reduceAdd, Nat.reduceSub, Nat.reduceMul, Nat.reduceLeDiff, Nat.reduceLT, reduceCtorEq, Nat.reduceEqDiff, Int.reduceToNat, Int.reduceLE, Int.reduceLT, Int.reduceEq]) (by simp only [go_sem, Nat.reduceBEq, Nat.reduceBNe, Nat.reduceAdd, Nat.reduceSub, Nat.reduceMul, Nat.reduceLeDiff, Nat.reduceLT, reduceCtorEq, Nat.reduceEqDiff, Int.reduceToNat, Int.reduceLE, Int.reduceLT, Int.reduceEq])) ?_
    refine AWP.gh (Gh.nilcell 8 3 901 rfl rfl rfl (by simp only [go_sem, Nat.reduceBEq, Nat.reduceBNe, Nat.reduceAdd, Nat.reduceSub, Nat.reduceMul, Nat.reduceLeDiff, Nat.reduceLT, reduceCtorEq, Nat.reduceEqDiff, Int.reduceToNat, Int.reduceLE, Int.reduceLT, Int.reduceEq]) (by simp only [go_sem, Nat.reduceBEq, Nat.reduceBNe, Nat.reduceAdd, Nat.reduceSub, Nat.reduceMul, Nat.reduceLeDiff, Nat.reduceLT, reduceCtorEq, Nat.reduceEqDiff, Int.reduceToNat, Int.reduceLE, Int.reduceLT, Int.reduceEq])) ?_
    refine AWP.loopS (X := Nat × PutA) (fun x => [(35, I .i64 x.1), (34, I .i64 m.keys.length), (33, .one (.dat (.sl 2 (m.keys.map encKey)))), (9, Bo x.2.placed), (3, Sp 3), (4, Sp 4), (5, Sp 5), (6, Sp 6), (8, Sp 8)])
      (fun x => [(3, .cells ((encDat m).map .dat)), (4, .cells ((encKey k).map .dat)), (5, .cells ((encDat d).map .dat)), (6, zeroB), (8, outB 900 901 x.2), Kr 900 x.2.keys, Dr 901 x.2.kids])
      (fun x => x.1 ≤ m.keys.length ∧ (m.keys.zip m.kids).foldl (putStep k d) ⟨[], [], false⟩ = ((m.keys.zip m.kids).drop x.1).foldl (putStep k d) x.2 ∧ x.2.keys.length ≤ 2 * x.1 ∧ x.2.kids.length ≤ 2 * x.1) (fun x => m.keys.length - x.1) (0, ⟨[], [], false⟩) ?_ ⟨Nat.zero_le _, rfl, by simp, by simp⟩ ?_
    · exact Gh.to [] (by repeat (first | exact trivial | refine ⟨rfl, ?_⟩ | refine ⟨by (simp only [go_sem, Nat.reduceBEq, Nat.reduceBNe, Nat.reduceAdd, Nat.reduceSub, Nat.reduceMul, Nat.reduceLeDiff, Nat.reduceLT, reduceCtorEq, Nat.reduceEqDiff, Int.reduceToNat, Int.reduceLE, Int.reduceLT, Int.reduceEq]) <;> rfl, ?_⟩)) (by repeat (first | exact trivial | refine ⟨rfl, ?_⟩ | refine ⟨by (simp only [go_sem, Nat.reduceBEq, Nat.reduceBNe, Nat.reduceAdd, Nat.reduceSub, Nat.reduceMul, Nat.reduceLeDiff, Nat.reduceLT, reduceCtorEq, Nat.reduceEqDiff, Int.reduceToNat, Int.reduceLE, Int.reduceLT, Int.reduceEq]) <;> rfl, ?_⟩)) rfl rfl rfl
    rintro ⟨i, a⟩ ⟨hi, hp, hk1, hk2⟩
    simp only at hi hp hk1 hk2
    by_cases hlt : i < m.keys.length
    · obtain ⟨kx, hkx, hkx', hb, _⟩ := at_lt (enc := encKey) hlt
      obtain ⟨dx, hdx, hdx', _, _⟩ := at_lt (enc := encDat) (show i < m.kids.length by omega)
      have hz : (m.keys.zip m.kids).drop i = (kx, dx) :: (m.keys.zip m.kids).drop (i + 1) := by
        have hlz : i < (m.keys.zip m.kids).length := by simp; omega
        rw [List.drop_eq_getElem_cons hlz]
        congr 1
        have e1 := List.getElem?_eq_getElem hlt
        have e2 := List.getElem?_eq_getElem (show i < m.kids.length by omega)
        rw [hkx] at e1
        rw [hdx] at e2
        simp only [List.getElem_zip]
        rw [← Option.some.inj e1, ← Option.some.inj e2]
      rw [hz, List.foldl_cons] at hp
      obtain ⟨ak, ad, ap⟩ := a
      simp only at hk1 hk2
      cases hc0 : decide (keyCmp k kx ≤ 0) <;> cases hc1 : decide (keyCmp k kx = 0) <;> cases ap
      all_goals (simp only [putStep, hc0, hc1, Bool.not_true, Bool.not_false, Bool.and_true, Bool.and_false, Bool.true_and, Bool.false_and, cond_true, cond_false] at hp)
      repeat' (first
        | ((first | with_reducible refine seqVC_stepN rfl fun K hK => ?_ | with_reducible refine seqVC_stepG rfl (by with_unfolding_all rfl) fun K hK => ?_); (try simp only [go_sem, Nat.reduceBEq, Nat.reduceBNe, Nat.reduceAdd, Nat.reduceSub, Nat.reduceMul, Nat.reduceLeDiff, Nat.reduceLT, reduceCtorEq, Nat.reduceEqDiff, Int.reduceToNat, Int.reduceLE, Int.reduceLT, Int.reduceEq, List.length_map, hb, hc0, hc1, key_snoc, dat_snoc]); all_goals fail_if_success guard_target =ₛ False)
        | with_reducible refine seqVC_nil ?_
        | (with_reducible refine hK _ _ _ ?_; clear hK K)
        | (with_reducible refine hK _ _ ?_; clear hK K)
        | (with_reducible refine hK _ ?_; clear hK K)
        | with_reducible refine AWP.seq fun K hK => ?_
        | (with_reducible refine AWP.seqR (by kernel_rfl) fun K hK => ?_)
        | ((first | with_reducible refine parVC_stepN rfl fun K hK => ?_ | with_reducible refine parVC_stepG rfl (by with_unfolding_all rfl) fun K hK => ?_ | with_reducible refine parEVC_stepN rfl fun K hK => ?_ | with_reducible refine parEVC_stepG rfl (by with_unfolding_all rfl) fun K hK => ?_ | with_reducible refine genVC_stepN rfl fun K hK => ?_ | with_reducible refine genVC_stepG rfl (by with_unfolding_all rfl) fun K hK => ?_); (try simp only [go_sem, Nat.reduceBEq, Nat.reduceBNe, Nat.reduceAdd, Nat.reduceSub, Nat.reduceMul, Nat.reduceLeDiff, Nat.reduceLT, reduceCtorEq, Nat.reduceEqDiff, Int.reduceToNat, Int.reduceLE, Int.reduceLT, Int.reduceEq, List.length_map, hb, hc0, hc1, key_snoc, dat_snoc]); all_goals fail_if_success guard_target =ₛ False)
        | with_reducible refine parVC_nil ?_
        | with_reducible refine parEVC_nil ?_
        | with_reducible refine genVC_nil ?_
        | (with_reducible refine AWP.cond (by with_unfolding_all rfl) (fun h => ?_) (fun h => ?_); all_goals (try simp only [Bool.not_eq_true', Bool.not_eq_false'] at h); (all_goals try first | (exact absurd h Bool.false_ne_true) | (exact absurd h.symm Bool.false_ne_true) | (exact absurd h (by decide))))
        | with_reducible refine AWP.skip ?_
        | with_reducible refine AWP.ret ?_
        | with_reducible refine AWP.block ?_
        | with_reducible refine AWP.exit ?_
        | (with_reducible refine ⟨fun h => ?_, fun h => ?_⟩ <;> (try simp only [Bool.not_eq_true', Bool.not_eq_false'] at h) <;> simp only [h, go_sem, Nat.reduceBEq, Nat.reduceBNe, Nat.reduceAdd, Nat.reduceSub, Nat.reduceMul, Nat.reduceLeDiff, Nat.reduceLT, reduceCtorEq, Nat.reduceEqDiff, Int.reduceToNat, Int.reduceLE, Int.reduceLT, Int.reduceEq, List.length_map, hb, hc0, hc1, key_snoc, dat_snoc])
        | ((first | (with_reducible refine ⟨_, compareKeys_c k kx, ?_⟩)); try simp only [go_sem, Nat.reduceBEq, Nat.reduceBNe, Nat.reduceAdd, Nat.reduceSub, Nat.reduceMul, Nat.reduceLeDiff, Nat.reduceLT, reduceCtorEq, Nat.reduceEqDiff, Int.reduceToNat, Int.reduceLE, Int.reduceLT, Int.reduceEq, List.length_map, hb, hc0, hc1, key_snoc, dat_snoc])
        | (with_reducible refine ⟨by omega, encKey kx, hkx', ?_⟩)
        | (with_reducible refine ⟨by omega, encDat dx, hdx', ?_⟩)
        | (with_reducible refine ⟨by omega, ?_⟩)
        | (with_reducible refine ⟨by simp only [List.length_append, List.length_cons, List.length_nil]; omega, ?_⟩)
        | (with_reducible refine AWP.segP (id := 15) 8 mixed (by kernel_rfl) fun K hK => ?_; simp only [List.take_succ_cons, List.take_zero, List.drop_succ_cons, List.drop_zero])
        | (with_reducible refine AWP.parR mixed (by kernel_rfl) fun K hK => ?_)
        | (with_reducible refine Or.inl ?_)
        | (simp only [go_sem, Nat.reduceBEq, Nat.reduceBNe, Nat.reduceAdd, Nat.reduceSub, Nat.reduceMul, Nat.reduceLeDiff, Nat.reduceLT, reduceCtorEq, Nat.reduceEqDiff, Int.reduceToNat, Int.reduceLE, Int.reduceLT, Int.reduceEq, List.length_map, hb, hc0, hc1, key_snoc, dat_snoc])
        | (clear hK K))
      all_goals (rw [wrap_succ hlt (by omega)])
      all_goals first
        | refine ⟨(i + 1, ⟨ak, ad, _⟩), by simp only; omega, ⟨by simp only; omega, hp, by simp only; omega, by simp only; omega⟩, Gh.to [] (by repeat (first | exact trivial | refine ⟨rfl, ?_⟩ | refine ⟨by (simp only [go_sem, Nat.reduceBEq, Nat.reduceBNe, Nat.reduceAdd, Nat.reduceSub, Nat.reduceMul, Nat.reduceLeDiff, Nat.reduceLT, reduceCtorEq, Nat.reduceEqDiff, Int.reduceToNat, Int.reduceLE, Int.reduceLT, Int.reduceEq]) <;> rfl, ?_⟩)) (by repeat (first | exact trivial | refine ⟨rfl, ?_⟩ | refine ⟨by (simp only [go_sem, Nat.reduceBEq, Nat.reduceBNe, Nat.reduceAdd, Nat.reduceSub, Nat.reduceMul, Nat.reduceLeDiff, Nat.reduceLT, reduceCtorEq, Nat.reduceEqDiff, Int.reduceToNat, Int.reduceLE, Int.reduceLT, Int.reduceEq]) <;> rfl, ?_⟩)) rfl rfl rfl⟩
        | refine ⟨(i + 1, ⟨ak ++ [k], ad ++ [d], _⟩), by simp only; omega, ⟨by simp only; omega, hp, by simp; omega, by simp; omega⟩, Gh.to [(900, 53), (901, 59)] (by repeat (first | exact trivial | refine ⟨rfl, ?_⟩ | refine ⟨by (simp only [go_sem, Nat.reduceBEq, Nat.reduceBNe, Nat.reduceAdd, Nat.reduceSub, Nat.reduceMul, Nat.reduceLeDiff, Nat.reduceLT, reduceCtorEq, Nat.reduceEqDiff, Int.reduceToNat, Int.reduceLE, Int.reduceLT, Int.reduceEq]) <;> rfl, ?_⟩)) (by repeat (first | exact trivial | refine ⟨rfl, ?_⟩ | refine ⟨by (simp only [go_sem, Nat.reduceBEq, Nat.reduceBNe, Nat.reduceAdd, Nat.reduceSub, Nat.reduceMul, Nat.reduceLeDiff, Nat.reduceLT, reduceCtorEq, Nat.reduceEqDiff, Int.reduceToNat, Int.reduceLE, Int.reduceLT, Int.reduceEq]) <;> rfl, ?_⟩)) rfl rfl rfl⟩
        | refine ⟨(i + 1, ⟨ak ++ [kx], ad ++ [dx], _⟩), by simp only; omega, ⟨by simp only; omega, hp, by simp; omega, by simp; omega⟩, Gh.to [(900, 67), (901, 77)] (by repeat (first | exact trivial | refine ⟨rfl, ?_⟩ | refine ⟨by (simp only [go_sem, Nat.reduceBEq, Nat.reduceBNe, Nat.reduceAdd, Nat.reduceSub, Nat.reduceMul, Nat.reduceLeDiff, Nat.reduceLT, reduceCtorEq, Nat.reduceEqDiff, Int.reduceToNat, Int.reduceLE, Int.reduceLT, Int.reduceEq]) <;> rfl, ?_⟩)) (by repeat (first | exact trivial | refine ⟨rfl, ?_⟩ | refine ⟨by (simp only [go_sem, Nat.reduceBEq, Nat.reduceBNe, Nat.reduceAdd, Nat.reduceSub, Nat.reduceMul, Nat.reduceLeDiff, Nat.reduceLT, reduceCtorEq, Nat.reduceEqDiff, Int.reduceToNat, Int.reduceLE, Int.reduceLT, Int.reduceEq]) <;> rfl, ?_⟩)) rfl rfl rfl⟩
        | refine ⟨(i + 1, ⟨ak ++ [k] ++ [kx], ad ++ [d] ++ [dx], _⟩), by simp only; omega, ⟨by simp only; omega, hp, by simp; omega, by simp; omega⟩, Gh.to [(900, 67), (901, 77)] (by repeat (first | exact trivial | refine ⟨rfl, ?_⟩ | refine ⟨by (simp only [go_sem, Nat.reduceBEq, Nat.reduceBNe, Nat.reduceAdd, Nat.reduceSub, Nat.reduceMul, Nat.reduceLeDiff, Nat.reduceLT, reduceCtorEq, Nat.reduceEqDiff, Int.reduceToNat, Int.reduceLE, Int.reduceLT, Int.reduceEq]) <;> rfl, ?_⟩)) (by repeat (first | exact trivial | refine ⟨rfl, ?_⟩ | refine ⟨by (simp only [go_sem, Nat.reduceBEq, Nat.reduceBNe, Nat.reduceAdd, Nat.reduceSub, Nat.reduceMul, Nat.reduceLeDiff, Nat.reduceLT, reduceCtorEq, Nat.reduceEqDiff, Int.reduceToNat, Int.reduceLE, Int.reduceLT, Int.reduceEq]) <;> rfl, ?_⟩)) rfl rfl rfl⟩
    · have hb : decide ((i : Int) < (m.keys.length : Int)) = false := by simpa using hlt
      rw [show (m.keys.zip m.kids).drop i = [] from List.drop_eq_nil_of_le (by simp; omega), List.foldl_nil] at hp
      rw [hp]
      obtain ⟨ak, ad, ap⟩ := a
      simp only at hk1 hk2
      cases ap
      ·
        repeat' (first
          | ((first | with_reducible refine seqVC_stepN rfl fun K hK => ?_ | with_reducible refine seqVC_stepG rfl (by with_unfolding_all rfl) fun K hK => ?_); (try simp only [go_sem, Nat.reduceBEq, Nat.reduceBNe, Nat.reduceAdd, Nat.reduceSub, Nat.reduceMul, Nat.reduceLeDiff, Nat.reduceLT, reduceCtorEq, Nat.reduceEqDiff, Int.reduceToNat, Int.reduceLE, Int.reduceLT, Int.reduceEq, List.length_map, hb, key_snoc, dat_snoc]); all_goals fail_if_success guard_target =ₛ False)
          | with_reducible refine seqVC_nil ?_
          | (with_reducible refine hK _ _ _ ?_; clear hK K)
          | (with_reducible refine hK _ _ ?_; clear hK K)
          | (with_reducible refine hK _ ?_; clear hK K)
          | with_reducible refine AWP.seq fun K hK => ?_
          | (with_reducible refine AWP.seqR (by kernel_rfl) fun K hK => ?_)
          | ((first | with_reducible refine parVC_stepN rfl fun K hK => ?_ | with_reducible refine parVC_stepG rfl (by with_unfolding_all rfl) fun K hK => ?_ | with_reducible refine parEVC_stepN rfl fun K hK => ?_ | with_reducible refine parEVC_stepG rfl (by with_unfolding_all rfl) fun K hK => ?_ | with_reducible refine genVC_stepN rfl fun K hK => ?_ | with_reducible refine genVC_stepG rfl (by with_unfolding_all rfl) fun K hK => ?_); (try simp only [go_sem, Nat.reduceBEq, Nat.reduceBNe, Nat.reduceAdd, Nat.reduceSub, Nat.reduceMul, Nat.reduceLeDiff, Nat.reduceLT, reduceCtorEq, Nat.reduceEqDiff, Int.reduceToNat, Int.reduceLE, Int.reduceLT, Int.reduceEq, List.length_map, hb, key_snoc, dat_snoc]); all_goals fail_if_success guard_target =ₛ False)
          | with_reducible refine parVC_nil ?_
          | with_reducible refine parEVC_nil ?_
          | with_reducible refine genVC_nil ?_
          | (with_reducible refine AWP.cond (by with_unfolding_all rfl) (fun h => ?_) (fun h => ?_); all_goals (try simp only [Bool.not_eq_true', Bool.not_eq_false'] at h); (all_goals try first | (exact absurd h Bool.false_ne_true) | (exact absurd h.symm Bool.false_ne_true) | (exact absurd h (by decide))))
          | with_reducible refine AWP.skip ?_
          | with_reducible refine AWP.ret ?_
          | with_reducible refine AWP.block ?_
          | with_reducible refine AWP.exit ?_
          | (with_reducible refine ⟨fun h => ?_, fun h => ?_⟩ <;> (try simp only [Bool.not_eq_true', Bool.not_eq_false'] at h) <;> simp only [h, go_sem, Nat.reduceBEq, Nat.reduceBNe, Nat.reduceAdd, Nat.reduceSub, Nat.reduceMul, Nat.reduceLeDiff, Nat.reduceLT, reduceCtorEq, Nat.reduceEqDiff, Int.reduceToNat, Int.reduceLE, Int.reduceLT, Int.reduceEq, List.length_map, hb, key_snoc, dat_snoc])
          | (with_reducible refine ⟨by omega, ?_⟩)
          | (with_reducible refine AWP.segP (id := 15) 8 mixed (by kernel_rfl) fun K hK => ?_; simp only [List.take_succ_cons, List.take_zero, List.drop_succ_cons, List.drop_zero])
          | (with_reducible refine AWP.parR mixed (by kernel_rfl) fun K hK => ?_)
          | (with_reducible refine Or.inl ?_)
          | (simp only [go_sem, Nat.reduceBEq, Nat.reduceBNe, Nat.reduceAdd, Nat.reduceSub, Nat.reduceMul, Nat.reduceLeDiff, Nat.reduceLT, reduceCtorEq, Nat.reduceEqDiff, Int.reduceToNat, Int.reduceLE, Int.reduceLT, Int.reduceEq, List.length_map, hb, key_snoc, dat_snoc])
          | (clear hK K))
        refine GhQ.step (Gh.freeze 86 rfl rfl (by simp only [go_sem, Nat.reduceBEq, Nat.reduceBNe, Nat.reduceAdd, Nat.reduceSub, Nat.reduceMul, Nat.reduceLeDiff, Nat.reduceLT, reduceCtorEq, Nat.reduceEqDiff, Int.reduceToNat, Int.reduceLE, Int.reduceLT, Int.reduceEq, List.length_map]) (by simp only [go_sem, Nat.reduceBEq, Nat.reduceBNe, Nat.reduceAdd, Nat.reduceSub, Nat.reduceMul, Nat.reduceLeDiff, Nat.reduceLT, reduceCtorEq, Nat.reduceEqDiff, Int.reduceToNat, Int.reduceLE, Int.reduceLT, Int.reduceEq, List.length_map])) ?_
        simp only [go_sem, Nat.reduceBEq, Nat.reduceBNe, Nat.reduceAdd, Nat.reduceSub, Nat.reduceMul, Nat.reduceLeDiff, Nat.reduceLT, reduceCtorEq, Nat.reduceEqDiff, Int.reduceToNat, Int.reduceLE, Int.reduceLT, Int.reduceEq, List.length_map]
        refine ⟨_, Gh.freeze 92 rfl rfl (by simp only [go_sem, Nat.reduceBEq, Nat.reduceBNe, Nat.reduceAdd, Nat.reduceSub, Nat.reduceMul, Nat.reduceLeDiff, Nat.reduceLT, reduceCtorEq, Nat.reduceEqDiff, Int.reduceToNat, Int.reduceLE, Int.reduceLT, Int.reduceEq, List.length_map]) (by simp only [go_sem, Nat.reduceBEq, Nat.reduceBNe, Nat.reduceAdd, Nat.reduceSub, Nat.reduceMul, Nat.reduceLeDiff, Nat.reduceLT, reduceCtorEq, Nat.reduceEqDiff, Int.reduceToNat, Int.reduceLE, Int.reduceLT, Int.reduceEq, List.length_map]), ?_⟩
        simp only [go_sem, Nat.reduceBEq, Nat.reduceBNe, Nat.reduceAdd, Nat.reduceSub, Nat.reduceMul, Nat.reduceLeDiff, Nat.reduceLT, reduceCtorEq, Nat.reduceEqDiff, Int.reduceToNat, Int.reduceLE, Int.reduceLT, Int.reduceEq, List.length_map]
        all_goals (first | exact fun _ h => (by cases h) | refine fin0 ?_)
        all_goals (simp only [hp, putEnd, Bool.not_false, cond_true, mapDat, Dt, encDat_eq, zeroDat]; rfl)
      ·
        repeat' (first
          | ((first | with_reducible refine seqVC_stepN rfl fun K hK => ?_ | with_reducible refine seqVC_stepG rfl (by with_unfolding_all rfl) fun K hK => ?_); (try simp only [go_sem, Nat.reduceBEq, Nat.reduceBNe, Nat.reduceAdd, Nat.reduceSub, Nat.reduceMul, Nat.reduceLeDiff, Nat.reduceLT, reduceCtorEq, Nat.reduceEqDiff, Int.reduceToNat, Int.reduceLE, Int.reduceLT, Int.reduceEq, List.length_map, hb, key_snoc, dat_snoc]); all_goals fail_if_success guard_target =ₛ False)
          | with_reducible refine seqVC_nil ?_
          | (with_reducible refine hK _ _ _ ?_; clear hK K)
          | (with_reducible refine hK _ _ ?_; clear hK K)
          | (with_reducible refine hK _ ?_; clear hK K)
          | with_reducible refine AWP.seq fun K hK => ?_
          | (with_reducible refine AWP.seqR (by kernel_rfl) fun K hK => ?_)
          | ((first | with_reducible refine parVC_stepN rfl fun K hK => ?_ | with_reducible refine parVC_stepG rfl (by with_unfolding_all rfl) fun K hK => ?_ | with_reducible refine parEVC_stepN rfl fun K hK => ?_ | with_reducible refine parEVC_stepG rfl (by with_unfolding_all rfl) fun K hK => ?_ | with_reducible refine genVC_stepN rfl fun K hK => ?_ | with_reducible refine genVC_stepG rfl (by with_unfolding_all rfl) fun K hK => ?_); (try simp only [go_sem, Nat.reduceBEq, Nat.reduceBNe, Nat.reduceAdd, Nat.reduceSub, Nat.reduceMul, Nat.reduceLeDiff, Nat.reduceLT, reduceCtorEq, Nat.reduceEqDiff, Int.reduceToNat, Int.reduceLE, Int.reduceLT, Int.reduceEq, List.length_map, hb, key_snoc, dat_snoc]); all_goals fail_if_success guard_target =ₛ False)
          | with_reducible refine parVC_nil ?_
          | with_reducible refine parEVC_nil ?_
          | with_reducible refine genVC_nil ?_
          | (with_reducible refine AWP.cond (by with_unfolding_all rfl) (fun h => ?_) (fun h => ?_); all_goals (try simp only [Bool.not_eq_true', Bool.not_eq_false'] at h); (all_goals try first | (exact absurd h Bool.false_ne_true) | (exact absurd h.symm Bool.false_ne_true) | (exact absurd h (by decide))))
          | with_reducible refine AWP.skip ?_
          | with_reducible refine AWP.ret ?_
          | with_reducible refine AWP.block ?_
          | with_reducible refine AWP.exit ?_
          | (with_reducible refine ⟨fun h => ?_, fun h => ?_⟩ <;> (try simp only [Bool.not_eq_true', Bool.not_eq_false'] at h) <;> simp only [h, go_sem, Nat.reduceBEq, Nat.reduceBNe, Nat.reduceAdd, Nat.reduceSub, Nat.reduceMul, Nat.reduceLeDiff, Nat.reduceLT, reduceCtorEq, Nat.reduceEqDiff, Int.reduceToNat, Int.reduceLE, Int.reduceLT, Int.reduceEq, List.length_map, hb, key_snoc, dat_snoc])
          | (with_reducible refine ⟨by omega, ?_⟩)
          | (with_reducible refine AWP.segP (id := 15) 8 mixed (by kernel_rfl) fun K hK => ?_; simp only [List.take_succ_cons, List.take_zero, List.drop_succ_cons, List.drop_zero])
          | (with_reducible refine AWP.parR mixed (by kernel_rfl) fun K hK => ?_)
          | (with_reducible refine Or.inl ?_)
          | (simp only [go_sem, Nat.reduceBEq, Nat.reduceBNe, Nat.reduceAdd, Nat.reduceSub, Nat.reduceMul, Nat.reduceLeDiff, Nat.reduceLT, reduceCtorEq, Nat.reduceEqDiff, Int.reduceToNat, Int.reduceLE, Int.reduceLT, Int.reduceEq, List.length_map, hb, key_snoc, dat_snoc])
          | (clear hK K))
        refine GhQ.step (Gh.freeze 900 rfl rfl (by simp only [go_sem, Nat.reduceBEq, Nat.reduceBNe, Nat.reduceAdd, Nat.reduceSub, Nat.reduceMul, Nat.reduceLeDiff, Nat.reduceLT, reduceCtorEq, Nat.reduceEqDiff, Int.reduceToNat, Int.reduceLE, Int.reduceLT, Int.reduceEq, List.length_map]) (by simp only [go_sem, Nat.reduceBEq, Nat.reduceBNe, Nat.reduceAdd, Nat.reduceSub, Nat.reduceMul, Nat.reduceLeDiff, Nat.reduceLT, reduceCtorEq, Nat.reduceEqDiff, Int.reduceToNat, Int.reduceLE, Int.reduceLT, Int.reduceEq, List.length_map])) ?_
        simp only [go_sem, Nat.reduceBEq, Nat.reduceBNe, Nat.reduceAdd, Nat.reduceSub, Nat.reduceMul, Nat.reduceLeDiff, Nat.reduceLT, reduceCtorEq, Nat.reduceEqDiff, Int.reduceToNat, Int.reduceLE, Int.reduceLT, Int.reduceEq, List.length_map]
        refine ⟨_, Gh.freeze 901 rfl rfl (by simp only [go_sem, Nat.reduceBEq, Nat.reduceBNe, Nat.reduceAdd, Nat.reduceSub, Nat.reduceMul, Nat.reduceLeDiff, Nat.reduceLT, reduceCtorEq, Nat.reduceEqDiff, Int.reduceToNat, Int.reduceLE, Int.reduceLT, Int.reduceEq, List.length_map]) (by simp only [go_sem, Nat.reduceBEq, Nat.reduceBNe, Nat.reduceAdd, Nat.reduceSub, Nat.reduceMul, Nat.reduceLeDiff, Nat.reduceLT, reduceCtorEq, Nat.reduceEqDiff, Int.reduceToNat, Int.reduceLE, Int.reduceLT, Int.reduceEq, List.length_map]), ?_⟩
        simp only [go_sem, Nat.reduceBEq, Nat.reduceBNe, Nat.reduceAdd, Nat.reduceSub, Nat.reduceMul, Nat.reduceLeDiff, Nat.reduceLT, reduceCtorEq, Nat.reduceEqDiff, Int.reduceToNat, Int.reduceLE, Int.reduceLT, Int.reduceEq, List.length_map]
        all_goals (first | exact fun _ h => (by cases h) | refine fin0 ?_)
        all_goals (simp only [hp, putEnd, Bool.not_true, cond_false, mapDat, Dt, encDat_eq, zeroDat]; rfl)
end Go.Proofs.Ytmpfdejckbceiaa
set_option linter.unusedSimpArgs false
set_option linter.unusedVariables false
set_option maxRecDepth 20000
set_option maxHeartbeats 1000000
namespace Go.Proofs.Ytmpfdejckbceiaa
open Go Go.Sx

def atoms4 : List (List UInt8) := [[116, 114, 117, 101], [102, 97, 108, 115, 101], [97], [111, 107]]
def mods2 : List (List UInt8) := [[109], [110]]
def funDat (s : Src) : Dat := { zeroDat with kind := 9, num := nextV s 3, mod := mods2.getD (nextV (nextS s 3) 2).toNat [], version := 1 + nextV (nextS (nextS s 3) 2) 2, routine := nextV (nextS (nextS (nextS s 3) 2) 2) 2 }
def madeBase (k : Int) (s : Src) : Dat × Src :=
  bif decide (k = 1) then (atomDat (atoms4.getD (nextV s 4).toNat []), nextS s 4) else
  bif decide (k = 2) then ({ zeroDat with kind := 2, text := wordV s }, nextS s 4) else
  bif decide (k = 3) then ({ zeroDat with kind := 4, num := nextV s 4 }, nextS s 4) else
  bif decide (k = 4) then ({ zeroDat with kind := 5 }, s) else
  bif decide (k = 5) then (funDat s, nextS (nextS (nextS (nextS s 3) 2) 2) 2) else
  bif decide (k = 6) then (intDat (numV s), nextS s 10) else
  (intDat (nextV s 5 - 1), nextS s 5)

def made0 (s : Src) : Dat × Src := madeBase (bif decide (6 < nextV s 12) then 0 else nextV s 12) (nextS s 12)
def node14 (n : Nat) : NodeD := ⟨14, 0, 0, [], List.replicate n 1, [], 0, 0⟩
def node2 : NodeD := ⟨2, 0, 0, [], [], [], 0, 0⟩
def wrapD (f : Dat) : Dat := { zeroDat with kind := 9, num := f.num, kids := [f], wrapped := true, nodes := [node14 (f.num + 1).toNat, node2], inner := [109], outer := [110] }
def consDat (a b : Dat) : Dat := { zeroDat with kind := 7, kids := [a, b] }
def madeN (f : Src → Dat × Src) : Nat → Src → List Dat → List Dat × Src
  | 0, s, acc => (acc, s)
  | n + 1, s, acc => madeN f n (f s).2 (acc ++ [(f s).1])
def listN (f : Src → Dat × Src) : Nat → Src → Dat → Dat × Src
  | 0, s, t => (t, s)
  | n + 1, s, t => listN f n (f s).2 (consDat (f s).1 t)
def mapN (f : Src → Dat × Src) : Nat → Src → Dat → Dat × Src
  | 0, s, m => (m, s)
  | n + 1, s, m => mapN f n (f (keyV s).2).2 (putR m (keyV s).1 (f (keyV s).2).1).1
def made : Nat → Src → Dat × Src
  | 0, s => made0 s
  | d + 1, s =>
    bif decide (nextV s 12 ≤ 6) then madeBase (nextV s 12) (nextS s 12) else
    bif decide (nextV s 12 = 7) then (bif decide ((made0 (nextS s 12)).1.kind = 9) then (wrapD (made0 (nextS s 12)).1, (made0 (nextS s 12)).2) else made0 (nextS s 12)) else
    bif decide (nextV s 12 ≤ 9) then
      ({ zeroDat with kind := 6, kids := (madeN (made d) (nextV (nextS s 12) 4).toNat (nextS (nextS s 12) 4) []).1 }, (madeN (made d) (nextV (nextS s 12) 4).toNat (nextS (nextS s 12) 4) []).2) else
    bif decide (nextV s 12 = 10) then listN (made d) (1 + nextV (nextS s 12) 2).toNat (nextS (nextS s 12) 2) { zeroDat with kind := 5 } else
    mapN (made d) (nextV (nextS s 12) 3).toNat (nextS (nextS s 12) 3) { zeroDat with kind := 8 }

theorem ok_base {k : Int} {s : Src} (h : s.ok) : (madeBase k s).2.ok := by
  unfold madeBase
  cases decide (k = 1) <;> cases decide (k = 2) <;> cases decide (k = 3) <;> cases decide (k = 4) <;> cases decide (k = 5) <;> cases decide (k = 6) <;>
    first | exact ok_next h _ | exact h | exact ok_next (ok_next (ok_next (ok_next h 3) 2) 2) 2
theorem ok_made0 {s : Src} (h : s.ok) : (made0 s).2.ok := ok_base (ok_next h 12)
theorem ok_madeN {f : Src → Dat × Src} (hf : ∀ s : Src, s.ok → (f s).2.ok) : ∀ (n : Nat) (s : Src) (acc : List Dat), s.ok → (madeN f n s acc).2.ok
  | 0, s, acc, h => h
  | n + 1, s, acc, h => ok_madeN hf n _ _ (hf s h)
theorem ok_listN {f : Src → Dat × Src} (hf : ∀ s : Src, s.ok → (f s).2.ok) : ∀ (n : Nat) (s : Src) (t : Dat), s.ok → (listN f n s t).2.ok
  | 0, s, t, h => h
  | n + 1, s, t, h => ok_listN hf n _ _ (hf s h)
theorem ok_mapN {f : Src → Dat × Src} (hf : ∀ s : Src, s.ok → (f s).2.ok) : ∀ (n : Nat) (s : Src) (t : Dat), s.ok → (mapN f n s t).2.ok
  | 0, s, t, h => h
  | n + 1, s, t, h => ok_mapN hf n _ _ (hf _ (ok_key h))
theorem ok_made : ∀ (d : Nat) {s : Src}, s.ok → (made d s).2.ok
  | 0, s, h => ok_made0 h
  | d + 1, s, h => by
    have h1 := ok_next h 12
    have hf : ∀ s : Src, s.ok → (made d s).2.ok := fun s h => ok_made d h
    unfold made
    cases decide (nextV s 12 ≤ 6) <;> cases decide (nextV s 12 = 7) <;> cases decide (nextV s 12 ≤ 9) <;> cases decide (nextV s 12 = 10) <;> cases decide ((made0 (nextS s 12)).1.kind = 9) <;>
      first | exact ok_base h1 | exact ok_made0 h1 | exact ok_madeN hf _ _ _ (ok_next h1 4) | exact ok_listN hf _ _ _ (ok_next h1 2) | exact ok_mapN hf _ _ _ (ok_next h1 3)
theorem made0_fun (s : Src) (h : (made0 s).1.kind = 9) : 0 ≤ (made0 s).1.num ∧ (made0 s).1.num ≤ 2 := by
  unfold made0 at *
  generalize nextS s 12 = s1 at *
  generalize (bif decide (6 < nextV s 12) then (0 : Int) else nextV s 12) = k at *
  unfold madeBase at *
  have hv := nextV_in s1 (n := 3) (by omega)
  cases h1 : decide (k = 1) <;> cases h2 : decide (k = 2) <;> cases h3 : decide (k = 3) <;> cases h4 : decide (k = 4) <;> cases h5 : decide (k = 5) <;> cases h6 : decide (k = 6) <;>
    simp only [h1, h2, h3, h4, h5, h6, cond_true, cond_false, atomDat, intDat, zeroDat, funDat] at h ⊢ <;> first | omega | (simp at h)

end Go.Proofs.Ytmpfdejckbceiaa
