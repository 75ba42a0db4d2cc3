/- A part of the proof: lemmas about the walk of the program and about plain integers and lists. No conditions beyond those that each lemma states. -/
import Derived.Test.YtmpfdejckbceiaaGreatOf6
import Derived.Test.YtmpfdejckbceiaaGreatOf4
import Derived.Test.YtmpfdejckbceiaaGreatOf5
set_option linter.unusedSimpArgs false
set_option linter.unusedVariables false
set_option maxRecDepth 20000
set_option maxHeartbeats 4000000
namespace Go.Proofs.YtmpfdejckbceiaaGreat
open Go Go.Sx
open Nat renaming reduceBEq → zA, reduceBNe → zB, reduceAdd → zC, reduceSub → zD, reduceMul → zE, reduceLeDiff → zF, reduceLT → zG, reduceEqDiff → zH
open Int renaming reduceToNat → zI, reduceLE → zJ, reduceLT → zK, reduceEq → zL
open Bool renaming not_eq_true' → zM, not_eq_false' → zN
/-- the row of ones that grows -/
abbrev onesB (n : Nat) : Nat × Res := (900, .row 1 ((List.replicate n (1 : Int)).map encInt))
abbrev arrB (n : Nat) : Nat × Res := (75, .cells [.dat (.int .i64 14), .dat (.int .i64 0), .dat (.int .i64 0), .dat (.str []), .own 900 n, .dat (.nil 4), .dat (.int .i64 0), .dat (.int .i64 0), .dat (.int .i64 2), .dat (.int .i64 0), .dat (.int .i64 0), .dat (.str []), .dat (.nil 1), .dat (.nil 4), .dat (.int .i64 0), .dat (.int .i64 0)])
theorem ones_snoc (k : Nat) : (List.replicate k (1 : Int)).map encInt ++ [[C.int .i64 1]] = (List.replicate (k + 1) (1 : Int)).map encInt := by simp [List.replicate_succ', encInt]
theorem made_c7 (d : Nat) (hd : d ≤ 1000) (IH : MadeC 0) (s : Src) (hs : s.ok) (hk : nextV s 12 = 7) :
    PCB Tryz.prog 7 [Sp pin, I .i64 (d + 1 : Nat)] [(pin, srcB s)] (Dt (made (d + 1) s).1) [(pin, srcB (made (d + 1) s).2)] := by
  have hM : made (d + 1) s = bif decide ((made0 (nextS s 12)).1.kind = 9) then (wrapD (made0 (nextS s 12)).1, (made0 (nextS s 12)).2) else made0 (nextS s 12) := by
    simp only [made, hk]; rfl
  rw [hM]
  refine PCB.of_body Tryz.func7 rfl (by decide) Tryz.ntmps7 Tryz.results7 rfl rfl rfl ?_ rfl rfl
  refine AWP.ghQ ?_
  have hs1 := ok_next hs 12
  have hgt : decide ((6 : Int) < 7) = true := by decide
  have hd0 : decide (((d + 1 : Nat) : Int) = 0) = false := by simp; omega
  cases h9 : decide ((made0 (nextS s 12)).1.kind = 9) with
  | false =>
    repeat' (first | (simp only [go_sem, zA, zB, zC, zD, zE, zF, zG, reduceCtorEq, zH, zI, zJ, zK, zL, pin, hk, hgt, hd0, h9, made]; all_goals fail_if_success guard_target =ₛ False) | (with_reducible first | ((first | refine seqVC_stepN rfl ?_ | refine seqVC_stepG rfl (by with_unfolding_all rfl) ?_ | refine AWP.seq ?_ | refine AWP.seqR (by kernel_rfl) ?_ | refine parVC_stepN rfl ?_ | refine parVC_stepG rfl (by with_unfolding_all rfl) ?_ | refine parEVC_stepN rfl ?_ | refine parEVC_stepG rfl (by with_unfolding_all rfl) ?_ | refine genVC_stepN rfl ?_ | refine genVC_stepG rfl (by with_unfolding_all rfl) ?_); intro K hK) | ((first | refine hK _ _ _ ?_ | refine hK _ _ ?_ | refine hK _ ?_); clear hK K) | refine seqVC_nil ?_ | refine parVC_nil ?_ | refine parEVC_nil ?_ | refine genVC_nil ?_ | refine AWP.block ?_ | (refine AWP.cond (by with_unfolding_all rfl) ?_ ?_ <;> intro h <;> (try simp only [zM, zN] at h) <;> try exact absurd h (by decide)) | refine AWP.skip ?_ | refine AWP.ret ?_ | refine AWP.exit ?_ | (refine ⟨fun h => ?_, fun h => ?_⟩ <;> (try simp only [zM, zN] at h) <;> try simp only [h])) | (refine ⟨1000000, _, _, _, next_k 1000000 _ (by repeat (first | with_reducible exact hs | with_reducible refine ok_next ?_ _)) _ (by omega), rfl, ?_⟩) | (refine ⟨1000000, _, _, _, IH.k 1000000 (nextS s 12) hs1, rfl, ?_⟩) | (with_reducible first | (refine AWP.segP (id := 14) 13 mixed (by kernel_rfl) fun K hK => ?_; simp only [List.take_succ_cons, List.take_zero, List.drop_succ_cons, List.drop_zero]) | (refine AWP.segP (id := 25) 8 mixed (by kernel_rfl) fun K hK => ?_; simp only [List.take_succ_cons, List.take_zero, List.drop_succ_cons, List.drop_zero]) | (refine AWP.segP (id := 40) 7 mixed (by kernel_rfl) fun K hK => ?_; simp only [List.take_succ_cons, List.take_zero, List.drop_succ_cons, List.drop_zero]) | (refine AWP.segP (id := 47) 11 mixed (by kernel_rfl) fun K hK => ?_; simp only [List.take_succ_cons, List.take_zero, List.drop_succ_cons, List.drop_zero]) | refine AWP.parR mixed (by kernel_rfl) fun K hK => ?_ | refine ⟨(by kernel_rfl : depB _ _ _ = true), ?_⟩ | refine Or.inl ?_) | (clear hK K))
    all_goals (refine ⟨_, Gh.refl _, ?_⟩)
    all_goals simp only [go_sem, zA, zB, zC, zD, zE, zF, zG, reduceCtorEq, zH, zI, zJ, zK, zL]
    all_goals (intro x hx)
    all_goals (simp only [List.mem_singleton] at hx; subst hx; simp [pin])
  | true =>
    have hnum := made0_fun (nextS s 12) (by simpa using h9)
    repeat' (first | (simp only [go_sem, zA, zB, zC, zD, zE, zF, zG, reduceCtorEq, zH, zI, zJ, zK, zL, pin, hk, hgt, hd0, h9, made]; all_goals fail_if_success guard_target =ₛ False) | (with_reducible first | ((first | refine seqVC_stepN rfl ?_ | refine seqVC_stepG rfl (by with_unfolding_all rfl) ?_ | refine AWP.seq ?_ | refine AWP.seqR (by kernel_rfl) ?_ | refine parVC_stepN rfl ?_ | refine parVC_stepG rfl (by with_unfolding_all rfl) ?_ | refine parEVC_stepN rfl ?_ | refine parEVC_stepG rfl (by with_unfolding_all rfl) ?_ | refine genVC_stepN rfl ?_ | refine genVC_stepG rfl (by with_unfolding_all rfl) ?_); intro K hK) | ((first | refine hK _ _ _ ?_ | refine hK _ _ ?_ | refine hK _ ?_); clear hK K) | refine seqVC_nil ?_ | refine parVC_nil ?_ | refine parEVC_nil ?_ | refine genVC_nil ?_ | refine AWP.block ?_ | (refine AWP.cond (by with_unfolding_all rfl) ?_ ?_ <;> intro h <;> (try simp only [zM, zN] at h) <;> try exact absurd h (by decide)) | refine AWP.skip ?_ | refine AWP.ret ?_ | refine AWP.exit ?_ | (refine ⟨fun h => ?_, fun h => ?_⟩ <;> (try simp only [zM, zN] at h) <;> try simp only [h]) | (refine Or.inr (show vBuildOwn _ 75 _ _ _ _ _ _ from ?_); unfold vBuildOwn; with_reducible refine Or.inl ?_; simp only [vBuildArr, go_sem, zA, zB, zC, zD, zE, zF, zG, reduceCtorEq, zH, zI, zJ, zK, zL, pin, hk, hgt, hd0, h9, made])) | (refine ⟨1000000, _, _, _, next_k 1000000 _ (by repeat (first | with_reducible exact hs | with_reducible refine ok_next ?_ _)) _ (by omega), rfl, ?_⟩) | (refine ⟨1000000, _, _, _, IH.k 1000000 (nextS s 12) hs1, rfl, ?_⟩) | (with_reducible first | (refine AWP.segP (id := 14) 13 mixed (by kernel_rfl) fun K hK => ?_; simp only [List.take_succ_cons, List.take_zero, List.drop_succ_cons, List.drop_zero]) | (refine AWP.segP (id := 25) 8 mixed (by kernel_rfl) fun K hK => ?_; simp only [List.take_succ_cons, List.take_zero, List.drop_succ_cons, List.drop_zero]) | (refine AWP.segP (id := 40) 7 mixed (by kernel_rfl) fun K hK => ?_; simp only [List.take_succ_cons, List.take_zero, List.drop_succ_cons, List.drop_zero]) | (refine AWP.segP (id := 47) 11 mixed (by kernel_rfl) fun K hK => ?_; simp only [List.take_succ_cons, List.take_zero, List.drop_succ_cons, List.drop_zero]) | refine AWP.parR mixed (by kernel_rfl) fun K hK => ?_ | refine ⟨(by kernel_rfl : depB _ _ _ = true), ?_⟩ | refine Or.inl ?_) | (clear hK K))
    refine AWP.gh (Gh.nilcell 75 4 900 rfl rfl rfl (by simp only [go_sem, zA, zB, zC, zD, zE, zF, zG, reduceCtorEq, zH, zI, zJ, zK, zL]) (by simp only [go_sem, zA, zB, zC, zD, zE, zF, zG, reduceCtorEq, zH, zI, zJ, zK, zL])) ?_
    refine AWP.loopS (X := Nat × Unit) (fun x => [(8, I .i64 x.1), (0, Sp 1000000), (1, I .i64 (d + 1 : Nat)), (4, Sp 4), (6, Sp 6), (7, Sp 7)])
      (fun x => [(1000000, srcB (made0 (nextS s 12)).2), (4, zeroB), (6, .cells ((encDat (made0 (nextS s 12)).1).map .dat)), (7, .cells [.arr 75 2, .dat (.int .i64 0)]), arrB x.1, onesB x.1])
      (fun x => (x.1 : Int) ≤ (made0 (nextS s 12)).1.num + 1) (fun x => 4 - x.1) (0, ()) ?_ (by simp only; omega) ?_
    · refine Gh.to [] (by repeat (first | exact trivial | refine ⟨rfl, ?_⟩ | refine ⟨by (simp only [go_sem, zA, zB, zC, zD, zE, zF, zG, reduceCtorEq, zH, zI, zJ, zK, zL, List.length_append, List.length_map, List.length_cons, List.length_nil, Nat.zero_add]) <;> rfl, ?_⟩)) (by repeat (first | exact trivial | refine ⟨rfl, ?_⟩ | refine ⟨by (simp only [go_sem, zA, zB, zC, zD, zE, zF, zG, reduceCtorEq, zH, zI, zJ, zK, zL, List.length_append, List.length_map, List.length_cons, List.length_nil, Nat.zero_add]) <;> rfl, ?_⟩)) rfl rfl rfl
    rintro ⟨k, u⟩ hk1
    simp only at hk1
    by_cases hlt : (k : Int) ≤ (made0 (nextS s 12)).1.num
    · have hb : decide ((k : Int) ≤ (made0 (nextS s 12)).1.num) = true := by simpa using hlt
      repeat' (first | (simp only [go_sem, zA, zB, zC, zD, zE, zF, zG, reduceCtorEq, zH, zI, zJ, zK, zL, List.length_map, hb, ones_snoc, List.length_replicate]; all_goals fail_if_success guard_target =ₛ False) | (with_reducible first | ((first | refine seqVC_stepN rfl ?_ | refine seqVC_stepG rfl (by with_unfolding_all rfl) ?_ | refine AWP.seq ?_ | refine AWP.seqR (by kernel_rfl) ?_ | refine parVC_stepN rfl ?_ | refine parVC_stepG rfl (by with_unfolding_all rfl) ?_ | refine parEVC_stepN rfl ?_ | refine parEVC_stepG rfl (by with_unfolding_all rfl) ?_ | refine genVC_stepN rfl ?_ | refine genVC_stepG rfl (by with_unfolding_all rfl) ?_); intro K hK) | ((first | refine hK _ _ _ ?_ | refine hK _ _ ?_ | refine hK _ ?_); clear hK K) | refine seqVC_nil ?_ | refine parVC_nil ?_ | refine parEVC_nil ?_ | refine genVC_nil ?_ | refine AWP.block ?_ | (refine AWP.cond (by with_unfolding_all rfl) ?_ ?_ <;> intro h <;> (try simp only [zM, zN] at h) <;> try exact absurd h (by decide)) | refine AWP.skip ?_ | refine AWP.ret ?_ | refine AWP.exit ?_ | (refine ⟨fun h => ?_, fun h => ?_⟩ <;> (try simp only [zM, zN] at h) <;> try simp only [h]) | refine ⟨by omega, ?_⟩ | (refine AWP.genR (id := 25) [6,8,11] [75,900] mixed (by kernel_rfl) fun K hK => ?_; simp only [Bx.outs, Bx.drop, cond_true, cond_false, Nat.reduceBEq, go_sem]) | (refine AWP.segP (id := 14) 13 mixed (by kernel_rfl) fun K hK => ?_; simp only [List.take_succ_cons, List.take_zero, List.drop_succ_cons, List.drop_zero]) | (refine AWP.segP (id := 40) 7 mixed (by kernel_rfl) fun K hK => ?_; simp only [List.take_succ_cons, List.take_zero, List.drop_succ_cons, List.drop_zero]) | (refine AWP.segP (id := 47) 11 mixed (by kernel_rfl) fun K hK => ?_; simp only [List.take_succ_cons, List.take_zero, List.drop_succ_cons, List.drop_zero]) | refine AWP.parR mixed (by kernel_rfl) fun K hK => ?_ | refine ⟨(by kernel_rfl : depB _ _ _ = true), ?_⟩ | refine Or.inl ?_) | (clear hK K))
      all_goals (rw [wrap_succ (m := 4) (by omega) (by omega)])
      all_goals (refine ⟨(k + 1, ()), by simp only; omega, by simp only; omega, Gh.to [(900, 91)] (by repeat (first | exact trivial | refine ⟨rfl, ?_⟩ | refine ⟨by (simp only [go_sem, zA, zB, zC, zD, zE, zF, zG, reduceCtorEq, zH, zI, zJ, zK, zL, List.length_append, List.length_map, List.length_cons, List.length_nil, Nat.zero_add]) <;> rfl, ?_⟩)) (by repeat (first | exact trivial | refine ⟨rfl, ?_⟩ | refine ⟨by (simp only [go_sem, zA, zB, zC, zD, zE, zF, zG, reduceCtorEq, zH, zI, zJ, zK, zL, List.length_append, List.length_map, List.length_cons, List.length_nil, Nat.zero_add]) <;> rfl, ?_⟩)) rfl rfl rfl⟩)
    · have hb : decide ((k : Int) ≤ (made0 (nextS s 12)).1.num) = false := by simpa using hlt
      repeat' (first | (simp only [go_sem, zA, zB, zC, zD, zE, zF, zG, reduceCtorEq, zH, zI, zJ, zK, zL, List.length_map, hb]; all_goals fail_if_success guard_target =ₛ False) | (with_reducible first | ((first | refine seqVC_stepN rfl ?_ | refine seqVC_stepG rfl (by with_unfolding_all rfl) ?_ | refine AWP.seq ?_ | refine AWP.seqR (by kernel_rfl) ?_ | refine parVC_stepN rfl ?_ | refine parVC_stepG rfl (by with_unfolding_all rfl) ?_ | refine parEVC_stepN rfl ?_ | refine parEVC_stepG rfl (by with_unfolding_all rfl) ?_ | refine genVC_stepN rfl ?_ | refine genVC_stepG rfl (by with_unfolding_all rfl) ?_); intro K hK) | ((first | refine hK _ _ _ ?_ | refine hK _ _ ?_ | refine hK _ ?_); clear hK K) | refine seqVC_nil ?_ | refine parVC_nil ?_ | refine parEVC_nil ?_ | refine genVC_nil ?_ | refine AWP.block ?_ | (refine AWP.cond (by with_unfolding_all rfl) ?_ ?_ <;> intro h <;> (try simp only [zM, zN] at h) <;> try exact absurd h (by decide)) | refine AWP.skip ?_ | refine AWP.ret ?_ | refine AWP.exit ?_ | (refine ⟨fun h => ?_, fun h => ?_⟩ <;> (try simp only [zM, zN] at h) <;> try simp only [h]) | (refine AWP.segP (id := 14) 13 mixed (by kernel_rfl) fun K hK => ?_; simp only [List.take_succ_cons, List.take_zero, List.drop_succ_cons, List.drop_zero]) | (refine AWP.segP (id := 25) 8 mixed (by kernel_rfl) fun K hK => ?_; simp only [List.take_succ_cons, List.take_zero, List.drop_succ_cons, List.drop_zero]) | (refine AWP.segP (id := 40) 7 mixed (by kernel_rfl) fun K hK => ?_; simp only [List.take_succ_cons, List.take_zero, List.drop_succ_cons, List.drop_zero]) | (refine AWP.segP (id := 47) 11 mixed (by kernel_rfl) fun K hK => ?_; simp only [List.take_succ_cons, List.take_zero, List.drop_succ_cons, List.drop_zero]) | refine AWP.parR mixed (by kernel_rfl) fun K hK => ?_ | refine ⟨(by kernel_rfl : depB _ _ _ = true), ?_⟩ | refine Or.inl ?_) | (clear hK K))
      refine GhQ.step (Gh.freeze 900 rfl rfl (by simp only [go_sem, zA, zB, zC, zD, zE, zF, zG, reduceCtorEq, zH, zI, zJ, zK, zL, List.length_map, List.length_replicate]) (by simp only [go_sem, zA, zB, zC, zD, zE, zF, zG, reduceCtorEq, zH, zI, zJ, zK, zL, List.length_map, List.length_replicate])) ?_
      simp only [go_sem, zA, zB, zC, zD, zE, zF, zG, reduceCtorEq, zH, zI, zJ, zK, zL, List.length_map, List.length_replicate]
      refine GhQ.step (Gh.freezeA 75 8 [encNode (node14 k), encNode node2] rfl (by rfl) (by rfl) (by simp [maxLen]) rfl (by simp only [go_sem, zA, zB, zC, zD, zE, zF, zG, reduceCtorEq, zH, zI, zJ, zK, zL]) (by simp only [go_sem, zA, zB, zC, zD, zE, zF, zG, reduceCtorEq, zH, zI, zJ, zK, zL])) ?_
      have ek : ((made0 (nextS s 12)).1.num + 1).toNat = k := by omega
      refine ⟨_, Gh.refl _, ?_⟩
      simp only [go_sem, zA, zB, zC, zD, zE, zF, zG, reduceCtorEq, zH, zI, zJ, zK, zL]
      refine ⟨by rw [Dt, encDat_eq (wrapD _), wrapD, ek]; rfl, fun x hx => ?_⟩
      simp only [List.mem_singleton] at hx; subst hx; simp [pin]
theorem base_cz (s : Src) (hs : s.ok) (hk : 6 < nextV s 12) :
    PCB Tryz.prog 7 [Sp pin, I .i64 (0 : Nat)] [(pin, srcB s)] (Dt (madeBase 0 (nextS s 12)).1) [(pin, srcB (madeBase 0 (nextS s 12)).2)] := by
  refine PCB.of_body Tryz.func7 rfl (by decide) Tryz.ntmps7 Tryz.results7 rfl rfl rfl ?_ rfl rfl
  have hs1 := ok_next hs 12
  have a4 := nextV_in (nextS s 12) (n := 5) (by omega)
  have hw2 : IntKind.i64.wrap (nextV (nextS s 12) 5 - 1) = nextV (nextS s 12) 5 - 1 := by rw [w64 (by omega)]
  have hgt : decide ((6 : Int) < nextV s 12) = true := by simpa using hk
  have h00 : decide (((0 : Nat) : Int) = 0) = true := by decide
  repeat' (first | (simp only [go_sem, zA, zB, zC, zD, zE, zF, zG, reduceCtorEq, zH, zI, zJ, zK, zL, pin, hgt, h00, hw2]; all_goals fail_if_success guard_target =ₛ False) | (with_reducible first | ((first | refine seqVC_stepN rfl ?_ | refine seqVC_stepG rfl (by with_unfolding_all rfl) ?_ | refine AWP.seq ?_ | refine AWP.seqR (by kernel_rfl) ?_ | refine parVC_stepN rfl ?_ | refine parVC_stepG rfl (by with_unfolding_all rfl) ?_ | refine parEVC_stepN rfl ?_ | refine parEVC_stepG rfl (by with_unfolding_all rfl) ?_ | refine genVC_stepN rfl ?_ | refine genVC_stepG rfl (by with_unfolding_all rfl) ?_); intro K hK) | ((first | refine hK _ _ _ ?_ | refine hK _ _ ?_ | refine hK _ ?_); clear hK K) | refine seqVC_nil ?_ | refine parVC_nil ?_ | refine parEVC_nil ?_ | refine genVC_nil ?_ | refine AWP.block ?_ | (refine AWP.cond (by with_unfolding_all rfl) ?_ ?_ <;> intro h <;> (try simp only [zM, zN] at h) <;> try exact absurd h (by decide)) | refine AWP.skip ?_ | refine AWP.ret ?_ | refine AWP.exit ?_ | (refine ⟨fun h => ?_, fun h => ?_⟩ <;> (try simp only [zM, zN] at h) <;> try simp only [h])) | (refine ⟨1000000, _, _, _, next_k 1000000 _ (by repeat (first | with_reducible exact hs | with_reducible refine ok_next ?_ _)) _ (by omega), rfl, ?_⟩) | (with_reducible first | (refine AWP.segP (id := 14) 13 mixed (by kernel_rfl) fun K hK => ?_; simp only [List.take_succ_cons, List.take_zero, List.drop_succ_cons, List.drop_zero]) | (refine AWP.segP (id := 25) 8 mixed (by kernel_rfl) fun K hK => ?_; simp only [List.take_succ_cons, List.take_zero, List.drop_succ_cons, List.drop_zero]) | (refine AWP.segP (id := 40) 7 mixed (by kernel_rfl) fun K hK => ?_; simp only [List.take_succ_cons, List.take_zero, List.drop_succ_cons, List.drop_zero]) | (refine AWP.segP (id := 47) 11 mixed (by kernel_rfl) fun K hK => ?_; simp only [List.take_succ_cons, List.take_zero, List.drop_succ_cons, List.drop_zero]) | refine AWP.parR mixed (by kernel_rfl) fun K hK => ?_ | refine ⟨(by kernel_rfl : depB _ _ _ = true), ?_⟩ | refine Or.inl ?_) | (clear hK K))
  all_goals (refine ⟨by simp only [madeBase, cond_true, cond_false, decide_true, decide_false, Int.reduceEq, Dt, encDat_eq, atomDat, intDat, funDat, zeroDat]; rfl, fun x hx => ?_⟩)
  all_goals (simp only [List.mem_singleton] at hx; subst hx; simp [madeBase, pin])
theorem made_c0 : MadeC 0 := by
  intro s hs
  have hv := nextV_in s (n := 12) (by omega)
  by_cases h6 : nextV s 12 ≤ 6
  · have hk' : nextV s 12 = 0 ∨ nextV s 12 = 1 ∨ nextV s 12 = 2 ∨ nextV s 12 = 3 ∨ nextV s 12 = 4 ∨ nextV s 12 = 5 ∨ nextV s 12 = 6 := by omega
    have hM : made 0 s = madeBase (nextV s 12) (nextS s 12) := by
      have : decide (6 < nextV s 12) = false := by simpa using h6
      simp only [made, made0, this, cond_false]
    rw [hM]
    rcases hk' with h | h | h | h | h | h | h <;> rw [h]
    · exact base_c0 0 s hs h
    · exact base_c1 0 s hs h
    · exact base_c2 0 s hs h
    · exact base_c3 0 s hs h
    · exact base_c4 0 s hs h
    · exact base_c5 0 s hs h
    · exact base_c6 0 s hs h
  · have hM : made 0 s = madeBase 0 (nextS s 12) := by
      have : decide (6 < nextV s 12) = true := by simpa using h6
      simp only [made, made0, this, cond_true]
    rw [hM]
    exact base_cz s hs (by omega)
theorem made_c : ∀ d : Nat, d ≤ 1000 → MadeC d
  | 0, _ => made_c0
  | d + 1, hd => by
    intro s hs
    have IH := made_c d (by omega)
    have hv := nextV_in s (n := 12) (by omega)
    have hk' : nextV s 12 = 0 ∨ nextV s 12 = 1 ∨ nextV s 12 = 2 ∨ nextV s 12 = 3 ∨ nextV s 12 = 4 ∨ nextV s 12 = 5 ∨ nextV s 12 = 6 ∨ nextV s 12 = 7 ∨ nextV s 12 = 8 ∨ nextV s 12 = 9 ∨ nextV s 12 = 10 ∨ nextV s 12 = 11 := by omega
    have hM : nextV s 12 ≤ 6 → made (d + 1) s = madeBase (nextV s 12) (nextS s 12) := by
      intro h6
      have : decide (nextV s 12 ≤ 6) = true := by simpa using h6
      simp only [made, this, cond_true]
    rcases hk' with h | h | h | h | h | h | h | h | h | h | h | h
    · rw [hM (by omega), h]; exact base_c0 (d + 1) s hs h
    · rw [hM (by omega), h]; exact base_c1 (d + 1) s hs h
    · rw [hM (by omega), h]; exact base_c2 (d + 1) s hs h
    · rw [hM (by omega), h]; exact base_c3 (d + 1) s hs h
    · rw [hM (by omega), h]; exact base_c4 (d + 1) s hs h
    · rw [hM (by omega), h]; exact base_c5 (d + 1) s hs h
    · rw [hM (by omega), h]; exact base_c6 (d + 1) s hs h
    · exact made_c7 d (by omega) made_c0 s hs h
    · exact made_c8 d (by omega) IH s hs h
    · exact made_c9 d (by omega) IH s hs h
    · exact made_c10 d (by omega) IH s hs h
    · exact made_c11 d (by omega) IH s hs h
end Go.Proofs.YtmpfdejckbceiaaGreat
set_option linter.unusedSimpArgs false
set_option linter.unusedVariables false
set_option maxRecDepth 20000
set_option maxHeartbeats 1000000
namespace Go.Proofs.YtmpfdejckbceiaaGreat
open Go Go.Sx
open Nat renaming reduceBEq → zA, reduceBNe → zB, reduceAdd → zC, reduceSub → zD, reduceMul → zE, reduceLeDiff → zF, reduceLT → zG, reduceEqDiff → zH
open Int renaming reduceToNat → zI, reduceLE → zJ, reduceLT → zK, reduceEq → zL
open Bool renaming not_eq_true' → zM, not_eq_false' → zN
/-- the functions of the document's answer -/
theorem refHasFunction_c (d : Dat) : PC Tryz.prog 15 [.st (encDat d)] (Bo (hasFun d)) := by
  have ih : ∀ k ∈ d.kids, PC Tryz.prog 15 [.st (encDat k)] (Bo (hasFun k)) := fun k hk => refHasFunction_c k
  refine PCB.of_body Tryz.func15 rfl (by decide) Tryz.ntmps15 Tryz.results15 rfl rfl rfl ?_ rfl rfl
  cases h9 : decide (d.kind = 9) with
  | true =>
    repeat' (first | (simp only [go_sem, zA, zB, zC, zD, zE, zF, zG, reduceCtorEq, zH, zI, zJ, zK, zL, encDat_eq, h9]; all_goals fail_if_success guard_target =ₛ False) | (with_reducible first | ((first | refine seqVC_stepN rfl ?_ | refine AWP.seq ?_ | refine AWP.seqR (by kernel_rfl) ?_); intro K hK) | ((first | refine hK _ _ _ ?_ | refine hK _ _ ?_ | refine hK _ ?_); clear hK K) | refine seqVC_nil ?_ | refine AWP.block ?_ | (refine AWP.cond (by with_unfolding_all rfl) ?_ ?_ <;> intro h <;> (try simp only [zM, zN] at h) <;> try exact absurd h (by decide)) | refine AWP.skip ?_ | refine AWP.ret ?_ | refine AWP.exit ?_ | refine Or.inl ?_) | (clear hK K))
    all_goals (refine fin0 ?_; simp only [hasFun_eq, h9, Bool.true_or])
  | false =>
    repeat' (first | (simp only [go_sem, zA, zB, zC, zD, zE, zF, zG, reduceCtorEq, zH, zI, zJ, zK, zL, encDat_eq, h9, List.length_map]; all_goals fail_if_success guard_target =ₛ False) | (with_reducible first | ((first | refine seqVC_stepN rfl ?_ | refine AWP.seq ?_ | refine AWP.seqR (by kernel_rfl) ?_); intro K hK) | ((first | refine hK _ _ _ ?_ | refine hK _ _ ?_ | refine hK _ ?_); clear hK K) | refine seqVC_nil ?_ | refine AWP.block ?_ | (refine AWP.cond (by with_unfolding_all rfl) ?_ ?_ <;> intro h <;> (try simp only [zM, zN] at h) <;> try exact absurd h (by decide)) | refine AWP.skip ?_ | refine AWP.ret ?_ | refine AWP.exit ?_ | refine Or.inl ?_) | (clear hK K))
    refine AWP.len 9 rfl fun hlen => ?_
    rw [List.length_map] at hlen
    refine AWP.loopS (X := Nat × Unit) (fun x => [(11, I .i64 x.1), (10, I .i64 d.kids.length), (9, .one (.dat (.sl 13 (d.kids.map encDat))))]) (fun _ => [])
      (fun x => x.1 ≤ d.kids.length ∧ d.kids.any hasFun = (d.kids.drop x.1).any hasFun) (fun x => d.kids.length - x.1) (0, ()) (Gh.to [] (by repeat (first | exact trivial | refine ⟨rfl, ?_⟩ | refine ⟨by (simp only [go_sem, zA, zB, zC, zD, zE, zF, zG, reduceCtorEq, zH, zI, zJ, zK, zL, List.length_append, List.length_map, List.length_cons, List.length_nil, Nat.zero_add]) <;> rfl, ?_⟩)) (by repeat (first | exact trivial | refine ⟨rfl, ?_⟩ | refine ⟨by (simp only [go_sem, zA, zB, zC, zD, zE, zF, zG, reduceCtorEq, zH, zI, zJ, zK, zL, List.length_append, List.length_map, List.length_cons, List.length_nil, Nat.zero_add]) <;> rfl, ?_⟩)) rfl rfl rfl) ⟨Nat.zero_le _, rfl⟩ ?_
    rintro ⟨k, u⟩ ⟨hk, hp⟩
    simp only at hk hp
    by_cases hlt : k < d.kids.length
    · obtain ⟨x, hx, hx', hb, hdx⟩ := at_lt (enc := encDat) hlt
      rw [hdx, List.any_cons] at hp
      have hgx := ih x (List.mem_of_getElem? hx)
      cases hz : hasFun x
      ·
        repeat' (first | (simp only [go_sem, zA, zB, zC, zD, zE, zF, zG, reduceCtorEq, zH, zI, zJ, zK, zL, List.length_map, hb, hz]; all_goals fail_if_success guard_target =ₛ False) | (with_reducible first | ((first | refine seqVC_stepN rfl ?_ | refine AWP.seq ?_ | refine AWP.seqR (by kernel_rfl) ?_); intro K hK) | ((first | refine hK _ _ _ ?_ | refine hK _ _ ?_ | refine hK _ ?_); clear hK K) | refine seqVC_nil ?_ | refine AWP.block ?_ | (refine AWP.cond (by with_unfolding_all rfl) ?_ ?_ <;> intro h <;> (try simp only [zM, zN] at h) <;> try exact absurd h (by decide)) | refine AWP.skip ?_ | refine AWP.ret ?_ | refine AWP.exit ?_ | refine ⟨_, hgx, ?_⟩ | refine ⟨by omega, encDat x, hx', ?_⟩ | refine Or.inl ?_) | (clear hK K))
        all_goals (rw [hz, Bool.false_or] at hp)
        all_goals (rw [wrap_succ hlt hlen])
        all_goals (refine ⟨(k + 1, ()), by simp only; omega, ⟨by simp only; omega, hp⟩, Gh.to [] (by repeat (first | exact trivial | refine ⟨rfl, ?_⟩ | refine ⟨by (simp only [go_sem, zA, zB, zC, zD, zE, zF, zG, reduceCtorEq, zH, zI, zJ, zK, zL, List.length_append, List.length_map, List.length_cons, List.length_nil, Nat.zero_add]) <;> rfl, ?_⟩)) (by repeat (first | exact trivial | refine ⟨rfl, ?_⟩ | refine ⟨by (simp only [go_sem, zA, zB, zC, zD, zE, zF, zG, reduceCtorEq, zH, zI, zJ, zK, zL, List.length_append, List.length_map, List.length_cons, List.length_nil, Nat.zero_add]) <;> rfl, ?_⟩)) rfl rfl rfl⟩)
      ·
        repeat' (first | (simp only [go_sem, zA, zB, zC, zD, zE, zF, zG, reduceCtorEq, zH, zI, zJ, zK, zL, List.length_map, hb, hz]; all_goals fail_if_success guard_target =ₛ False) | (with_reducible first | ((first | refine seqVC_stepN rfl ?_ | refine AWP.seq ?_ | refine AWP.seqR (by kernel_rfl) ?_); intro K hK) | ((first | refine hK _ _ _ ?_ | refine hK _ _ ?_ | refine hK _ ?_); clear hK K) | refine seqVC_nil ?_ | refine AWP.block ?_ | (refine AWP.cond (by with_unfolding_all rfl) ?_ ?_ <;> intro h <;> (try simp only [zM, zN] at h) <;> try exact absurd h (by decide)) | refine AWP.skip ?_ | refine AWP.ret ?_ | refine AWP.exit ?_ | refine ⟨_, hgx, ?_⟩ | refine ⟨by omega, encDat x, hx', ?_⟩ | refine Or.inl ?_) | (clear hK K))
        all_goals (refine fin0 ?_; rw [hasFun_eq d, h9, hp, hz]; rfl)
    · obtain ⟨hb, hdx⟩ := at_ge hlt
      rw [hdx, List.any_nil] at hp
      repeat' (first | (simp only [go_sem, zA, zB, zC, zD, zE, zF, zG, reduceCtorEq, zH, zI, zJ, zK, zL, List.length_map, hb]; all_goals fail_if_success guard_target =ₛ False) | (with_reducible first | ((first | refine seqVC_stepN rfl ?_ | refine AWP.seq ?_ | refine AWP.seqR (by kernel_rfl) ?_); intro K hK) | ((first | refine hK _ _ _ ?_ | refine hK _ _ ?_ | refine hK _ ?_); clear hK K) | refine seqVC_nil ?_ | refine AWP.block ?_ | (refine AWP.cond (by with_unfolding_all rfl) ?_ ?_ <;> intro h <;> (try simp only [zM, zN] at h) <;> try exact absurd h (by decide)) | refine AWP.skip ?_ | refine AWP.ret ?_ | refine AWP.exit ?_ | refine Or.inl ?_) | (clear hK K))
      all_goals (refine fin0 ?_; simp only [hasFun_eq, h9, hp, Bool.false_or])
termination_by SizeOf.sizeOf d
decreasing_by
  cases d; simp only at hk; have := List.sizeOf_lt_of_mem hk; simp; omega
theorem cloneKeys_c (l : List KeyD) (hl : l.length ≤ 1000000) : PC Tryz.prog 30 [.one (.dat (.sl 2 (l.map encKey)))] (.one (.dat (.sl 2 (l.map encKey)))) := by
  refine PCB.of_body Tryz.func30 rfl (by decide) Tryz.ntmps30 Tryz.results30 rfl rfl rfl ?_ rfl rfl
  refine AWP.ghQ ?_
  repeat' (first | ( refine AWP.nilR (e := 63) rfl (by decide) (by decide) rfl (fun hnil => ?_) ?_) | (simp only [go_sem, zA, zB, zC, zD, zE, zF, zG, reduceCtorEq, zH, zI, zJ, zK, zL, List.length_map]; all_goals fail_if_success guard_target =ₛ False) | (with_reducible first | ((first | refine seqVC_stepN rfl ?_ | refine AWP.seq ?_ | refine AWP.seqR (by kernel_rfl) ?_); intro K hK) | ((first | refine hK _ _ _ ?_ | refine hK _ _ ?_ | refine hK _ ?_); clear hK K) | refine seqVC_nil ?_ | refine AWP.block ?_ | (refine AWP.cond (by with_unfolding_all rfl) ?_ ?_ <;> intro h <;> (try simp only [zM, zN] at h) <;> try exact absurd h (by decide)) | refine AWP.skip ?_ | refine AWP.ret ?_ | refine AWP.exit ?_ | (refine Or.inr (show vBuildOwn _ 5 _ _ _ _ _ _ from ?_); unfold vBuildOwn; with_reducible refine Or.inr ?_; simp only [vBuildRow, go_sem, zA, zB, zC, zD, zE, zF, zG, reduceCtorEq, zH, zI, zJ, zK, zL, List.length_map]) | refine ⟨by omega, ?_⟩ | refine Or.inl ?_) | (clear hK K))
  · refine ⟨_, Gh.refl _, ?_⟩
    simp only [go_sem, zA, zB, zC, zD, zE, zF, zG, reduceCtorEq, zH, zI, zJ, zK, zL]
    refine fin0 ?_
    rw [hnil]
  ·
    refine ⟨_, Gh.freeze 7 rfl rfl (by simp only [go_sem, zA, zB, zC, zD, zE, zF, zG, reduceCtorEq, zH, zI, zJ, zK, zL, List.length_map]) (by simp only [go_sem, zA, zB, zC, zD, zE, zF, zG, reduceCtorEq, zH, zI, zJ, zK, zL, List.length_map]), ?_⟩
    simp only [go_sem, zA, zB, zC, zD, zE, zF, zG, reduceCtorEq, zH, zI, zJ, zK, zL, List.length_map]
    all_goals (first | exact fun _ h => (by cases h) | refine fin0 ?_)
    all_goals rfl
mutual
def eraseV : Dat → Val
  | ⟨kind, num, text, kids, keys, _, _, _, _, _, _, _, _⟩ => bif decide (kind = 9) then ⟨9, num, [], [], [], [], []⟩ else ⟨kind, num, text, eraseVs kids, keys, [], []⟩
def eraseVs : List Dat → List Val
  | [] => []
  | d :: l => eraseV d :: eraseVs l
end
theorem eraseVs_map : ∀ l : List Dat, eraseVs l = l.map eraseV
  | [] => by simp only [eraseVs, List.map_nil]
  | d :: l => by simp only [eraseVs, List.map_cons, eraseVs_map l]
theorem eraseV_eq (d : Dat) : eraseV d = bif decide (d.kind = 9) then ⟨9, d.num, [], [], [], [], []⟩ else ⟨d.kind, d.num, d.text, d.kids.map eraseV, d.keys, [], []⟩ := by cases d; simp only [eraseV, eraseVs_map]
/-- no row too long for an append -/
inductive Small : Dat → Prop
  | mk (d : Dat) (h1 : d.kids.length ≤ 1000000) (h2 : d.keys.length ≤ 1000000) (h : ∀ k ∈ d.kids, Small k) : Small d
theorem Small.kids {d : Dat} (h : Small d) : d.kids.length ≤ 1000000 := by cases h; assumption
theorem Small.keys {d : Dat} (h : Small d) : d.keys.length ≤ 1000000 := by cases h; assumption
theorem Small.kid {d : Dat} (h : Small d) : ∀ k ∈ d.kids, Small k := by cases h; assumption
abbrev Vr (n : Nat) (l : List Val) : Nat × Res := (n, .row 7 (l.map encVal))
theorem val_snoc (l : List Val) (x : Val) : l.map encVal ++ [encVal x] = (l ++ [x]).map encVal := by simp
theorem erase_c (d : Dat) (hd : Small d) : PC Tryz.prog 12 [.st (encDat d)] (.st (encVal (eraseV d))) := by
  have ih : ∀ k ∈ d.kids, PC Tryz.prog 12 [.st (encDat k)] (.st (encVal (eraseV k))) := fun k hk => erase_c k (hd.kid k hk)
  have hkk := hd.kids
  refine PCB.of_body Tryz.func12 rfl (by decide) Tryz.ntmps12 Tryz.results12 rfl rfl rfl ?_ rfl rfl
  refine AWP.ghQ ?_
  cases h9 : decide (d.kind = 9) with
  | true =>
    repeat' (first | (simp only [go_sem, zA, zB, zC, zD, zE, zF, zG, reduceCtorEq, zH, zI, zJ, zK, zL, encDat_eq, h9]; all_goals fail_if_success guard_target =ₛ False) | (with_reducible first | ((first | refine seqVC_stepN rfl ?_ | refine AWP.seq ?_ | refine AWP.seqR (by kernel_rfl) ?_ | refine parVC_stepN rfl ?_ | refine parEVC_stepN rfl ?_ | refine genVC_stepN rfl ?_); intro K hK) | ((first | refine hK _ _ _ ?_ | refine hK _ _ ?_ | refine hK _ ?_); clear hK K) | refine seqVC_nil ?_ | refine parVC_nil ?_ | refine parEVC_nil ?_ | refine genVC_nil ?_ | refine AWP.block ?_ | (refine AWP.cond (by with_unfolding_all rfl) ?_ ?_ <;> intro h <;> (try simp only [zM, zN] at h) <;> try exact absurd h (by decide)) | refine AWP.skip ?_ | refine AWP.ret ?_ | refine AWP.exit ?_ | (refine AWP.segP (id := 3) 10 mixed (by kernel_rfl) fun K hK => ?_; simp only [List.take_succ_cons, List.take_zero, List.drop_succ_cons, List.drop_zero]) | (refine AWP.segP (id := 7) 5 mixed (by kernel_rfl) fun K hK => ?_; simp only [List.take_succ_cons, List.take_zero, List.drop_succ_cons, List.drop_zero]) | refine AWP.parR mixed (by kernel_rfl) fun K hK => ?_ | refine ⟨(by kernel_rfl : depB _ _ _ = true), ?_⟩ | refine Or.inl ?_) | (clear hK K))
    all_goals (refine ⟨_, Gh.refl _, ?_⟩)
    all_goals simp only [go_sem, zA, zB, zC, zD, zE, zF, zG, reduceCtorEq, zH, zI, zJ, zK, zL]
    all_goals (refine fin0 ?_; rw [eraseV_eq, h9, encVal_eq]; rfl)
  | false =>
    repeat' (first | (simp only [go_sem, zA, zB, zC, zD, zE, zF, zG, reduceCtorEq, zH, zI, zJ, zK, zL, encDat_eq, h9, List.length_map]; all_goals fail_if_success guard_target =ₛ False) | (with_reducible first | ((first | refine seqVC_stepN rfl ?_ | refine AWP.seq ?_ | refine AWP.seqR (by kernel_rfl) ?_ | refine parVC_stepN rfl ?_ | refine parEVC_stepN rfl ?_ | refine genVC_stepN rfl ?_); intro K hK) | ((first | refine hK _ _ _ ?_ | refine hK _ _ ?_ | refine hK _ ?_); clear hK K) | refine seqVC_nil ?_ | refine parVC_nil ?_ | refine parEVC_nil ?_ | refine genVC_nil ?_ | refine AWP.block ?_ | (refine AWP.cond (by with_unfolding_all rfl) ?_ ?_ <;> intro h <;> (try simp only [zM, zN] at h) <;> try exact absurd h (by decide)) | refine AWP.skip ?_ | refine AWP.ret ?_ | refine AWP.exit ?_ | refine ⟨_, cloneKeys_c d.keys hd.keys, ?_⟩ | (refine AWP.genR (id := 3) [10,11] [] mixed (by kernel_rfl) fun K hK => ?_; simp only [Bx.outs, Bx.drop, cond_true, cond_false, Nat.reduceBEq, go_sem]) | (refine AWP.segP (id := 7) 5 mixed (by kernel_rfl) fun K hK => ?_; simp only [List.take_succ_cons, List.take_zero, List.drop_succ_cons, List.drop_zero]) | refine AWP.parR mixed (by kernel_rfl) fun K hK => ?_ | refine ⟨(by kernel_rfl : depB _ _ _ = true), ?_⟩ | refine Or.inl ?_) | (clear hK K))
    refine AWP.gh (Gh.nilcell 3 3 900 rfl rfl rfl (by simp only [go_sem, zA, zB, zC, zD, zE, zF, zG, reduceCtorEq, zH, zI, zJ, zK, zL]) (by simp only [go_sem, zA, zB, zC, zD, zE, zF, zG, reduceCtorEq, zH, zI, zJ, zK, zL])) ?_
    refine AWP.loopS (X := Nat × List Val) (fun x => [(25, I .i64 x.1), (24, I .i64 d.kids.length), (23, .one (.dat (.sl 13 (d.kids.map encDat)))), (2, Sp 2), (3, Sp 3)])
      (fun x => [(2, .cells [.dat (.int .i64 0), .dat (.int .i64 0), .dat (.str []), .dat (.nil 7), .dat (.nil 2), .dat (.nil 9), .dat (.nil 1)]),
        (3, .cells [.dat (.int .i64 d.kind), .dat (.int .i64 d.num), .dat (.str d.text), .own 900 x.2.length, .dat (.sl 2 (d.keys.map encKey)), .dat (.nil 9), .dat (.nil 1)]), Vr 900 x.2])
      (fun x => x.1 ≤ d.kids.length ∧ x.2 = (d.kids.take x.1).map eraseV) (fun x => d.kids.length - x.1) (0, []) ?_ ⟨Nat.zero_le _, rfl⟩ ?_
    · exact Gh.to [] (by repeat (first | exact trivial | refine ⟨rfl, ?_⟩ | refine ⟨by (simp only [go_sem, zA, zB, zC, zD, zE, zF, zG, reduceCtorEq, zH, zI, zJ, zK, zL, List.length_append, List.length_map, List.length_cons, List.length_nil, Nat.zero_add]) <;> rfl, ?_⟩)) (by repeat (first | exact trivial | refine ⟨rfl, ?_⟩ | refine ⟨by (simp only [go_sem, zA, zB, zC, zD, zE, zF, zG, reduceCtorEq, zH, zI, zJ, zK, zL, List.length_append, List.length_map, List.length_cons, List.length_nil, Nat.zero_add]) <;> rfl, ?_⟩)) rfl rfl rfl
    rintro ⟨k, acc⟩ ⟨hk, hp⟩
    simp only at hk hp
    have hal : acc.length = k := by rw [hp]; simp; omega
    by_cases hlt : k < d.kids.length
    · obtain ⟨x, hx, hx', hb, hdx⟩ := at_lt (enc := encDat) hlt
      have hgx := ih x (List.mem_of_getElem? hx)
      repeat' (first | (simp only [go_sem, zA, zB, zC, zD, zE, zF, zG, reduceCtorEq, zH, zI, zJ, zK, zL, List.length_map, hb, val_snoc]; all_goals fail_if_success guard_target =ₛ False) | (with_reducible first | ((first | refine seqVC_stepN rfl ?_ | refine AWP.seq ?_ | refine AWP.seqR (by kernel_rfl) ?_ | refine parVC_stepN rfl ?_ | refine parEVC_stepN rfl ?_ | refine genVC_stepN rfl ?_); intro K hK) | ((first | refine hK _ _ _ ?_ | refine hK _ _ ?_ | refine hK _ ?_); clear hK K) | refine seqVC_nil ?_ | refine parVC_nil ?_ | refine parEVC_nil ?_ | refine genVC_nil ?_ | refine AWP.block ?_ | (refine AWP.cond (by with_unfolding_all rfl) ?_ ?_ <;> intro h <;> (try simp only [zM, zN] at h) <;> try exact absurd h (by decide)) | refine AWP.skip ?_ | refine AWP.ret ?_ | refine AWP.exit ?_ | refine ⟨_, hgx, ?_⟩ | refine ⟨by omega, encDat x, hx', ?_⟩ | refine ⟨by omega, ?_⟩ | (refine AWP.genR (id := 7) [1,5,7] [3,900] mixed (by kernel_rfl) fun K hK => ?_; simp only [Bx.outs, Bx.drop, cond_true, cond_false, Nat.reduceBEq, go_sem]) | (refine AWP.segP (id := 3) 10 mixed (by kernel_rfl) fun K hK => ?_; simp only [List.take_succ_cons, List.take_zero, List.drop_succ_cons, List.drop_zero]) | refine AWP.parR mixed (by kernel_rfl) fun K hK => ?_ | refine ⟨(by kernel_rfl : depB _ _ _ = true), ?_⟩ | refine Or.inl ?_) | (clear hK K))
      all_goals (rw [wrap_succ hlt (by omega)])
      all_goals (refine ⟨(k + 1, acc ++ [eraseV x]), by simp only; omega, ⟨by simp only; omega, ?_⟩, Gh.to [(900, 34)] (by repeat (first | exact trivial | refine ⟨rfl, ?_⟩ | refine ⟨by (simp only [go_sem, zA, zB, zC, zD, zE, zF, zG, reduceCtorEq, zH, zI, zJ, zK, zL, List.length_append, List.length_map, List.length_cons, List.length_nil, Nat.zero_add]) <;> rfl, ?_⟩)) (by repeat (first | exact trivial | refine ⟨rfl, ?_⟩ | refine ⟨by (simp only [go_sem, zA, zB, zC, zD, zE, zF, zG, reduceCtorEq, zH, zI, zJ, zK, zL, List.length_append, List.length_map, List.length_cons, List.length_nil, Nat.zero_add]) <;> rfl, ?_⟩)) rfl rfl rfl⟩)
      all_goals (simp only [hp]; rw [List.take_add_one, List.map_append, hx]; rfl)
    · have hb : decide ((k : Int) < (d.kids.length : Int)) = false := by simpa using hlt
      rw [List.take_of_length_le (by omega)] at hp
      repeat' (first | (simp only [go_sem, zA, zB, zC, zD, zE, zF, zG, reduceCtorEq, zH, zI, zJ, zK, zL, List.length_map, hb]; all_goals fail_if_success guard_target =ₛ False) | (with_reducible first | ((first | refine seqVC_stepN rfl ?_ | refine AWP.seq ?_ | refine AWP.seqR (by kernel_rfl) ?_ | refine parVC_stepN rfl ?_ | refine parEVC_stepN rfl ?_ | refine genVC_stepN rfl ?_); intro K hK) | ((first | refine hK _ _ _ ?_ | refine hK _ _ ?_ | refine hK _ ?_); clear hK K) | refine seqVC_nil ?_ | refine parVC_nil ?_ | refine parEVC_nil ?_ | refine genVC_nil ?_ | refine AWP.block ?_ | (refine AWP.cond (by with_unfolding_all rfl) ?_ ?_ <;> intro h <;> (try simp only [zM, zN] at h) <;> try exact absurd h (by decide)) | refine AWP.skip ?_ | refine AWP.ret ?_ | refine AWP.exit ?_ | (refine AWP.segP (id := 3) 10 mixed (by kernel_rfl) fun K hK => ?_; simp only [List.take_succ_cons, List.take_zero, List.drop_succ_cons, List.drop_zero]) | (refine AWP.segP (id := 7) 5 mixed (by kernel_rfl) fun K hK => ?_; simp only [List.take_succ_cons, List.take_zero, List.drop_succ_cons, List.drop_zero]) | refine AWP.parR mixed (by kernel_rfl) fun K hK => ?_ | refine ⟨(by kernel_rfl : depB _ _ _ = true), ?_⟩ | refine Or.inl ?_) | (clear hK K))
      refine ⟨_, Gh.freeze 900 rfl rfl (by simp only [go_sem, zA, zB, zC, zD, zE, zF, zG, reduceCtorEq, zH, zI, zJ, zK, zL, List.length_map]) (by simp only [go_sem, zA, zB, zC, zD, zE, zF, zG, reduceCtorEq, zH, zI, zJ, zK, zL, List.length_map]), ?_⟩
      simp only [go_sem, zA, zB, zC, zD, zE, zF, zG, reduceCtorEq, zH, zI, zJ, zK, zL, List.length_map]
      all_goals (refine fin0 ?_; rw [eraseV_eq, h9, encVal_eq, hp]; rfl)
termination_by SizeOf.sizeOf d
decreasing_by
  cases d; simp only at hk; have := List.sizeOf_lt_of_mem hk; simp; omega
end Go.Proofs.YtmpfdejckbceiaaGreat
set_option linter.unusedSimpArgs false
set_option linter.unusedVariables false
set_option maxRecDepth 20000
set_option maxHeartbeats 4000000
namespace Go.Proofs.YtmpfdejckbceiaaGreat
open Go Go.Sx
open Nat renaming reduceBEq → zA, reduceBNe → zB, reduceAdd → zC, reduceSub → zD, reduceMul → zE, reduceLeDiff → zF, reduceLT → zG, reduceEqDiff → zH
open Int renaming reduceToNat → zI, reduceLE → zJ, reduceLT → zK, reduceEq → zL
open Bool renaming not_eq_true' → zM, not_eq_false' → zN
/-- each element is below the next one -/
def ascB {α : Type} (f : α → α → Int) : List α → Bool
  | [] => true
  | x :: l => match l with
    | [] => true
    | y :: m => decide (f x y < 0) && ascB f (y :: m)
theorem ascB_step {α : Type} {f : α → α → Int} {l : List α} {k : Nat} {x y : α} (hx : l[k]? = some x) (hy : l[k + 1]? = some y) : ascB f (l.drop k) = (decide (f x y < 0) && ascB f (l.drop (k + 1))) := by
  obtain ⟨h1, e1⟩ := List.getElem?_eq_some_iff.1 hx
  obtain ⟨h2, e2⟩ := List.getElem?_eq_some_iff.1 hy
  rw [List.drop_eq_getElem_cons h1, List.drop_eq_getElem_cons h2, e1, e2]
  rfl
theorem ascB_end {α : Type} {f : α → α → Int} {l : List α} {k : Nat} (h : l.length ≤ k + 1) : ascB f (l.drop k) = true := by
  have : (l.drop k).length ≤ 1 := by simp; omega
  match l.drop k, this with
  | [], _ => rfl
  | [x], _ => rfl
  | _ :: _ :: _, h => simp at h
theorem ascStr_c (g : FuncId) (f : List UInt8 → List UInt8 → Int) (l : List (List UInt8)) (hg : ∀ x ∈ l, ∀ y ∈ l, PC Tryz.prog g [S x, S y] (I .i64 (f x y))) :
    PC Tryz.prog 93 [.one (.dat (.sl 1 (l.map encStr))), .one (.dat (.fn g))] (Bo (ascB f l)) := by
  refine PCB.of_body Tryz.func93 rfl (by decide) Tryz.ntmps93 Tryz.results93 rfl rfl rfl ?_ rfl rfl
  refine AWP.len 0 rfl fun hlen => ?_
  rw [List.length_map] at hlen
  repeat' (first | (simp only [go_sem, zA, zB, zC, zD, zE, zF, zG, reduceCtorEq, zH, zI, zJ, zK, zL, List.length_map]; all_goals fail_if_success guard_target =ₛ False) | (with_reducible first | ((first | refine seqVC_stepN rfl ?_ | refine AWP.seq ?_ | refine AWP.seqR (by kernel_rfl) ?_ | refine parVC_stepN rfl ?_ | refine parEVC_stepN rfl ?_ | refine genVC_stepN rfl ?_); intro K hK) | ((first | refine hK _ _ _ ?_ | refine hK _ _ ?_ | refine hK _ ?_); clear hK K) | refine seqVC_nil ?_ | refine parVC_nil ?_ | refine parEVC_nil ?_ | refine genVC_nil ?_ | refine AWP.block ?_ | (refine AWP.cond (by with_unfolding_all rfl) ?_ ?_ <;> intro h <;> (try simp only [zM, zN] at h) <;> try exact absurd h (by decide)) | refine AWP.skip ?_ | refine AWP.ret ?_ | refine AWP.exit ?_ | refine AWP.parR mixed (by kernel_rfl) fun K hK => ?_ | refine ⟨(by kernel_rfl : depB _ _ _ = true), ?_⟩ | refine Or.inl ?_) | (clear hK K))
  refine AWP.loopF (X := Nat) (fun k => [(5, I .i64 (k + 1 : Nat))]) (fun _ => []) [0, 1] [] (fun k => k ≤ l.length ∧ ascB f l = ascB f (l.drop k)) (fun k => l.length - k) (0) (by simp only [go_sem, zA, zB, zC, zD, zE, zF, zG, reduceCtorEq, zH, zI, zJ, zK, zL]; exact Gh.to [] (by repeat (first | exact trivial | refine ⟨rfl, ?_⟩ | refine ⟨by (simp only [go_sem, zA, zB, zC, zD, zE, zF, zG, reduceCtorEq, zH, zI, zJ, zK, zL, List.length_append, List.length_map, List.length_cons, List.length_nil, Nat.zero_add]) <;> rfl, ?_⟩)) (by repeat (first | exact trivial | refine ⟨rfl, ?_⟩ | refine ⟨by (simp only [go_sem, zA, zB, zC, zD, zE, zF, zG, reduceCtorEq, zH, zI, zJ, zK, zL, List.length_append, List.length_map, List.length_cons, List.length_nil, Nat.zero_add]) <;> rfl, ?_⟩)) rfl rfl rfl) ?_ ?_
  · exact ⟨Nat.zero_le _, rfl⟩
  rintro k ⟨hk, hp⟩
  simp only [go_sem, zA, zB, zC, zD, zE, zF, zG, reduceCtorEq, zH, zI, zJ, zK, zL]
  by_cases hlt : k + 1 < l.length
  · obtain ⟨y, hy, hy', hb, _⟩ := at_lt (enc := encStr) hlt
    obtain ⟨x, hx, hx', _, _⟩ := at_lt (enc := encStr) (show k < l.length by omega)
    have hw : IntKind.i64.wrap (((k + 1 : Nat) : Int) - 1) = (k : Int) := by rw [w64 (by omega)]; omega
    have hxy := hg x (List.mem_of_getElem? hx) y (List.mem_of_getElem? hy)
    rw [ascB_step hx hy] at hp
    cases hz : decide (f x y < 0) <;> simp only [hz, Bool.true_and, Bool.false_and] at hp
    · have hz' : decide (0 ≤ f x y) = true := by simp at hz ⊢; omega
      repeat' (first | (simp only [go_sem, zA, zB, zC, zD, zE, zF, zG, reduceCtorEq, zH, zI, zJ, zK, zL, List.length_map, hb, hz', hw, encStr]; all_goals fail_if_success guard_target =ₛ False) | (with_reducible first | ((first | refine seqVC_stepN rfl ?_ | refine AWP.seq ?_ | refine AWP.seqR (by kernel_rfl) ?_ | refine parVC_stepN rfl ?_ | refine parEVC_stepN rfl ?_ | refine genVC_stepN rfl ?_); intro K hK) | ((first | refine hK _ _ _ ?_ | refine hK _ _ ?_ | refine hK _ ?_); clear hK K) | refine seqVC_nil ?_ | refine parVC_nil ?_ | refine parEVC_nil ?_ | refine genVC_nil ?_ | refine AWP.block ?_ | (refine AWP.cond (by with_unfolding_all rfl) ?_ ?_ <;> intro h <;> (try simp only [zM, zN] at h) <;> try exact absurd h (by decide)) | refine AWP.skip ?_ | refine AWP.ret ?_ | refine AWP.exit ?_ | refine ⟨_, hxy, ?_⟩ | refine ⟨by omega, encStr x, hx', ?_⟩ | refine ⟨by omega, encStr y, hy', ?_⟩ | refine AWP.parR mixed (by kernel_rfl) fun K hK => ?_ | refine ⟨(by kernel_rfl : depB _ _ _ = true), ?_⟩ | refine Or.inl ?_) | (clear hK K))
      all_goals (first | exact fun _ h => (by cases h) | (refine fin0 ?_; first | rfl | (simp only [hp, Bool.and_true, Bool.and_false, Bool.true_and, Bool.false_and, Bool.or_true, Bool.or_false, Bool.true_or, Bool.false_or, Bool.not_true, Bool.not_false, cond_true, cond_false, decide_true, decide_false]; done) | (simp only [hp, Bool.and_true, Bool.and_false, Bool.true_and, Bool.false_and, Bool.or_true, Bool.or_false, Bool.true_or, Bool.false_or, Bool.not_true, Bool.not_false, cond_true, cond_false, decide_true, decide_false]; rfl)))
    · have hz' : decide (0 ≤ f x y) = false := by simp at hz ⊢; omega
      repeat' (first | (simp only [go_sem, zA, zB, zC, zD, zE, zF, zG, reduceCtorEq, zH, zI, zJ, zK, zL, List.length_map, hb, hz', hw, encStr]; all_goals fail_if_success guard_target =ₛ False) | (with_reducible first | ((first | refine seqVC_stepN rfl ?_ | refine AWP.seq ?_ | refine AWP.seqR (by kernel_rfl) ?_ | refine parVC_stepN rfl ?_ | refine parEVC_stepN rfl ?_ | refine genVC_stepN rfl ?_); intro K hK) | ((first | refine hK _ _ _ ?_ | refine hK _ _ ?_ | refine hK _ ?_); clear hK K) | refine seqVC_nil ?_ | refine parVC_nil ?_ | refine parEVC_nil ?_ | refine genVC_nil ?_ | refine AWP.block ?_ | (refine AWP.cond (by with_unfolding_all rfl) ?_ ?_ <;> intro h <;> (try simp only [zM, zN] at h) <;> try exact absurd h (by decide)) | refine AWP.skip ?_ | refine AWP.ret ?_ | refine AWP.exit ?_ | refine ⟨_, hxy, ?_⟩ | refine ⟨by omega, encStr x, hx', ?_⟩ | refine ⟨by omega, encStr y, hy', ?_⟩ | refine AWP.parR mixed (by kernel_rfl) fun K hK => ?_ | refine ⟨(by kernel_rfl : depB _ _ _ = true), ?_⟩ | refine Or.inl ?_) | (clear hK K))
      all_goals (rw [wrap_succ hlt hlen])
      all_goals (refine ⟨k + 1, by omega, ⟨by omega, hp⟩, Gh.to [] (by repeat (first | exact trivial | refine ⟨rfl, ?_⟩ | refine ⟨by (simp only [go_sem, zA, zB, zC, zD, zE, zF, zG, reduceCtorEq, zH, zI, zJ, zK, zL, List.length_append, List.length_map, List.length_cons, List.length_nil, Nat.zero_add]) <;> rfl, ?_⟩)) (by repeat (first | exact trivial | refine ⟨rfl, ?_⟩ | refine ⟨by (simp only [go_sem, zA, zB, zC, zD, zE, zF, zG, reduceCtorEq, zH, zI, zJ, zK, zL, List.length_append, List.length_map, List.length_cons, List.length_nil, Nat.zero_add]) <;> rfl, ?_⟩)) rfl rfl rfl⟩)
  · have hb : decide (((k + 1 : Nat) : Int) < (l.length : Int)) = false := by simp; omega
    rw [ascB_end (by omega)] at hp
    repeat' (first | (simp only [go_sem, zA, zB, zC, zD, zE, zF, zG, reduceCtorEq, zH, zI, zJ, zK, zL, List.length_map, hb]; all_goals fail_if_success guard_target =ₛ False) | (with_reducible first | ((first | refine seqVC_stepN rfl ?_ | refine AWP.seq ?_ | refine AWP.seqR (by kernel_rfl) ?_ | refine parVC_stepN rfl ?_ | refine parEVC_stepN rfl ?_ | refine genVC_stepN rfl ?_); intro K hK) | ((first | refine hK _ _ _ ?_ | refine hK _ _ ?_ | refine hK _ ?_); clear hK K) | refine seqVC_nil ?_ | refine parVC_nil ?_ | refine parEVC_nil ?_ | refine genVC_nil ?_ | refine AWP.block ?_ | (refine AWP.cond (by with_unfolding_all rfl) ?_ ?_ <;> intro h <;> (try simp only [zM, zN] at h) <;> try exact absurd h (by decide)) | refine AWP.skip ?_ | refine AWP.ret ?_ | refine AWP.exit ?_ | refine AWP.parR mixed (by kernel_rfl) fun K hK => ?_ | refine ⟨(by kernel_rfl : depB _ _ _ = true), ?_⟩ | refine Or.inl ?_) | (clear hK K))
    all_goals (first | exact fun _ h => (by cases h) | (refine fin0 ?_; first | rfl | (simp only [hp, Bool.and_true, Bool.and_false, Bool.true_and, Bool.false_and, Bool.or_true, Bool.or_false, Bool.true_or, Bool.false_or, Bool.not_true, Bool.not_false, cond_true, cond_false, decide_true, decide_false]; done) | (simp only [hp, Bool.and_true, Bool.and_false, Bool.true_and, Bool.false_and, Bool.or_true, Bool.or_false, Bool.true_or, Bool.false_or, Bool.not_true, Bool.not_false, cond_true, cond_false, decide_true, decide_false]; rfl)))
theorem ascKey_c (g : FuncId) (f : KeyD → KeyD → Int) (l : List (KeyD)) (hg : ∀ x ∈ l, ∀ y ∈ l, PC Tryz.prog g [T.st (encKey x), T.st (encKey y)] (I .i64 (f x y))) :
    PC Tryz.prog 99 [.one (.dat (.sl 2 (l.map encKey))), .one (.dat (.fn g))] (Bo (ascB f l)) := by
  refine PCB.of_body Tryz.func99 rfl (by decide) Tryz.ntmps99 Tryz.results99 rfl rfl rfl ?_ rfl rfl
  refine AWP.len 0 rfl fun hlen => ?_
  rw [List.length_map] at hlen
  repeat' (first | (simp only [go_sem, zA, zB, zC, zD, zE, zF, zG, reduceCtorEq, zH, zI, zJ, zK, zL, List.length_map]; all_goals fail_if_success guard_target =ₛ False) | (with_reducible first | ((first | refine seqVC_stepN rfl ?_ | refine AWP.seq ?_ | refine AWP.seqR (by kernel_rfl) ?_ | refine parVC_stepN rfl ?_ | refine parEVC_stepN rfl ?_ | refine genVC_stepN rfl ?_); intro K hK) | ((first | refine hK _ _ _ ?_ | refine hK _ _ ?_ | refine hK _ ?_); clear hK K) | refine seqVC_nil ?_ | refine parVC_nil ?_ | refine parEVC_nil ?_ | refine genVC_nil ?_ | refine AWP.block ?_ | (refine AWP.cond (by with_unfolding_all rfl) ?_ ?_ <;> intro h <;> (try simp only [zM, zN] at h) <;> try exact absurd h (by decide)) | refine AWP.skip ?_ | refine AWP.ret ?_ | refine AWP.exit ?_ | refine AWP.parR mixed (by kernel_rfl) fun K hK => ?_ | refine ⟨(by kernel_rfl : depB _ _ _ = true), ?_⟩ | refine Or.inl ?_) | (clear hK K))
  refine AWP.loopF (X := Nat) (fun k => [(5, I .i64 (k + 1 : Nat))]) (fun _ => []) [0, 1] [] (fun k => k ≤ l.length ∧ ascB f l = ascB f (l.drop k)) (fun k => l.length - k) (0) (by simp only [go_sem, zA, zB, zC, zD, zE, zF, zG, reduceCtorEq, zH, zI, zJ, zK, zL]; exact Gh.to [] (by repeat (first | exact trivial | refine ⟨rfl, ?_⟩ | refine ⟨by (simp only [go_sem, zA, zB, zC, zD, zE, zF, zG, reduceCtorEq, zH, zI, zJ, zK, zL, List.length_append, List.length_map, List.length_cons, List.length_nil, Nat.zero_add]) <;> rfl, ?_⟩)) (by repeat (first | exact trivial | refine ⟨rfl, ?_⟩ | refine ⟨by (simp only [go_sem, zA, zB, zC, zD, zE, zF, zG, reduceCtorEq, zH, zI, zJ, zK, zL, List.length_append, List.length_map, List.length_cons, List.length_nil, Nat.zero_add]) <;> rfl, ?_⟩)) rfl rfl rfl) ?_ ?_
  · exact ⟨Nat.zero_le _, rfl⟩
  rintro k ⟨hk, hp⟩
  simp only [go_sem, zA, zB, zC, zD, zE, zF, zG, reduceCtorEq, zH, zI, zJ, zK, zL]
  by_cases hlt : k + 1 < l.length
  · obtain ⟨y, hy, hy', hb, _⟩ := at_lt (enc := encKey) hlt
    obtain ⟨x, hx, hx', _, _⟩ := at_lt (enc := encKey) (show k < l.length by omega)
    have hw : IntKind.i64.wrap (((k + 1 : Nat) : Int) - 1) = (k : Int) := by rw [w64 (by omega)]; omega
    have hxy := hg x (List.mem_of_getElem? hx) y (List.mem_of_getElem? hy)
    rw [ascB_step hx hy] at hp
    cases hz : decide (f x y < 0) <;> simp only [hz, Bool.true_and, Bool.false_and] at hp
    · have hz' : decide (0 ≤ f x y) = true := by simp at hz ⊢; omega
      repeat' (first | (simp only [go_sem, zA, zB, zC, zD, zE, zF, zG, reduceCtorEq, zH, zI, zJ, zK, zL, List.length_map, hb, hz', hw, cond_true]; all_goals fail_if_success guard_target =ₛ False) | (with_reducible first | ((first | refine seqVC_stepN rfl ?_ | refine AWP.seq ?_ | refine AWP.seqR (by kernel_rfl) ?_ | refine parVC_stepN rfl ?_ | refine parEVC_stepN rfl ?_ | refine genVC_stepN rfl ?_); intro K hK) | ((first | refine hK _ _ _ ?_ | refine hK _ _ ?_ | refine hK _ ?_); clear hK K) | refine seqVC_nil ?_ | refine parVC_nil ?_ | refine parEVC_nil ?_ | refine genVC_nil ?_ | refine AWP.block ?_ | (refine AWP.cond (by with_unfolding_all rfl) ?_ ?_ <;> intro h <;> (try simp only [zM, zN] at h) <;> try exact absurd h (by decide)) | refine AWP.skip ?_ | refine AWP.ret ?_ | refine AWP.exit ?_ | refine ⟨_, hxy, ?_⟩ | refine ⟨by omega, encKey x, hx', ?_⟩ | refine ⟨by omega, encKey y, hy', ?_⟩ | refine AWP.parR mixed (by kernel_rfl) fun K hK => ?_ | refine ⟨(by kernel_rfl : depB _ _ _ = true), ?_⟩ | refine Or.inl ?_) | (clear hK K))
      all_goals (first | exact fun _ h => (by cases h) | (refine fin0 ?_; first | rfl | (simp only [hp, Bool.and_true, Bool.and_false, Bool.true_and, Bool.false_and, Bool.or_true, Bool.or_false, Bool.true_or, Bool.false_or, Bool.not_true, Bool.not_false, cond_true, cond_false, decide_true, decide_false]; done) | (simp only [hp, Bool.and_true, Bool.and_false, Bool.true_and, Bool.false_and, Bool.or_true, Bool.or_false, Bool.true_or, Bool.false_or, Bool.not_true, Bool.not_false, cond_true, cond_false, decide_true, decide_false]; rfl)))
    · have hz' : decide (0 ≤ f x y) = false := by simp at hz ⊢; omega
      repeat' (first | (simp only [go_sem, zA, zB, zC, zD, zE, zF, zG, reduceCtorEq, zH, zI, zJ, zK, zL, List.length_map, hb, hz', hw, cond_true]; all_goals fail_if_success guard_target =ₛ False) | (with_reducible first | ((first | refine seqVC_stepN rfl ?_ | refine AWP.seq ?_ | refine AWP.seqR (by kernel_rfl) ?_ | refine parVC_stepN rfl ?_ | refine parEVC_stepN rfl ?_ | refine genVC_stepN rfl ?_); intro K hK) | ((first | refine hK _ _ _ ?_ | refine hK _ _ ?_ | refine hK _ ?_); clear hK K) | refine seqVC_nil ?_ | refine parVC_nil ?_ | refine parEVC_nil ?_ | refine genVC_nil ?_ | refine AWP.block ?_ | (refine AWP.cond (by with_unfolding_all rfl) ?_ ?_ <;> intro h <;> (try simp only [zM, zN] at h) <;> try exact absurd h (by decide)) | refine AWP.skip ?_ | refine AWP.ret ?_ | refine AWP.exit ?_ | refine ⟨_, hxy, ?_⟩ | refine ⟨by omega, encKey x, hx', ?_⟩ | refine ⟨by omega, encKey y, hy', ?_⟩ | refine AWP.parR mixed (by kernel_rfl) fun K hK => ?_ | refine ⟨(by kernel_rfl : depB _ _ _ = true), ?_⟩ | refine Or.inl ?_) | (clear hK K))
      all_goals (rw [wrap_succ hlt hlen])
      all_goals (refine ⟨k + 1, by omega, ⟨by omega, hp⟩, Gh.to [] (by repeat (first | exact trivial | refine ⟨rfl, ?_⟩ | refine ⟨by (simp only [go_sem, zA, zB, zC, zD, zE, zF, zG, reduceCtorEq, zH, zI, zJ, zK, zL, List.length_append, List.length_map, List.length_cons, List.length_nil, Nat.zero_add]) <;> rfl, ?_⟩)) (by repeat (first | exact trivial | refine ⟨rfl, ?_⟩ | refine ⟨by (simp only [go_sem, zA, zB, zC, zD, zE, zF, zG, reduceCtorEq, zH, zI, zJ, zK, zL, List.length_append, List.length_map, List.length_cons, List.length_nil, Nat.zero_add]) <;> rfl, ?_⟩)) rfl rfl rfl⟩)
  · have hb : decide (((k + 1 : Nat) : Int) < (l.length : Int)) = false := by simp; omega
    rw [ascB_end (by omega)] at hp
    repeat' (first | (simp only [go_sem, zA, zB, zC, zD, zE, zF, zG, reduceCtorEq, zH, zI, zJ, zK, zL, List.length_map, hb]; all_goals fail_if_success guard_target =ₛ False) | (with_reducible first | ((first | refine seqVC_stepN rfl ?_ | refine AWP.seq ?_ | refine AWP.seqR (by kernel_rfl) ?_ | refine parVC_stepN rfl ?_ | refine parEVC_stepN rfl ?_ | refine genVC_stepN rfl ?_); intro K hK) | ((first | refine hK _ _ _ ?_ | refine hK _ _ ?_ | refine hK _ ?_); clear hK K) | refine seqVC_nil ?_ | refine parVC_nil ?_ | refine parEVC_nil ?_ | refine genVC_nil ?_ | refine AWP.block ?_ | (refine AWP.cond (by with_unfolding_all rfl) ?_ ?_ <;> intro h <;> (try simp only [zM, zN] at h) <;> try exact absurd h (by decide)) | refine AWP.skip ?_ | refine AWP.ret ?_ | refine AWP.exit ?_ | refine AWP.parR mixed (by kernel_rfl) fun K hK => ?_ | refine ⟨(by kernel_rfl : depB _ _ _ = true), ?_⟩ | refine Or.inl ?_) | (clear hK K))
    all_goals (first | exact fun _ h => (by cases h) | (refine fin0 ?_; first | rfl | (simp only [hp, Bool.and_true, Bool.and_false, Bool.true_and, Bool.false_and, Bool.or_true, Bool.or_false, Bool.true_or, Bool.false_or, Bool.not_true, Bool.not_false, cond_true, cond_false, decide_true, decide_false]; done) | (simp only [hp, Bool.and_true, Bool.and_false, Bool.true_and, Bool.false_and, Bool.or_true, Bool.or_false, Bool.true_or, Bool.false_or, Bool.not_true, Bool.not_false, cond_true, cond_false, decide_true, decide_false]; rfl)))
theorem ascEnt_c (g : FuncId) (f : List Val × Bool × Val → List Val × Bool × Val → Int) (l : List (List Val × Bool × Val)) (hg : ∀ x ∈ l, ∀ y ∈ l, PC Tryz.prog g [T.st (encEnt x), T.st (encEnt y)] (I .i64 (f x y))) :
    PC Tryz.prog 101 [.one (.dat (.sl 9 (l.map encEnt))), .one (.dat (.fn g))] (Bo (ascB f l)) := by
  refine PCB.of_body Tryz.func101 rfl (by decide) Tryz.ntmps101 Tryz.results101 rfl rfl rfl ?_ rfl rfl
  refine AWP.len 0 rfl fun hlen => ?_
  rw [List.length_map] at hlen
  repeat' (first | (simp only [go_sem, zA, zB, zC, zD, zE, zF, zG, reduceCtorEq, zH, zI, zJ, zK, zL, List.length_map]; all_goals fail_if_success guard_target =ₛ False) | (with_reducible first | ((first | refine seqVC_stepN rfl ?_ | refine AWP.seq ?_ | refine AWP.seqR (by kernel_rfl) ?_ | refine parVC_stepN rfl ?_ | refine parEVC_stepN rfl ?_ | refine genVC_stepN rfl ?_); intro K hK) | ((first | refine hK _ _ _ ?_ | refine hK _ _ ?_ | refine hK _ ?_); clear hK K) | refine seqVC_nil ?_ | refine parVC_nil ?_ | refine parEVC_nil ?_ | refine genVC_nil ?_ | refine AWP.block ?_ | (refine AWP.cond (by with_unfolding_all rfl) ?_ ?_ <;> intro h <;> (try simp only [zM, zN] at h) <;> try exact absurd h (by decide)) | refine AWP.skip ?_ | refine AWP.ret ?_ | refine AWP.exit ?_ | refine AWP.parR mixed (by kernel_rfl) fun K hK => ?_ | refine ⟨(by kernel_rfl : depB _ _ _ = true), ?_⟩ | refine Or.inl ?_) | (clear hK K))
  refine AWP.loopF (X := Nat) (fun k => [(5, I .i64 (k + 1 : Nat))]) (fun _ => []) [0, 1] [] (fun k => k ≤ l.length ∧ ascB f l = ascB f (l.drop k)) (fun k => l.length - k) (0) (by simp only [go_sem, zA, zB, zC, zD, zE, zF, zG, reduceCtorEq, zH, zI, zJ, zK, zL]; exact Gh.to [] (by repeat (first | exact trivial | refine ⟨rfl, ?_⟩ | refine ⟨by (simp only [go_sem, zA, zB, zC, zD, zE, zF, zG, reduceCtorEq, zH, zI, zJ, zK, zL, List.length_append, List.length_map, List.length_cons, List.length_nil, Nat.zero_add]) <;> rfl, ?_⟩)) (by repeat (first | exact trivial | refine ⟨rfl, ?_⟩ | refine ⟨by (simp only [go_sem, zA, zB, zC, zD, zE, zF, zG, reduceCtorEq, zH, zI, zJ, zK, zL, List.length_append, List.length_map, List.length_cons, List.length_nil, Nat.zero_add]) <;> rfl, ?_⟩)) rfl rfl rfl) ?_ ?_
  · exact ⟨Nat.zero_le _, rfl⟩
  rintro k ⟨hk, hp⟩
  simp only [go_sem, zA, zB, zC, zD, zE, zF, zG, reduceCtorEq, zH, zI, zJ, zK, zL]
  by_cases hlt : k + 1 < l.length
  · obtain ⟨y, hy, hy', hb, _⟩ := at_lt (enc := encEnt) hlt
    obtain ⟨x, hx, hx', _, _⟩ := at_lt (enc := encEnt) (show k < l.length by omega)
    have hw : IntKind.i64.wrap (((k + 1 : Nat) : Int) - 1) = (k : Int) := by rw [w64 (by omega)]; omega
    have hxy := hg x (List.mem_of_getElem? hx) y (List.mem_of_getElem? hy)
    rw [ascB_step hx hy] at hp
    cases hz : decide (f x y < 0) <;> simp only [hz, Bool.true_and, Bool.false_and] at hp
    · have hz' : decide (0 ≤ f x y) = true := by simp at hz ⊢; omega
      repeat' (first | (simp only [go_sem, zA, zB, zC, zD, zE, zF, zG, reduceCtorEq, zH, zI, zJ, zK, zL, List.length_map, hb, hz', hw, cond_true]; all_goals fail_if_success guard_target =ₛ False) | (with_reducible first | ((first | refine seqVC_stepN rfl ?_ | refine AWP.seq ?_ | refine AWP.seqR (by kernel_rfl) ?_ | refine parVC_stepN rfl ?_ | refine parEVC_stepN rfl ?_ | refine genVC_stepN rfl ?_); intro K hK) | ((first | refine hK _ _ _ ?_ | refine hK _ _ ?_ | refine hK _ ?_); clear hK K) | refine seqVC_nil ?_ | refine parVC_nil ?_ | refine parEVC_nil ?_ | refine genVC_nil ?_ | refine AWP.block ?_ | (refine AWP.cond (by with_unfolding_all rfl) ?_ ?_ <;> intro h <;> (try simp only [zM, zN] at h) <;> try exact absurd h (by decide)) | refine AWP.skip ?_ | refine AWP.ret ?_ | refine AWP.exit ?_ | refine ⟨_, hxy, ?_⟩ | refine ⟨by omega, encEnt x, hx', ?_⟩ | refine ⟨by omega, encEnt y, hy', ?_⟩ | refine AWP.parR mixed (by kernel_rfl) fun K hK => ?_ | refine ⟨(by kernel_rfl : depB _ _ _ = true), ?_⟩ | refine Or.inl ?_) | (clear hK K))
      all_goals (first | exact fun _ h => (by cases h) | (refine fin0 ?_; first | rfl | (simp only [hp, Bool.and_true, Bool.and_false, Bool.true_and, Bool.false_and, Bool.or_true, Bool.or_false, Bool.true_or, Bool.false_or, Bool.not_true, Bool.not_false, cond_true, cond_false, decide_true, decide_false]; done) | (simp only [hp, Bool.and_true, Bool.and_false, Bool.true_and, Bool.false_and, Bool.or_true, Bool.or_false, Bool.true_or, Bool.false_or, Bool.not_true, Bool.not_false, cond_true, cond_false, decide_true, decide_false]; rfl)))
    · have hz' : decide (0 ≤ f x y) = false := by simp at hz ⊢; omega
      repeat' (first | (simp only [go_sem, zA, zB, zC, zD, zE, zF, zG, reduceCtorEq, zH, zI, zJ, zK, zL, List.length_map, hb, hz', hw, cond_true]; all_goals fail_if_success guard_target =ₛ False) | (with_reducible first | ((first | refine seqVC_stepN rfl ?_ | refine AWP.seq ?_ | refine AWP.seqR (by kernel_rfl) ?_ | refine parVC_stepN rfl ?_ | refine parEVC_stepN rfl ?_ | refine genVC_stepN rfl ?_); intro K hK) | ((first | refine hK _ _ _ ?_ | refine hK _ _ ?_ | refine hK _ ?_); clear hK K) | refine seqVC_nil ?_ | refine parVC_nil ?_ | refine parEVC_nil ?_ | refine genVC_nil ?_ | refine AWP.block ?_ | (refine AWP.cond (by with_unfolding_all rfl) ?_ ?_ <;> intro h <;> (try simp only [zM, zN] at h) <;> try exact absurd h (by decide)) | refine AWP.skip ?_ | refine AWP.ret ?_ | refine AWP.exit ?_ | refine ⟨_, hxy, ?_⟩ | refine ⟨by omega, encEnt x, hx', ?_⟩ | refine ⟨by omega, encEnt y, hy', ?_⟩ | refine AWP.parR mixed (by kernel_rfl) fun K hK => ?_ | refine ⟨(by kernel_rfl : depB _ _ _ = true), ?_⟩ | refine Or.inl ?_) | (clear hK K))
      all_goals (rw [wrap_succ hlt hlen])
      all_goals (refine ⟨k + 1, by omega, ⟨by omega, hp⟩, Gh.to [] (by repeat (first | exact trivial | refine ⟨rfl, ?_⟩ | refine ⟨by (simp only [go_sem, zA, zB, zC, zD, zE, zF, zG, reduceCtorEq, zH, zI, zJ, zK, zL, List.length_append, List.length_map, List.length_cons, List.length_nil, Nat.zero_add]) <;> rfl, ?_⟩)) (by repeat (first | exact trivial | refine ⟨rfl, ?_⟩ | refine ⟨by (simp only [go_sem, zA, zB, zC, zD, zE, zF, zG, reduceCtorEq, zH, zI, zJ, zK, zL, List.length_append, List.length_map, List.length_cons, List.length_nil, Nat.zero_add]) <;> rfl, ?_⟩)) rfl rfl rfl⟩)
  · have hb : decide (((k + 1 : Nat) : Int) < (l.length : Int)) = false := by simp; omega
    rw [ascB_end (by omega)] at hp
    repeat' (first | (simp only [go_sem, zA, zB, zC, zD, zE, zF, zG, reduceCtorEq, zH, zI, zJ, zK, zL, List.length_map, hb]; all_goals fail_if_success guard_target =ₛ False) | (with_reducible first | ((first | refine seqVC_stepN rfl ?_ | refine AWP.seq ?_ | refine AWP.seqR (by kernel_rfl) ?_ | refine parVC_stepN rfl ?_ | refine parEVC_stepN rfl ?_ | refine genVC_stepN rfl ?_); intro K hK) | ((first | refine hK _ _ _ ?_ | refine hK _ _ ?_ | refine hK _ ?_); clear hK K) | refine seqVC_nil ?_ | refine parVC_nil ?_ | refine parEVC_nil ?_ | refine genVC_nil ?_ | refine AWP.block ?_ | (refine AWP.cond (by with_unfolding_all rfl) ?_ ?_ <;> intro h <;> (try simp only [zM, zN] at h) <;> try exact absurd h (by decide)) | refine AWP.skip ?_ | refine AWP.ret ?_ | refine AWP.exit ?_ | refine AWP.parR mixed (by kernel_rfl) fun K hK => ?_ | refine ⟨(by kernel_rfl : depB _ _ _ = true), ?_⟩ | refine Or.inl ?_) | (clear hK K))
    all_goals (first | exact fun _ h => (by cases h) | (refine fin0 ?_; first | rfl | (simp only [hp, Bool.and_true, Bool.and_false, Bool.true_and, Bool.false_and, Bool.or_true, Bool.or_false, Bool.true_or, Bool.false_or, Bool.not_true, Bool.not_false, cond_true, cond_false, decide_true, decide_false]; done) | (simp only [hp, Bool.and_true, Bool.and_false, Bool.true_and, Bool.false_and, Bool.or_true, Bool.or_false, Bool.true_or, Bool.false_or, Bool.not_true, Bool.not_false, cond_true, cond_false, decide_true, decide_false]; rfl)))
/-- labels -/
def labelsB (l : List (List UInt8)) : Bool := ascB Lib.compareBytes l && l.all isVarB
theorem all_step {α : Type} {p : α → Bool} {l : List α} {k : Nat} {x : α} (hx : l[k]? = some x) : (l.drop k).all p = (p x && (l.drop (k + 1)).all p) := by
  obtain ⟨h1, e1⟩ := List.getElem?_eq_some_iff.1 hx
  rw [List.drop_eq_getElem_cons h1, e1, List.all_cons]
theorem all_end {α : Type} {p : α → Bool} {l : List α} : (l.drop l.length).all p = true := by rw [List.drop_length]; rfl
theorem validLabels_c (l : List (List UInt8)) : PC Tryz.prog 83 [.one (.dat (.sl 1 (l.map encStr)))] (Bo (labelsB l)) := by
  have h1 := ascStr_c 73 Lib.compareBytes l (fun x _ y _ => stringsCompare_c x y)
  refine PCB.of_body Tryz.func83 rfl (by decide) Tryz.ntmps83 Tryz.results83 rfl rfl rfl ?_ rfl rfl
  unfold labelsB
  cases ha : ascB Lib.compareBytes l
  ·
    repeat' (first | (simp only [go_sem, zA, zB, zC, zD, zE, zF, zG, reduceCtorEq, zH, zI, zJ, zK, zL, ha]; all_goals fail_if_success guard_target =ₛ False) | (with_reducible first | ((first | refine seqVC_stepN rfl ?_ | refine AWP.seq ?_ | refine AWP.seqR (by kernel_rfl) ?_); intro K hK) | ((first | refine hK _ _ _ ?_ | refine hK _ _ ?_ | refine hK _ ?_); clear hK K) | refine seqVC_nil ?_ | refine AWP.block ?_ | (refine AWP.cond (by with_unfolding_all rfl) ?_ ?_ <;> intro h <;> (try simp only [zM, zN] at h) <;> try exact absurd h (by decide)) | refine AWP.skip ?_ | refine AWP.ret ?_ | refine AWP.exit ?_ | refine ⟨_, h1, ?_⟩ | refine Or.inl ?_) | (clear hK K))
    all_goals (first | exact fun _ h => (by cases h) | (refine fin0 ?_; first | rfl | (simp only [Bool.and_true, Bool.and_false, Bool.true_and, Bool.false_and, Bool.or_true, Bool.or_false, Bool.true_or, Bool.false_or, Bool.not_true, Bool.not_false, cond_true, cond_false, decide_true, decide_false]; done) | (simp only [Bool.and_true, Bool.and_false, Bool.true_and, Bool.false_and, Bool.or_true, Bool.or_false, Bool.true_or, Bool.false_or, Bool.not_true, Bool.not_false, cond_true, cond_false, decide_true, decide_false]; rfl)))
  ·
    repeat' (first | (simp only [go_sem, zA, zB, zC, zD, zE, zF, zG, reduceCtorEq, zH, zI, zJ, zK, zL, ha, List.length_map]; all_goals fail_if_success guard_target =ₛ False) | (with_reducible first | ((first | refine seqVC_stepN rfl ?_ | refine AWP.seq ?_ | refine AWP.seqR (by kernel_rfl) ?_); intro K hK) | ((first | refine hK _ _ _ ?_ | refine hK _ _ ?_ | refine hK _ ?_); clear hK K) | refine seqVC_nil ?_ | refine AWP.block ?_ | (refine AWP.cond (by with_unfolding_all rfl) ?_ ?_ <;> intro h <;> (try simp only [zM, zN] at h) <;> try exact absurd h (by decide)) | refine AWP.skip ?_ | refine AWP.ret ?_ | refine AWP.exit ?_ | refine ⟨_, h1, ?_⟩ | refine Or.inl ?_) | (clear hK K))
    refine AWP.len 8 rfl fun hlen0 => ?_
    (try rw [List.length_map] at hlen0)
    refine AWP.range (S := Unit) (l) encStr (fun k s => (10, I .i64 (k : Nat)) :: []) (fun k s => []) [8, 9] [] (fun k s => l.all isVarB = (l.drop k).all isVarB) (()) (by simp only [go_sem, zA, zB, zC, zD, zE, zF, zG, reduceCtorEq, zH, zI, zJ, zK, zL]; exact Gh.to [] (by repeat (first | exact trivial | refine ⟨rfl, ?_⟩ | refine ⟨by (simp only [go_sem, zA, zB, zC, zD, zE, zF, zG, reduceCtorEq, zH, zI, zJ, zK, zL, List.length_append, List.length_map, List.length_cons, List.length_nil, Nat.zero_add]) <;> rfl, ?_⟩)) (by repeat (first | exact trivial | refine ⟨rfl, ?_⟩ | refine ⟨by (simp only [go_sem, zA, zB, zC, zD, zE, zF, zG, reduceCtorEq, zH, zI, zJ, zK, zL, List.length_append, List.length_map, List.length_cons, List.length_nil, Nat.zero_add]) <;> rfl, ?_⟩)) rfl rfl rfl) ?_ ?_ ?_
    · rfl
    · intro k s x hlt hx hx' hb hok
      simp only [go_sem, zA, zB, zC, zD, zE, zF, zG, reduceCtorEq, zH, zI, zJ, zK, zL]
      rw [all_step hx] at hok
      cases hz : isVarB x <;> simp only [hz, Bool.true_and, Bool.false_and] at hok
      ·
        repeat' (first | (simp only [go_sem, zA, zB, zC, zD, zE, zF, zG, reduceCtorEq, zH, zI, zJ, zK, zL, List.length_map, hb, hz, encStr]; all_goals fail_if_success guard_target =ₛ False) | (with_reducible first | ((first | refine seqVC_stepN rfl ?_ | refine AWP.seq ?_ | refine AWP.seqR (by kernel_rfl) ?_); intro K hK) | ((first | refine hK _ _ _ ?_ | refine hK _ _ ?_ | refine hK _ ?_); clear hK K) | refine seqVC_nil ?_ | refine AWP.block ?_ | (refine AWP.cond (by with_unfolding_all rfl) ?_ ?_ <;> intro h <;> (try simp only [zM, zN] at h) <;> try exact absurd h (by decide)) | refine AWP.skip ?_ | refine AWP.ret ?_ | refine AWP.exit ?_ | refine ⟨_, identIsVariable_c x, ?_⟩ | refine ⟨by omega, encStr x, hx', ?_⟩ | refine Or.inl ?_) | (clear hK K))
        all_goals (first | exact fun _ h => (by cases h) | (refine fin0 ?_; first | rfl | (simp only [hok, ha, Bool.and_true, Bool.and_false, Bool.true_and, Bool.false_and, Bool.or_true, Bool.or_false, Bool.true_or, Bool.false_or, Bool.not_true, Bool.not_false, cond_true, cond_false, decide_true, decide_false]; done) | (simp only [hok, ha, Bool.and_true, Bool.and_false, Bool.true_and, Bool.false_and, Bool.or_true, Bool.or_false, Bool.true_or, Bool.false_or, Bool.not_true, Bool.not_false, cond_true, cond_false, decide_true, decide_false]; rfl)))
      ·
        repeat' (first | (simp only [go_sem, zA, zB, zC, zD, zE, zF, zG, reduceCtorEq, zH, zI, zJ, zK, zL, List.length_map, hb, hz, encStr]; all_goals fail_if_success guard_target =ₛ False) | (with_reducible first | ((first | refine seqVC_stepN rfl ?_ | refine AWP.seq ?_ | refine AWP.seqR (by kernel_rfl) ?_); intro K hK) | ((first | refine hK _ _ _ ?_ | refine hK _ _ ?_ | refine hK _ ?_); clear hK K) | refine seqVC_nil ?_ | refine AWP.block ?_ | (refine AWP.cond (by with_unfolding_all rfl) ?_ ?_ <;> intro h <;> (try simp only [zM, zN] at h) <;> try exact absurd h (by decide)) | refine AWP.skip ?_ | refine AWP.ret ?_ | refine AWP.exit ?_ | refine ⟨_, identIsVariable_c x, ?_⟩ | refine ⟨by omega, encStr x, hx', ?_⟩ | refine Or.inl ?_) | (clear hK K))
        all_goals (rw [wrap_succ hlt hlen0])
        all_goals (refine ⟨(), ?_, Gh.to [] (by repeat (first | exact trivial | refine ⟨rfl, ?_⟩ | refine ⟨by (simp only [go_sem, zA, zB, zC, zD, zE, zF, zG, reduceCtorEq, zH, zI, zJ, zK, zL, List.length_append, List.length_map, List.length_cons, List.length_nil, Nat.zero_add]) <;> rfl, ?_⟩)) (by repeat (first | exact trivial | refine ⟨rfl, ?_⟩ | refine ⟨by (simp only [go_sem, zA, zB, zC, zD, zE, zF, zG, reduceCtorEq, zH, zI, zJ, zK, zL, List.length_append, List.length_map, List.length_cons, List.length_nil, Nat.zero_add]) <;> rfl, ?_⟩)) rfl rfl rfl⟩)
        all_goals exact hok
    · intro s hb hok
      simp only [go_sem, zA, zB, zC, zD, zE, zF, zG, reduceCtorEq, zH, zI, zJ, zK, zL]
      rw [all_end] at hok
      repeat' (first | (simp only [go_sem, zA, zB, zC, zD, zE, zF, zG, reduceCtorEq, zH, zI, zJ, zK, zL, List.length_map, hb]; all_goals fail_if_success guard_target =ₛ False) | (with_reducible first | ((first | refine seqVC_stepN rfl ?_ | refine AWP.seq ?_ | refine AWP.seqR (by kernel_rfl) ?_); intro K hK) | ((first | refine hK _ _ _ ?_ | refine hK _ _ ?_ | refine hK _ ?_); clear hK K) | refine seqVC_nil ?_ | refine AWP.block ?_ | (refine AWP.cond (by with_unfolding_all rfl) ?_ ?_ <;> intro h <;> (try simp only [zM, zN] at h) <;> try exact absurd h (by decide)) | refine AWP.skip ?_ | refine AWP.ret ?_ | refine AWP.exit ?_ | refine Or.inl ?_) | (clear hK K))
      all_goals (first | exact fun _ h => (by cases h) | (refine fin0 ?_; first | rfl | (simp only [hok, ha, Bool.and_true, Bool.and_false, Bool.true_and, Bool.false_and, Bool.or_true, Bool.or_false, Bool.true_or, Bool.false_or, Bool.not_true, Bool.not_false, cond_true, cond_false, decide_true, decide_false]; done) | (simp only [hok, ha, Bool.and_true, Bool.and_false, Bool.true_and, Bool.false_and, Bool.or_true, Bool.or_false, Bool.true_or, Bool.false_or, Bool.not_true, Bool.not_false, cond_true, cond_false, decide_true, decide_false]; rfl)))
def mapB (v : Val) : Bool := decide ((v.keys.length : Int) = (v.kids.length : Int)) && (ascB keyC v.keys && v.keys.all validKeyB)
theorem validMap_c (v : Val) : PC Tryz.prog 85 [.st (encVal v)] (Bo (mapB v)) := by
  have h1 := ascKey_c 75 keyC v.keys (fun x _ y _ => identCompareKeys_c x y)
  refine PCB.of_body Tryz.func85 rfl (by decide) Tryz.ntmps85 Tryz.results85 rfl rfl rfl ?_ rfl rfl
  unfold mapB
  cases hl : decide ((v.keys.length : Int) = (v.kids.length : Int))
  ·
    repeat' (first | (simp only [go_sem, zA, zB, zC, zD, zE, zF, zG, reduceCtorEq, zH, zI, zJ, zK, zL, encVal_eq, hl, List.length_map]; all_goals fail_if_success guard_target =ₛ False) | (with_reducible first | ((first | refine seqVC_stepN rfl ?_ | refine seqVC_stepG rfl (by with_unfolding_all rfl) ?_ | refine AWP.seq ?_ | refine AWP.seqR (by kernel_rfl) ?_); intro K hK) | ((first | refine hK _ _ _ ?_ | refine hK _ _ ?_ | refine hK _ ?_); clear hK K) | refine seqVC_nil ?_ | refine AWP.block ?_ | (refine AWP.cond (by with_unfolding_all rfl) ?_ ?_ <;> intro h <;> (try simp only [zM, zN] at h) <;> try exact absurd h (by decide)) | refine AWP.skip ?_ | refine AWP.ret ?_ | refine AWP.exit ?_ | (refine ⟨fun h => ?_, fun h => ?_⟩ <;> (try simp only [zM, zN] at h) <;> try simp only [h]) | refine Or.inl ?_) | (clear hK K))
    all_goals (first | exact fun _ h => (by cases h) | (refine fin0 ?_; first | rfl | (simp only [Bool.and_true, Bool.and_false, Bool.true_and, Bool.false_and, Bool.or_true, Bool.or_false, Bool.true_or, Bool.false_or, Bool.not_true, Bool.not_false, cond_true, cond_false, decide_true, decide_false]; done) | (simp only [Bool.and_true, Bool.and_false, Bool.true_and, Bool.false_and, Bool.or_true, Bool.or_false, Bool.true_or, Bool.false_or, Bool.not_true, Bool.not_false, cond_true, cond_false, decide_true, decide_false]; rfl)))
  cases ha : ascB keyC v.keys
  ·
    repeat' (first | (simp only [go_sem, zA, zB, zC, zD, zE, zF, zG, reduceCtorEq, zH, zI, zJ, zK, zL, encVal_eq, hl, ha, List.length_map]; all_goals fail_if_success guard_target =ₛ False) | (with_reducible first | ((first | refine seqVC_stepN rfl ?_ | refine seqVC_stepG rfl (by with_unfolding_all rfl) ?_ | refine AWP.seq ?_ | refine AWP.seqR (by kernel_rfl) ?_); intro K hK) | ((first | refine hK _ _ _ ?_ | refine hK _ _ ?_ | refine hK _ ?_); clear hK K) | refine seqVC_nil ?_ | refine AWP.block ?_ | (refine AWP.cond (by with_unfolding_all rfl) ?_ ?_ <;> intro h <;> (try simp only [zM, zN] at h) <;> try exact absurd h (by decide)) | refine AWP.skip ?_ | refine AWP.ret ?_ | refine AWP.exit ?_ | (refine ⟨fun h => ?_, fun h => ?_⟩ <;> (try simp only [zM, zN] at h) <;> try simp only [h]) | refine ⟨_, h1, ?_⟩ | refine Or.inl ?_) | (clear hK K))
    all_goals (first | exact fun _ h => (by cases h) | (refine fin0 ?_; first | rfl | (simp only [Bool.and_true, Bool.and_false, Bool.true_and, Bool.false_and, Bool.or_true, Bool.or_false, Bool.true_or, Bool.false_or, Bool.not_true, Bool.not_false, cond_true, cond_false, decide_true, decide_false]; done) | (simp only [Bool.and_true, Bool.and_false, Bool.true_and, Bool.false_and, Bool.or_true, Bool.or_false, Bool.true_or, Bool.false_or, Bool.not_true, Bool.not_false, cond_true, cond_false, decide_true, decide_false]; rfl)))
  ·
    repeat' (first | (simp only [go_sem, zA, zB, zC, zD, zE, zF, zG, reduceCtorEq, zH, zI, zJ, zK, zL, encVal_eq, hl, ha, List.length_map]; all_goals fail_if_success guard_target =ₛ False) | (with_reducible first | ((first | refine seqVC_stepN rfl ?_ | refine seqVC_stepG rfl (by with_unfolding_all rfl) ?_ | refine AWP.seq ?_ | refine AWP.seqR (by kernel_rfl) ?_); intro K hK) | ((first | refine hK _ _ _ ?_ | refine hK _ _ ?_ | refine hK _ ?_); clear hK K) | refine seqVC_nil ?_ | refine AWP.block ?_ | (refine AWP.cond (by with_unfolding_all rfl) ?_ ?_ <;> intro h <;> (try simp only [zM, zN] at h) <;> try exact absurd h (by decide)) | refine AWP.skip ?_ | refine AWP.ret ?_ | refine AWP.exit ?_ | (refine ⟨fun h => ?_, fun h => ?_⟩ <;> (try simp only [zM, zN] at h) <;> try simp only [h]) | refine ⟨_, h1, ?_⟩ | refine Or.inl ?_) | (clear hK K))
    refine AWP.len 19 rfl fun hlen0 => ?_
    (try rw [List.length_map] at hlen0)
    refine AWP.range (S := Unit) (v.keys) encKey (fun k s => (21, I .i64 (k : Nat)) :: []) (fun k s => []) [19, 20] [] (fun k s => v.keys.all validKeyB = (v.keys.drop k).all validKeyB) (()) (by simp only [go_sem, zA, zB, zC, zD, zE, zF, zG, reduceCtorEq, zH, zI, zJ, zK, zL]; exact Gh.to [] (by repeat (first | exact trivial | refine ⟨rfl, ?_⟩ | refine ⟨by (simp only [go_sem, zA, zB, zC, zD, zE, zF, zG, reduceCtorEq, zH, zI, zJ, zK, zL, List.length_append, List.length_map, List.length_cons, List.length_nil, Nat.zero_add]) <;> rfl, ?_⟩)) (by repeat (first | exact trivial | refine ⟨rfl, ?_⟩ | refine ⟨by (simp only [go_sem, zA, zB, zC, zD, zE, zF, zG, reduceCtorEq, zH, zI, zJ, zK, zL, List.length_append, List.length_map, List.length_cons, List.length_nil, Nat.zero_add]) <;> rfl, ?_⟩)) rfl rfl rfl) ?_ ?_ ?_
    · rfl
    · intro k s x hlt hx hx' hb hok
      simp only [go_sem, zA, zB, zC, zD, zE, zF, zG, reduceCtorEq, zH, zI, zJ, zK, zL]
      rw [all_step hx] at hok
      cases hz : validKeyB x <;> simp only [hz, Bool.true_and, Bool.false_and] at hok
      ·
        repeat' (first | (simp only [go_sem, zA, zB, zC, zD, zE, zF, zG, reduceCtorEq, zH, zI, zJ, zK, zL, List.length_map, hb, hz]; all_goals fail_if_success guard_target =ₛ False) | (with_reducible first | ((first | refine seqVC_stepN rfl ?_ | refine seqVC_stepG rfl (by with_unfolding_all rfl) ?_ | refine AWP.seq ?_ | refine AWP.seqR (by kernel_rfl) ?_); intro K hK) | ((first | refine hK _ _ _ ?_ | refine hK _ _ ?_ | refine hK _ ?_); clear hK K) | refine seqVC_nil ?_ | refine AWP.block ?_ | (refine AWP.cond (by with_unfolding_all rfl) ?_ ?_ <;> intro h <;> (try simp only [zM, zN] at h) <;> try exact absurd h (by decide)) | refine AWP.skip ?_ | refine AWP.ret ?_ | refine AWP.exit ?_ | (refine ⟨fun h => ?_, fun h => ?_⟩ <;> (try simp only [zM, zN] at h) <;> try simp only [h]) | refine ⟨_, identValidKey_c x, ?_⟩ | refine ⟨by omega, encKey x, hx', ?_⟩ | refine Or.inl ?_) | (clear hK K))
        all_goals (first | exact fun _ h => (by cases h) | (refine fin0 ?_; first | rfl | (simp only [hok, ha, Bool.and_true, Bool.and_false, Bool.true_and, Bool.false_and, Bool.or_true, Bool.or_false, Bool.true_or, Bool.false_or, Bool.not_true, Bool.not_false, cond_true, cond_false, decide_true, decide_false]; done) | (simp only [hok, ha, Bool.and_true, Bool.and_false, Bool.true_and, Bool.false_and, Bool.or_true, Bool.or_false, Bool.true_or, Bool.false_or, Bool.not_true, Bool.not_false, cond_true, cond_false, decide_true, decide_false]; rfl)))
      ·
        repeat' (first | (simp only [go_sem, zA, zB, zC, zD, zE, zF, zG, reduceCtorEq, zH, zI, zJ, zK, zL, List.length_map, hb, hz]; all_goals fail_if_success guard_target =ₛ False) | (with_reducible first | ((first | refine seqVC_stepN rfl ?_ | refine seqVC_stepG rfl (by with_unfolding_all rfl) ?_ | refine AWP.seq ?_ | refine AWP.seqR (by kernel_rfl) ?_); intro K hK) | ((first | refine hK _ _ _ ?_ | refine hK _ _ ?_ | refine hK _ ?_); clear hK K) | refine seqVC_nil ?_ | refine AWP.block ?_ | (refine AWP.cond (by with_unfolding_all rfl) ?_ ?_ <;> intro h <;> (try simp only [zM, zN] at h) <;> try exact absurd h (by decide)) | refine AWP.skip ?_ | refine AWP.ret ?_ | refine AWP.exit ?_ | (refine ⟨fun h => ?_, fun h => ?_⟩ <;> (try simp only [zM, zN] at h) <;> try simp only [h]) | refine ⟨_, identValidKey_c x, ?_⟩ | refine ⟨by omega, encKey x, hx', ?_⟩ | refine Or.inl ?_) | (clear hK K))
        all_goals (rw [wrap_succ hlt hlen0])
        all_goals (refine ⟨(), ?_, Gh.to [] (by repeat (first | exact trivial | refine ⟨rfl, ?_⟩ | refine ⟨by (simp only [go_sem, zA, zB, zC, zD, zE, zF, zG, reduceCtorEq, zH, zI, zJ, zK, zL, List.length_append, List.length_map, List.length_cons, List.length_nil, Nat.zero_add]) <;> rfl, ?_⟩)) (by repeat (first | exact trivial | refine ⟨rfl, ?_⟩ | refine ⟨by (simp only [go_sem, zA, zB, zC, zD, zE, zF, zG, reduceCtorEq, zH, zI, zJ, zK, zL, List.length_append, List.length_map, List.length_cons, List.length_nil, Nat.zero_add]) <;> rfl, ?_⟩)) rfl rfl rfl⟩)
        all_goals exact hok
    · intro s hb hok
      simp only [go_sem, zA, zB, zC, zD, zE, zF, zG, reduceCtorEq, zH, zI, zJ, zK, zL]
      rw [all_end] at hok
      repeat' (first | (simp only [go_sem, zA, zB, zC, zD, zE, zF, zG, reduceCtorEq, zH, zI, zJ, zK, zL, List.length_map, hb]; all_goals fail_if_success guard_target =ₛ False) | (with_reducible first | ((first | refine seqVC_stepN rfl ?_ | refine seqVC_stepG rfl (by with_unfolding_all rfl) ?_ | refine AWP.seq ?_ | refine AWP.seqR (by kernel_rfl) ?_); intro K hK) | ((first | refine hK _ _ _ ?_ | refine hK _ _ ?_ | refine hK _ ?_); clear hK K) | refine seqVC_nil ?_ | refine AWP.block ?_ | (refine AWP.cond (by with_unfolding_all rfl) ?_ ?_ <;> intro h <;> (try simp only [zM, zN] at h) <;> try exact absurd h (by decide)) | refine AWP.skip ?_ | refine AWP.ret ?_ | refine AWP.exit ?_ | (refine ⟨fun h => ?_, fun h => ?_⟩ <;> (try simp only [zM, zN] at h) <;> try simp only [h]) | refine Or.inl ?_) | (clear hK K))
      all_goals (first | exact fun _ h => (by cases h) | (refine fin0 ?_; first | rfl | (simp only [hok, ha, Bool.and_true, Bool.and_false, Bool.true_and, Bool.false_and, Bool.or_true, Bool.or_false, Bool.true_or, Bool.false_or, Bool.not_true, Bool.not_false, cond_true, cond_false, decide_true, decide_false]; done) | (simp only [hok, ha, Bool.and_true, Bool.and_false, Bool.true_and, Bool.false_and, Bool.or_true, Bool.or_false, Bool.true_or, Bool.false_or, Bool.not_true, Bool.not_false, cond_true, cond_false, decide_true, decide_false]; rfl)))
def zeroVal : Val := ⟨0, 0, [], [], [], [], []⟩
theorem zeroVal_lit : encVal zeroVal = [.int .i64 0, .int .i64 0, .str [], .sl 7 [], .sl 2 [], .sl 9 [], .sl 1 []] := by rw [encVal_eq]; rfl
def isZeroB (v : Val) : Bool := decide (valC v zeroVal = 0)
theorem isZero_c (v : Val) : PC Tryz.prog 106 [.st (encVal v)] (Bo (isZeroB v)) := by
  have h1 := equal_c v zeroVal
  rw [zeroVal_lit] at h1
  refine PCB.of_body Tryz.func106 rfl (by decide) Tryz.ntmps106 Tryz.results106 rfl rfl rfl ?_ rfl rfl
  repeat' (first | (simp only [go_sem, zA, zB, zC, zD, zE, zF, zG, reduceCtorEq, zH, zI, zJ, zK, zL]; all_goals fail_if_success guard_target =ₛ False) | (with_reducible first | ((first | refine seqVC_stepN rfl ?_ | refine AWP.seq ?_ | refine AWP.seqR (by kernel_rfl) ?_); intro K hK) | ((first | refine hK _ _ _ ?_ | refine hK _ _ ?_ | refine hK _ ?_); clear hK K) | refine seqVC_nil ?_ | refine AWP.block ?_ | (refine AWP.cond (by with_unfolding_all rfl) ?_ ?_ <;> intro h <;> (try simp only [zM, zN] at h) <;> try exact absurd h (by decide)) | refine AWP.skip ?_ | refine AWP.ret ?_ | refine AWP.exit ?_ | refine ⟨_, h1, ?_⟩ | refine Or.inl ?_) | (clear hK K))
  all_goals (first | exact fun _ h => (by cases h) | refine fin0 ?_)
  all_goals rfl
def entB (e : List Val × Bool × Val) (n : Int) : Bool := decide ((e.1.length : Int) = n) && (!e.2.1 || isZeroB e.2.2)
theorem validEntry_c (e : List Val × Bool × Val) (n : Int) : PC Tryz.prog 102 [.st (encEnt e), I .i64 n] (Bo (entB e n)) := by
  have h1 := isZero_c e.2.2
  rw [encVal_eq] at h1
  refine PCB.of_body Tryz.func102 rfl (by decide) Tryz.ntmps102 Tryz.results102 rfl rfl rfl ?_ rfl rfl
  unfold entB
  cases hl : decide ((e.1.length : Int) = n) <;> cases hf : e.2.1
  all_goals
    repeat' (first | (simp only [go_sem, zA, zB, zC, zD, zE, zF, zG, reduceCtorEq, zH, zI, zJ, zK, zL, encEnt_eq, hl, hf, List.length_map]; all_goals fail_if_success guard_target =ₛ False) | (with_reducible first | ((first | refine seqVC_stepN rfl ?_ | refine seqVC_stepG rfl (by with_unfolding_all rfl) ?_ | refine AWP.seq ?_ | refine AWP.seqR (by kernel_rfl) ?_); intro K hK) | ((first | refine hK _ _ _ ?_ | refine hK _ _ ?_ | refine hK _ ?_); clear hK K) | refine seqVC_nil ?_ | refine AWP.block ?_ | (refine AWP.cond (by with_unfolding_all rfl) ?_ ?_ <;> intro h <;> (try simp only [zM, zN] at h) <;> try exact absurd h (by decide)) | refine AWP.skip ?_ | refine AWP.ret ?_ | refine AWP.exit ?_ | (refine ⟨fun h => ?_, fun h => ?_⟩ <;> (try simp only [zM, zN] at h) <;> try simp only [h]) | refine ⟨_, h1, ?_⟩ | refine Or.inl ?_) | (clear hK K))
  all_goals (first | exact fun _ h => (by cases h) | (refine fin0 ?_; first | rfl | (simp only [Bool.and_true, Bool.and_false, Bool.true_and, Bool.false_and, Bool.or_true, Bool.or_false, Bool.true_or, Bool.false_or, Bool.not_true, Bool.not_false, cond_true, cond_false, decide_true, decide_false]; done) | (simp only [Bool.and_true, Bool.and_false, Bool.true_and, Bool.false_and, Bool.or_true, Bool.or_false, Bool.true_or, Bool.false_or, Bool.not_true, Bool.not_false, cond_true, cond_false, decide_true, decide_false]; rfl)))
def funB (v : Val) : Bool := !(decide (v.num < 0) || (decide (4 < v.num) || !ascB entC v.ents)) && v.ents.all fun e => entB e v.num
theorem validFunction_c (v : Val) : PC Tryz.prog 86 [.st (encVal v)] (Bo (funB v)) := by
  have h1 := ascEnt_c 78 entC v.ents (fun x _ y _ => compareEntries_c x y (fun a _ b => compare_c a b) (fun b => compare_c _ b))
  refine PCB.of_body Tryz.func86 rfl (by decide) Tryz.ntmps86 Tryz.results86 rfl rfl rfl ?_ rfl rfl
  unfold funB
  cases hn : decide (v.num < 0)
  · cases hm : decide (4 < v.num)
    · cases ha : ascB entC v.ents
      ·
        repeat' (first | (simp only [go_sem, zA, zB, zC, zD, zE, zF, zG, reduceCtorEq, zH, zI, zJ, zK, zL, encVal_eq, hn, hm, ha, List.length_map]; all_goals fail_if_success guard_target =ₛ False) | (with_reducible first | ((first | refine seqVC_stepN rfl ?_ | refine seqVC_stepG rfl (by with_unfolding_all rfl) ?_ | refine AWP.seq ?_ | refine AWP.seqR (by kernel_rfl) ?_); intro K hK) | ((first | refine hK _ _ _ ?_ | refine hK _ _ ?_ | refine hK _ ?_); clear hK K) | refine seqVC_nil ?_ | refine AWP.block ?_ | (refine AWP.cond (by with_unfolding_all rfl) ?_ ?_ <;> intro h <;> (try simp only [zM, zN] at h) <;> try exact absurd h (by decide)) | refine AWP.skip ?_ | refine AWP.ret ?_ | refine AWP.exit ?_ | (refine ⟨fun h => ?_, fun h => ?_⟩ <;> (try simp only [zM, zN] at h) <;> try simp only [h]) | refine ⟨_, h1, ?_⟩ | refine Or.inl ?_) | (clear hK K))
        all_goals (first | exact fun _ h => (by cases h) | (refine fin0 ?_; first | rfl | (simp only [Bool.and_true, Bool.and_false, Bool.true_and, Bool.false_and, Bool.or_true, Bool.or_false, Bool.true_or, Bool.false_or, Bool.not_true, Bool.not_false, cond_true, cond_false, decide_true, decide_false]; done) | (simp only [Bool.and_true, Bool.and_false, Bool.true_and, Bool.false_and, Bool.or_true, Bool.or_false, Bool.true_or, Bool.false_or, Bool.not_true, Bool.not_false, cond_true, cond_false, decide_true, decide_false]; rfl)))
      ·
        repeat' (first | (simp only [go_sem, zA, zB, zC, zD, zE, zF, zG, reduceCtorEq, zH, zI, zJ, zK, zL, encVal_eq, hn, hm, ha, List.length_map]; all_goals fail_if_success guard_target =ₛ False) | (with_reducible first | ((first | refine seqVC_stepN rfl ?_ | refine seqVC_stepG rfl (by with_unfolding_all rfl) ?_ | refine AWP.seq ?_ | refine AWP.seqR (by kernel_rfl) ?_); intro K hK) | ((first | refine hK _ _ _ ?_ | refine hK _ _ ?_ | refine hK _ ?_); clear hK K) | refine seqVC_nil ?_ | refine AWP.block ?_ | (refine AWP.cond (by with_unfolding_all rfl) ?_ ?_ <;> intro h <;> (try simp only [zM, zN] at h) <;> try exact absurd h (by decide)) | refine AWP.skip ?_ | refine AWP.ret ?_ | refine AWP.exit ?_ | (refine ⟨fun h => ?_, fun h => ?_⟩ <;> (try simp only [zM, zN] at h) <;> try simp only [h]) | refine ⟨_, h1, ?_⟩ | refine Or.inl ?_) | (clear hK K))
        refine AWP.len 20 rfl fun hlen0 => ?_
        (try rw [List.length_map] at hlen0)
        refine AWP.range (S := Unit) (v.ents) encEnt (fun k s => (22, I .i64 (k : Nat)) :: []) (fun k s => []) [1, 20, 21] [1] (fun k s => (v.ents.all fun e => entB e v.num) = ((v.ents.drop k).all fun e => entB e v.num)) (()) (by simp only [go_sem, zA, zB, zC, zD, zE, zF, zG, reduceCtorEq, zH, zI, zJ, zK, zL, encVal_eq]; exact Gh.to [] (by repeat (first | exact trivial | refine ⟨rfl, ?_⟩ | refine ⟨by (simp only [go_sem, zA, zB, zC, zD, zE, zF, zG, reduceCtorEq, zH, zI, zJ, zK, zL, List.length_append, List.length_map, List.length_cons, List.length_nil, Nat.zero_add]) <;> rfl, ?_⟩)) (by repeat (first | exact trivial | refine ⟨rfl, ?_⟩ | refine ⟨by (simp only [go_sem, zA, zB, zC, zD, zE, zF, zG, reduceCtorEq, zH, zI, zJ, zK, zL, List.length_append, List.length_map, List.length_cons, List.length_nil, Nat.zero_add]) <;> rfl, ?_⟩)) rfl rfl rfl) ?_ ?_ ?_
        · rfl
        · intro k s x hlt hx hx' hb hok
          simp only [go_sem, zA, zB, zC, zD, zE, zF, zG, reduceCtorEq, zH, zI, zJ, zK, zL]
          rw [all_step hx] at hok
          cases hz : entB x v.num <;> simp only [hz, Bool.true_and, Bool.false_and] at hok
          ·
            repeat' (first | (simp only [go_sem, zA, zB, zC, zD, zE, zF, zG, reduceCtorEq, zH, zI, zJ, zK, zL, List.length_map, hb, hz, encVal_eq]; all_goals fail_if_success guard_target =ₛ False) | (with_reducible first | ((first | refine seqVC_stepN rfl ?_ | refine seqVC_stepG rfl (by with_unfolding_all rfl) ?_ | refine AWP.seq ?_ | refine AWP.seqR (by kernel_rfl) ?_); intro K hK) | ((first | refine hK _ _ _ ?_ | refine hK _ _ ?_ | refine hK _ ?_); clear hK K) | refine seqVC_nil ?_ | refine AWP.block ?_ | (refine AWP.cond (by with_unfolding_all rfl) ?_ ?_ <;> intro h <;> (try simp only [zM, zN] at h) <;> try exact absurd h (by decide)) | refine AWP.skip ?_ | refine AWP.ret ?_ | refine AWP.exit ?_ | (refine ⟨fun h => ?_, fun h => ?_⟩ <;> (try simp only [zM, zN] at h) <;> try simp only [h]) | refine ⟨_, validEntry_c x v.num, ?_⟩ | refine ⟨by omega, encEnt x, hx', ?_⟩ | refine Or.inl ?_) | (clear hK K))
            all_goals (first | exact fun _ h => (by cases h) | (refine fin0 ?_; first | rfl | (simp only [hok, ha, Bool.and_true, Bool.and_false, Bool.true_and, Bool.false_and, Bool.or_true, Bool.or_false, Bool.true_or, Bool.false_or, Bool.not_true, Bool.not_false, cond_true, cond_false, decide_true, decide_false]; done) | (simp only [hok, ha, Bool.and_true, Bool.and_false, Bool.true_and, Bool.false_and, Bool.or_true, Bool.or_false, Bool.true_or, Bool.false_or, Bool.not_true, Bool.not_false, cond_true, cond_false, decide_true, decide_false]; rfl)))
          ·
            repeat' (first | (simp only [go_sem, zA, zB, zC, zD, zE, zF, zG, reduceCtorEq, zH, zI, zJ, zK, zL, List.length_map, hb, hz, encVal_eq]; all_goals fail_if_success guard_target =ₛ False) | (with_reducible first | ((first | refine seqVC_stepN rfl ?_ | refine seqVC_stepG rfl (by with_unfolding_all rfl) ?_ | refine AWP.seq ?_ | refine AWP.seqR (by kernel_rfl) ?_); intro K hK) | ((first | refine hK _ _ _ ?_ | refine hK _ _ ?_ | refine hK _ ?_); clear hK K) | refine seqVC_nil ?_ | refine AWP.block ?_ | (refine AWP.cond (by with_unfolding_all rfl) ?_ ?_ <;> intro h <;> (try simp only [zM, zN] at h) <;> try exact absurd h (by decide)) | refine AWP.skip ?_ | refine AWP.ret ?_ | refine AWP.exit ?_ | (refine ⟨fun h => ?_, fun h => ?_⟩ <;> (try simp only [zM, zN] at h) <;> try simp only [h]) | refine ⟨_, validEntry_c x v.num, ?_⟩ | refine ⟨by omega, encEnt x, hx', ?_⟩ | refine Or.inl ?_) | (clear hK K))
            all_goals (rw [wrap_succ hlt hlen0])
            all_goals (refine ⟨(), ?_, Gh.to [] (by repeat (first | exact trivial | refine ⟨rfl, ?_⟩ | refine ⟨by (simp only [go_sem, zA, zB, zC, zD, zE, zF, zG, reduceCtorEq, zH, zI, zJ, zK, zL, List.length_append, List.length_map, List.length_cons, List.length_nil, Nat.zero_add]) <;> rfl, ?_⟩)) (by repeat (first | exact trivial | refine ⟨rfl, ?_⟩ | refine ⟨by (simp only [go_sem, zA, zB, zC, zD, zE, zF, zG, reduceCtorEq, zH, zI, zJ, zK, zL, List.length_append, List.length_map, List.length_cons, List.length_nil, Nat.zero_add]) <;> rfl, ?_⟩)) rfl rfl rfl⟩)
            all_goals exact hok
        · intro s hb hok
          simp only [go_sem, zA, zB, zC, zD, zE, zF, zG, reduceCtorEq, zH, zI, zJ, zK, zL]
          rw [all_end] at hok
          repeat' (first | (simp only [go_sem, zA, zB, zC, zD, zE, zF, zG, reduceCtorEq, zH, zI, zJ, zK, zL, List.length_map, hb]; all_goals fail_if_success guard_target =ₛ False) | (with_reducible first | ((first | refine seqVC_stepN rfl ?_ | refine seqVC_stepG rfl (by with_unfolding_all rfl) ?_ | refine AWP.seq ?_ | refine AWP.seqR (by kernel_rfl) ?_); intro K hK) | ((first | refine hK _ _ _ ?_ | refine hK _ _ ?_ | refine hK _ ?_); clear hK K) | refine seqVC_nil ?_ | refine AWP.block ?_ | (refine AWP.cond (by with_unfolding_all rfl) ?_ ?_ <;> intro h <;> (try simp only [zM, zN] at h) <;> try exact absurd h (by decide)) | refine AWP.skip ?_ | refine AWP.ret ?_ | refine AWP.exit ?_ | (refine ⟨fun h => ?_, fun h => ?_⟩ <;> (try simp only [zM, zN] at h) <;> try simp only [h]) | refine Or.inl ?_) | (clear hK K))
          all_goals (first | exact fun _ h => (by cases h) | (refine fin0 ?_; first | rfl | (simp only [hok, ha, Bool.and_true, Bool.and_false, Bool.true_and, Bool.false_and, Bool.or_true, Bool.or_false, Bool.true_or, Bool.false_or, Bool.not_true, Bool.not_false, cond_true, cond_false, decide_true, decide_false]; done) | (simp only [hok, ha, Bool.and_true, Bool.and_false, Bool.true_and, Bool.false_and, Bool.or_true, Bool.or_false, Bool.true_or, Bool.false_or, Bool.not_true, Bool.not_false, cond_true, cond_false, decide_true, decide_false]; rfl)))
    ·
      repeat' (first | (simp only [go_sem, zA, zB, zC, zD, zE, zF, zG, reduceCtorEq, zH, zI, zJ, zK, zL, encVal_eq, hn, hm]; all_goals fail_if_success guard_target =ₛ False) | (with_reducible first | ((first | refine seqVC_stepN rfl ?_ | refine seqVC_stepG rfl (by with_unfolding_all rfl) ?_ | refine AWP.seq ?_ | refine AWP.seqR (by kernel_rfl) ?_); intro K hK) | ((first | refine hK _ _ _ ?_ | refine hK _ _ ?_ | refine hK _ ?_); clear hK K) | refine seqVC_nil ?_ | refine AWP.block ?_ | (refine AWP.cond (by with_unfolding_all rfl) ?_ ?_ <;> intro h <;> (try simp only [zM, zN] at h) <;> try exact absurd h (by decide)) | refine AWP.skip ?_ | refine AWP.ret ?_ | refine AWP.exit ?_ | (refine ⟨fun h => ?_, fun h => ?_⟩ <;> (try simp only [zM, zN] at h) <;> try simp only [h]) | refine Or.inl ?_) | (clear hK K))
      all_goals (first | exact fun _ h => (by cases h) | (refine fin0 ?_; first | rfl | (simp only [Bool.and_true, Bool.and_false, Bool.true_and, Bool.false_and, Bool.or_true, Bool.or_false, Bool.true_or, Bool.false_or, Bool.not_true, Bool.not_false, cond_true, cond_false, decide_true, decide_false]; done) | (simp only [Bool.and_true, Bool.and_false, Bool.true_and, Bool.false_and, Bool.or_true, Bool.or_false, Bool.true_or, Bool.false_or, Bool.not_true, Bool.not_false, cond_true, cond_false, decide_true, decide_false]; rfl)))
  ·
    repeat' (first | (simp only [go_sem, zA, zB, zC, zD, zE, zF, zG, reduceCtorEq, zH, zI, zJ, zK, zL, encVal_eq, hn]; all_goals fail_if_success guard_target =ₛ False) | (with_reducible first | ((first | refine seqVC_stepN rfl ?_ | refine seqVC_stepG rfl (by with_unfolding_all rfl) ?_ | refine AWP.seq ?_ | refine AWP.seqR (by kernel_rfl) ?_); intro K hK) | ((first | refine hK _ _ _ ?_ | refine hK _ _ ?_ | refine hK _ ?_); clear hK K) | refine seqVC_nil ?_ | refine AWP.block ?_ | (refine AWP.cond (by with_unfolding_all rfl) ?_ ?_ <;> intro h <;> (try simp only [zM, zN] at h) <;> try exact absurd h (by decide)) | refine AWP.skip ?_ | refine AWP.ret ?_ | refine AWP.exit ?_ | (refine ⟨fun h => ?_, fun h => ?_⟩ <;> (try simp only [zM, zN] at h) <;> try simp only [h]) | refine Or.inl ?_) | (clear hK K))
    all_goals (first | exact fun _ h => (by cases h) | (refine fin0 ?_; first | rfl | (simp only [Bool.and_true, Bool.and_false, Bool.true_and, Bool.false_and, Bool.or_true, Bool.or_false, Bool.true_or, Bool.false_or, Bool.not_true, Bool.not_false, cond_true, cond_false, decide_true, decide_false]; done) | (simp only [Bool.and_true, Bool.and_false, Bool.true_and, Bool.false_and, Bool.or_true, Bool.or_false, Bool.true_or, Bool.false_or, Bool.not_true, Bool.not_false, cond_true, cond_false, decide_true, decide_false]; rfl)))
mutual
def bulkV : Val → Nat
  | ⟨_, _, _, kids, keys, ents, labels⟩ => 1 + bulkVs kids + keys.length + bulkEs ents + labels.length
def bulkVs : List Val → Nat
  | [] => 0
  | v :: l => bulkV v + bulkVs l
def bulkE : List Val × Bool × Val → Nat
  | (a, _, r) => 1 + bulkVs a + bulkV r
def bulkEs : List (List Val × Bool × Val) → Nat
  | [] => 0
  | e :: l => bulkE e + bulkEs l
end
theorem bulkV_eq (v : Val) : bulkV v = 1 + bulkVs v.kids + v.keys.length + bulkEs v.ents + v.labels.length := by cases v; simp only [bulkV]
theorem bulkE_eq (e : List Val × Bool × Val) : bulkE e = 1 + bulkVs e.1 + bulkV e.2.2 := by obtain ⟨a, f, r⟩ := e; simp only [bulkE]
theorem bulkV_pos (v : Val) : 1 ≤ bulkV v := by rw [bulkV_eq]; omega
theorem bulkVs_len : ∀ l : List Val, l.length ≤ bulkVs l
  | [] => by simp [bulkVs]
  | v :: l => by have := bulkVs_len l; have := bulkV_pos v; simp only [bulkVs, List.length_cons]; omega
theorem bulkVs_mem : ∀ {l : List Val} {v : Val}, v ∈ l → bulkV v ≤ bulkVs l
  | w :: l, v, h => by
    simp only [bulkVs]
    rcases List.mem_cons.1 h with rfl | h
    · omega
    · have := bulkVs_mem h; omega
theorem bulkEs_mem : ∀ {l : List (List Val × Bool × Val)} {e : List Val × Bool × Val}, e ∈ l → bulkE e ≤ bulkEs l
  | w :: l, e, h => by
    simp only [bulkEs]
    rcases List.mem_cons.1 h with rfl | h
    · omega
    · have := bulkEs_mem h; omega
theorem bulkVs_append : ∀ a b : List Val, bulkVs (a ++ b) = bulkVs a + bulkVs b
  | [], b => by simp [bulkVs]
  | v :: a, b => by simp only [List.cons_append, bulkVs, bulkVs_append a b]; omega
abbrev Sm (v : Val) : Prop := bulkV v ≤ 100000000
theorem Sm.kids {v : Val} (h : Sm v) : v.kids.length ≤ 100000000 := by unfold Sm at h; have := bulkV_eq v; have := bulkVs_len v.kids; omega
theorem Sm.kid {v : Val} (h : Sm v) : ∀ k ∈ v.kids, Sm k := fun k hk => by unfold Sm at *; have := bulkV_eq v; have := bulkVs_mem hk; omega
theorem Sm.keys {v : Val} (h : Sm v) : v.keys.length ≤ 100000000 := by unfold Sm at h; have := bulkV_eq v; omega
/-- the values directly below -/
def partE (e : List Val × Bool × Val) : List Val := bif e.2.1 then e.1 else e.1 ++ [e.2.2]
def partsV (v : Val) : List Val := v.kids ++ v.ents.flatMap partE
theorem bulk_partE (e : List Val × Bool × Val) : bulkVs (partE e) ≤ bulkE e := by
  unfold partE; rw [bulkE_eq]
  cases e.2.1 <;> simp only [cond_true, cond_false, bulkVs_append, bulkVs] <;> omega
theorem bulk_flat : ∀ l : List (List Val × Bool × Val), bulkVs (l.flatMap partE) ≤ bulkEs l
  | [] => by simp [bulkVs]
  | e :: l => by have := bulk_flat l; have := bulk_partE e; simp only [List.flatMap_cons, bulkVs_append, bulkEs]; omega
theorem bulk_parts (v : Val) : bulkVs (partsV v) + 1 ≤ bulkV v := by
  have := bulk_flat v.ents
  rw [bulkV_eq, partsV, bulkVs_append]; omega
theorem bulk_part {v p : Val} (h : p ∈ partsV v) : bulkV p < bulkV v := by
  have := bulk_parts v; have := bulkVs_mem h; omega
theorem cloneVals_n (l : List Val) (hl : l.length ≤ 100000000) : PCN Tryz.prog 87 [.one (.dat (.sl 7 (l.map encVal)))] (.one (.own 0 l.length)) (.row 7 (l.map encVal)) := by
  refine PCN.of_body 7 Tryz.func87 rfl (by decide) Tryz.ntmps87 Tryz.results87 rfl rfl ?_
  refine AWP.ghQ ?_
  repeat' (first | ( refine AWP.nilR (e := 28) rfl (by decide) (by decide) rfl (fun hnil => ?_) ?_) | (simp only [go_sem, zA, zB, zC, zD, zE, zF, zG, reduceCtorEq, zH, zI, zJ, zK, zL, List.length_map]; all_goals fail_if_success guard_target =ₛ False) | (with_reducible first | ((first | refine seqVC_stepN rfl ?_ | refine AWP.seq ?_ | refine AWP.seqR (by kernel_rfl) ?_); intro K hK) | ((first | refine hK _ _ _ ?_ | refine hK _ _ ?_ | refine hK _ ?_); clear hK K) | refine seqVC_nil ?_ | refine AWP.block ?_ | (refine AWP.cond (by with_unfolding_all rfl) ?_ ?_ <;> intro h <;> (try simp only [zM, zN] at h) <;> try exact absurd h (by decide)) | refine AWP.skip ?_ | refine AWP.ret ?_ | refine AWP.exit ?_ | (refine Or.inr (show vBuildOwn _ 5 _ _ _ _ _ _ from ?_); unfold vBuildOwn; with_reducible refine Or.inr ?_; simp only [vBuildRow, go_sem, zA, zB, zC, zD, zE, zF, zG, reduceCtorEq, zH, zI, zJ, zK, zL, List.length_map]) | refine ⟨(by omega : _ ≤ _), ?_⟩ | refine Or.inl ?_) | (clear hK K))
  · refine GhQ.step (Gh.nilrow 2 7 rfl rfl rfl rfl) ?_
    refine ⟨_, Gh.refl _, ?_⟩
    have : l = [] := by simpa using hnil
    subst this
    simp only [go_sem, zA, zB, zC, zD, zE, zF, zG, reduceCtorEq, zH, zI, zJ, zK, zL, List.map_nil, List.length_nil]
    first | exact ⟨rfl, fun x hx => hx⟩ | exact fun x hx => hx
  · refine ⟨_, Gh.refl _, ?_⟩
    simp only [go_sem, zA, zB, zC, zD, zE, zF, zG, reduceCtorEq, zH, zI, zJ, zK, zL, List.length_map]
    first | exact ⟨rfl, fun x hx => hx⟩ | exact fun x hx => hx
theorem flat_take {l : List (List Val × Bool × Val)} {k : Nat} {x : List Val × Bool × Val} (hx : l[k]? = some x) : (l.take (k + 1)).flatMap partE = (l.take k).flatMap partE ++ partE x := by
  rw [List.take_add_one, hx]; simp
theorem flat_len {l : List (List Val × Bool × Val)} (k : Nat) : ((l.take k).flatMap partE).length ≤ bulkEs l := by
  have h1 := bulkVs_len ((l.take k).flatMap partE)
  have h2 := bulk_flat (l.take k)
  have h3 : ∀ (l : List (List Val × Bool × Val)) (k : Nat), bulkEs (l.take k) ≤ bulkEs l := by
    intro l
    induction l with
    | nil => intro k; simp
    | cons a l ih => intro k; cases k with
      | zero => simp [bulkEs]
      | succ k => have := ih k; simp only [List.take_succ_cons, bulkEs]; omega
  have := h3 l k
  omega
theorem val_snoc' (l : List Val) (x : Val) : l.map encVal ++ [[.int .i64 x.kind, .int .i64 x.num, .str x.text, .sl 7 (x.kids.map encVal), .sl 2 (x.keys.map encKey), .sl 9 (x.ents.map encEnt), .sl 1 (x.labels.map encStr)]] = (l ++ [x]).map encVal := by rw [← encVal_eq]; simp
theorem val_app (l m : List Val) : l.map encVal ++ m.map encVal = (l ++ m).map encVal := by simp
theorem parts_c (v : Val) (hv : Sm v) : PC Tryz.prog 67 [.st (encVal v)] (.one (.dat (.sl 7 ((partsV v).map encVal)))) := by
  have hk := hv.kids
  have hb0 := bulkV_eq v
  have hb1 := bulkVs_len v.kids
  unfold Sm at hv
  refine PCB.of_body Tryz.func67 rfl (by decide) Tryz.ntmps67 Tryz.results67 rfl rfl rfl ?_ rfl rfl
  refine AWP.ghQ ?_
  repeat' (first | (simp only [go_sem, zA, zB, zC, zD, zE, zF, zG, reduceCtorEq, zH, zI, zJ, zK, zL, encVal_eq, List.length_map]; all_goals fail_if_success guard_target =ₛ False) | (with_reducible first | ((first | refine seqVC_stepN rfl ?_ | refine AWP.seq ?_ | refine AWP.seqR (by kernel_rfl) ?_); intro K hK) | ((first | refine hK _ _ _ ?_ | refine hK _ _ ?_ | refine hK _ ?_); clear hK K) | refine seqVC_nil ?_ | refine AWP.block ?_ | (refine AWP.cond (by with_unfolding_all rfl) ?_ ?_ <;> intro h <;> (try simp only [zM, zN] at h) <;> try exact absurd h (by decide)) | refine AWP.skip ?_ | refine AWP.ret ?_ | refine AWP.exit ?_ | refine Or.inr ⟨_, _, cloneVals_n v.kids hk, ?_⟩ | refine Or.inl ?_) | (clear hK K))
  refine AWP.len 10 rfl fun hlen0 => ?_
  (try rw [List.length_map] at hlen0)
  refine AWP.range (S := List Val) (v.ents) encEnt (fun k s => (12, I .i64 (k : Nat)) :: [(3, .one (.own 8 s.length))]) (fun k s => [(8, .row 7 (s.map encVal))]) [10, 11] [] (fun k s => Is s (v.kids ++ (v.ents.take k).flatMap partE)) (v.kids) (by simp only [go_sem, zA, zB, zC, zD, zE, zF, zG, reduceCtorEq, zH, zI, zJ, zK, zL, encVal_eq]; exact Gh.to [] (by repeat (first | exact trivial | refine ⟨rfl, ?_⟩ | refine ⟨by (simp only [go_sem, zA, zB, zC, zD, zE, zF, zG, reduceCtorEq, zH, zI, zJ, zK, zL, List.length_append, List.length_map, List.length_cons, List.length_nil, Nat.zero_add]) <;> rfl, ?_⟩)) (by repeat (first | exact trivial | refine ⟨rfl, ?_⟩ | refine ⟨by (simp only [go_sem, zA, zB, zC, zD, zE, zF, zG, reduceCtorEq, zH, zI, zJ, zK, zL, List.length_append, List.length_map, List.length_cons, List.length_nil, Nat.zero_add]) <;> rfl, ?_⟩)) rfl rfl rfl) ?_ ?_ ?_
  · simp [Is]
  · intro k s x hlt hx hx' hb hok
    simp only [go_sem, zA, zB, zC, zD, zE, zF, zG, reduceCtorEq, zH, zI, zJ, zK, zL]
    have hf := flat_len (l := v.ents) k
    have hbx : bulkE x ≤ bulkEs v.ents := bulkEs_mem (List.mem_of_getElem? hx)
    have hbe := bulkE_eq x
    have hb2 := bulkVs_len x.1
    have hsl : s.length ≤ bulkV v := by rw [show s = _ from hok, List.length_append]; omega
    cases hz : x.2.1
    ·
      repeat' (first | (simp only [go_sem, zA, zB, zC, zD, zE, zF, zG, reduceCtorEq, zH, zI, zJ, zK, zL, List.length_map, List.length_append, hb, hz, encVal_eq, encEnt_eq, val_app, val_snoc']; all_goals fail_if_success guard_target =ₛ False) | (with_reducible first | ((first | refine seqVC_stepN rfl ?_ | refine AWP.seq ?_ | refine AWP.seqR (by kernel_rfl) ?_); intro K hK) | ((first | refine hK _ _ _ ?_ | refine hK _ _ ?_ | refine hK _ ?_); clear hK K) | refine seqVC_nil ?_ | refine AWP.block ?_ | (refine AWP.cond (by with_unfolding_all rfl) ?_ ?_ <;> intro h <;> (try simp only [zM, zN] at h) <;> try exact absurd h (by decide)) | refine AWP.skip ?_ | refine AWP.ret ?_ | refine AWP.exit ?_ | refine ⟨by omega, encEnt x, hx', ?_⟩ | refine ⟨(by omega : _ ≤ _), ?_⟩ | refine Or.inl ?_) | (clear hK K))
      all_goals (rw [wrap_succ hlt hlen0])
      all_goals (refine ⟨s ++ x.1 ++ [x.2.2], ?_, Gh.to [(8, 27)] (by repeat (first | exact trivial | refine ⟨rfl, ?_⟩ | refine ⟨by (simp only [go_sem, zA, zB, zC, zD, zE, zF, zG, reduceCtorEq, zH, zI, zJ, zK, zL, List.length_append, List.length_map, List.length_cons, List.length_nil, Nat.zero_add]) <;> rfl, ?_⟩)) (by repeat (first | exact trivial | refine ⟨rfl, ?_⟩ | refine ⟨by (simp only [go_sem, zA, zB, zC, zD, zE, zF, zG, reduceCtorEq, zH, zI, zJ, zK, zL, List.length_append, List.length_map, List.length_cons, List.length_nil, Nat.zero_add]) <;> rfl, ?_⟩)) rfl rfl rfl⟩)
      rw [Is, flat_take hx, show s = _ from hok, partE, hz]; simp
    ·
      repeat' (first | (simp only [go_sem, zA, zB, zC, zD, zE, zF, zG, reduceCtorEq, zH, zI, zJ, zK, zL, List.length_map, List.length_append, hb, hz, encVal_eq, encEnt_eq, val_app]; all_goals fail_if_success guard_target =ₛ False) | (with_reducible first | ((first | refine seqVC_stepN rfl ?_ | refine AWP.seq ?_ | refine AWP.seqR (by kernel_rfl) ?_); intro K hK) | ((first | refine hK _ _ _ ?_ | refine hK _ _ ?_ | refine hK _ ?_); clear hK K) | refine seqVC_nil ?_ | refine AWP.block ?_ | (refine AWP.cond (by with_unfolding_all rfl) ?_ ?_ <;> intro h <;> (try simp only [zM, zN] at h) <;> try exact absurd h (by decide)) | refine AWP.skip ?_ | refine AWP.ret ?_ | refine AWP.exit ?_ | refine ⟨by omega, encEnt x, hx', ?_⟩ | refine ⟨(by omega : _ ≤ _), ?_⟩ | refine Or.inl ?_) | (clear hK K))
      all_goals (rw [wrap_succ hlt hlen0])
      all_goals (refine ⟨s ++ x.1, ?_, Gh.to [(8, 19)] (by repeat (first | exact trivial | refine ⟨rfl, ?_⟩ | refine ⟨by (simp only [go_sem, zA, zB, zC, zD, zE, zF, zG, reduceCtorEq, zH, zI, zJ, zK, zL, List.length_append, List.length_map, List.length_cons, List.length_nil, Nat.zero_add]) <;> rfl, ?_⟩)) (by repeat (first | exact trivial | refine ⟨rfl, ?_⟩ | refine ⟨by (simp only [go_sem, zA, zB, zC, zD, zE, zF, zG, reduceCtorEq, zH, zI, zJ, zK, zL, List.length_append, List.length_map, List.length_cons, List.length_nil, Nat.zero_add]) <;> rfl, ?_⟩)) rfl rfl rfl⟩)
      rw [Is, flat_take hx, show s = _ from hok, partE, hz]; simp
  · intro s hb hok
    simp only [go_sem, zA, zB, zC, zD, zE, zF, zG, reduceCtorEq, zH, zI, zJ, zK, zL]
    rw [List.take_length] at hok
    repeat' (first | (simp only [go_sem, zA, zB, zC, zD, zE, zF, zG, reduceCtorEq, zH, zI, zJ, zK, zL, List.length_map, hb]; all_goals fail_if_success guard_target =ₛ False) | (with_reducible first | ((first | refine seqVC_stepN rfl ?_ | refine AWP.seq ?_ | refine AWP.seqR (by kernel_rfl) ?_); intro K hK) | ((first | refine hK _ _ _ ?_ | refine hK _ _ ?_ | refine hK _ ?_); clear hK K) | refine seqVC_nil ?_ | refine AWP.block ?_ | (refine AWP.cond (by with_unfolding_all rfl) ?_ ?_ <;> intro h <;> (try simp only [zM, zN] at h) <;> try exact absurd h (by decide)) | refine AWP.skip ?_ | refine AWP.ret ?_ | refine AWP.exit ?_ | refine Or.inl ?_) | (clear hK K))
    refine ⟨_, Gh.freeze 8 rfl rfl (by simp only [go_sem, zA, zB, zC, zD, zE, zF, zG, reduceCtorEq, zH, zI, zJ, zK, zL, List.length_map]) (by simp only [go_sem, zA, zB, zC, zD, zE, zF, zG, reduceCtorEq, zH, zI, zJ, zK, zL, List.length_map]), ?_⟩
    simp only [go_sem, zA, zB, zC, zD, zE, zF, zG, reduceCtorEq, zH, zI, zJ, zK, zL, List.length_map]
    all_goals (first | exact fun _ h => (by cases h) | refine fin0 ?_)
    all_goals (rw [show s = _ from hok]; rfl)
theorem cells_key {n : Nat} {row : List C} (h : hasT Tryz.prog n 63 row) : ∃ k : KeyD, row = encKey k := by
  obtain ⟨m, parts, rfl, rfl, hl, hf⟩ := cells_st Tryz.underlying63 h
  match parts, hl with
  | [p0, p1], _ =>
    obtain ⟨a, rfl⟩ := cells_i64 Tryz.underlying3 (hf 0 _ p0 rfl rfl)
    obtain ⟨b, rfl⟩ := cells_text Tryz.underlying9 (hf 1 _ p1 rfl rfl)
    exact ⟨⟨a, b⟩, rfl⟩
theorem cells_val : ∀ (n : Nat) (row : List C), hasT Tryz.prog n 28 row → ∃ v : Val, row = encVal v := by
  intro n
  induction n using Nat.strongRecOn with
  | _ n ih =>
    intro row h
    obtain ⟨m, parts, rfl, rfl, hl, hf⟩ := cells_st Tryz.underlying28 h
    match parts, hl with
    | [p0, p1, p2, p3, p4, p5, p6], _ =>
      obtain ⟨a0, rfl⟩ := cells_i64 Tryz.underlying3 (hf 0 _ p0 rfl rfl)
      obtain ⟨a1, rfl⟩ := cells_i64 Tryz.underlying2 (hf 1 _ p1 rfl rfl)
      obtain ⟨a2, rfl⟩ := cells_text Tryz.underlying9 (hf 2 _ p2 rfl rfl)
      obtain ⟨a3, rfl⟩ := cells_row (enc := encVal) (sz := 7) Tryz.underlying23 (by kernel_rfl) (fun r hr => ih (m - 1) (by omega) r hr) (hf 3 _ p3 rfl rfl)
      obtain ⟨a4, rfl⟩ := cells_row (enc := encKey) (sz := 2) Tryz.underlying24 (by kernel_rfl) (fun r hr => cells_key hr) (hf 4 _ p4 rfl rfl)
      obtain ⟨a5, rfl⟩ := cells_row (enc := encEnt) (sz := 9) Tryz.underlying25 (by kernel_rfl) (fun r hr => by
        obtain ⟨m', parts, hm', rfl, hl, hf⟩ := cells_st Tryz.underlying49 hr
        match parts, hl with
        | [q0, q1, q2], _ =>
          obtain ⟨b0, rfl⟩ := cells_row (enc := encVal) (sz := 7) Tryz.underlying23 (by kernel_rfl) (fun r hr => ih (m' - 1) (by omega) r hr) (hf 0 _ q0 rfl rfl)
          obtain ⟨b1, rfl⟩ := cells_bool Tryz.underlying4 (hf 1 _ q1 rfl rfl)
          obtain ⟨b2, rfl⟩ := ih m' (by omega) q2 (hf 2 _ q2 rfl rfl)
          exact ⟨(b0, b1, b2), by simp [encEnt_eq, encVal_eq b2]⟩) (hf 5 _ p5 rfl rfl)
      obtain ⟨a6, rfl⟩ := cells_row (enc := encStr) (sz := 1) Tryz.underlying26 (by kernel_rfl) (fun r hr => cells_text Tryz.underlying9 hr) (hf 6 _ p6 rfl rfl)
      exact ⟨⟨a0, a1, a2, a3, a4, a5, a6⟩, by rw [encVal_eq]; rfl⟩
theorem cbRs_len {α : Type} (f : α → List C) (l : List α) (h : ∀ x ∈ l, 1 ≤ cbL (f x)) : l.length ≤ cbRs (l.map f) := by
  induction l with
  | nil => simp
  | cons x l ih => have := h x (by simp); have := ih (fun y hy => h y (by simp [hy])); simp only [List.map_cons, cbRs, List.length_cons]; omega
mutual
theorem bulk_le : ∀ v : Val, bulkV v ≤ cbL (encVal v)
  | ⟨kind, num, text, kids, keys, ents, labels⟩ => by
    have h1 := bulks_le kids
    have h2 := bulkE_le ents
    have h3 := cbRs_len encKey keys (fun k _ => by simp only [encKey, cbL, cbC]; omega)
    have h4 := cbRs_len encStr labels (fun k _ => by simp only [encStr, cbL, cbC]; omega)
    simp only [bulkV, encVal, cbL, cbC]; omega
theorem bulks_le : ∀ l : List Val, bulkVs l ≤ cbRs (encVals l)
  | [] => by simp [bulkVs]
  | v :: l => by have h1 := bulk_le v; have h2 := bulks_le l; simp only [bulkVs, encVals, cbRs]; omega
theorem bulk1_le : ∀ e : List Val × Bool × Val, bulkE e ≤ cbL (encEnt e)
  | (a, f, r) => by
    have h1 := bulks_le a
    have h2 := bulk_le r
    simp only [bulkE, encEnt, cbL, cbC]; omega
theorem bulkE_le : ∀ l : List (List Val × Bool × Val), bulkEs l ≤ cbRs (encEnts l)
  | [] => by simp [bulkEs]
  | e :: l => by
    have h1 := bulk1_le e; have h2 := bulkE_le l
    simp only [bulkEs, encEnts, cbRs]; omega
end
end Go.Proofs.YtmpfdejckbceiaaGreat
