/- A part of the proof: lemmas about the walk of the program and about plain integers and lists. No conditions beyond those that each lemma states. -/
import Derived.Test.YtogponhonjiidaaGreatDoorTs13
import Derived.Test.YtogponhonjiidaaGreatDoorTs8
set_option linter.unusedSimpArgs false
set_option linter.unusedVariables false
set_option maxRecDepth 20000
set_option maxHeartbeats 16000000
namespace Go.Proofs.YtogponhonjiidaaGreatDoor
open Go Go.Sx
open Nat renaming reduceBEq → zA, reduceBNe → zB, reduceAdd → zC, reduceSub → zD, reduceMul → zE, reduceLeDiff → zF, reduceLT → zG, reduceEqDiff → zH
open Int renaming reduceToNat → zI, reduceLE → zJ, reduceLT → zK, reduceEq → zL
open Bool renaming not_eq_true' → zM, not_eq_false' → zN
theorem shr4 (c : UInt8) : (c.toNat : Int).fdiv (2 ^ min 4 8) = ((c.toNat / 16 : Nat) : Int) := by
 have : ∀ n : Nat, n < 256 → (n : Int).fdiv (2 ^ min 4 8) = ((n / 16 : Nat) : Int) := by decide +kernel
 exact this _ (UInt8.toNat_lt c)
theorem and15 (c : UInt8) : IntKind.u8.wrap (BitVec.ofInt 8 (c.toNat : Int) &&& BitVec.ofInt 8 15).toNat = ((c.toNat % 16 : Nat) : Int) := by
 have : ∀ n : Nat, n < 256 → IntKind.u8.wrap (BitVec.ofInt 8 (n : Int) &&& BitVec.ofInt 8 15).toNat = ((n % 16 : Nat) : Int) := by decide +kernel
 exact this _ (UInt8.toNat_lt c)
theorem hexAt (n : Nat) (h : n < 16) : ([48, 49, 50, 51, 52, 53, 54, 55, 56, 57, 97, 98, 99, 100, 101, 102] : List UInt8)[n]? = some (Sx.hexd n) := by
 revert n; decide
theorem snoc1 (l : List UInt8) (c : UInt8) : l.map encU8 ++ [[.int .u8 (c.toNat : Int)]] = (l ++ [c]).map encU8 := by simp [encU8]
theorem snoc34 (l : List UInt8) : l.map encU8 ++ [[.int .u8 34]] = (l ++ [34]).map encU8 := by rw [List.map_append]; rfl
theorem snoc2 (l : List UInt8) (c : UInt8) : l.map encU8 ++ [[.int .u8 92], [.int .u8 (c.toNat : Int)]] = (l ++ [92, c]).map encU8 := by rw [List.map_append]; rfl
theorem snoc4 (l : List UInt8) (c d : UInt8) : l.map encU8 ++ [[.int .u8 92], [.int .u8 120], [.int .u8 (c.toNat : Int)], [.int .u8 (d.toNat : Int)]] = (l ++ [92, 120, c, d]).map encU8 := by rw [List.map_append]; rfl
theorem rquote_c (s : List UInt8) (hs : s.length ≤ 1000000000) : PC Tryz.prog 68 [S s] (S (Sx.quoteL s)) := by
 have hqb := quoteB_le s
 refine PCB.of_body Tryz.func68 rfl (by decide) Tryz.ntmps68 Tryz.results68 rfl rfl rfl ?_ rfl rfl
 repeat' (first | (simp only [go_sem, zA, zB, zC, zD, zE, zF, zG, reduceCtorEq, zH, zI, zJ, zK, zL]; all_goals fail_if_success guard_target =ₛ False) | (with_reducible first | ((first | refine seqVC_stepN rfl ?_ | refine seqVC_stepG rfl (by with_unfolding_all rfl) ?_ | refine AWP.seq ?_ | refine AWP.seqR (by kernel_rfl) ?_ | refine parVC_stepN rfl ?_ | refine parVC_stepG rfl (by with_unfolding_all rfl) ?_ | refine parEVC_stepN rfl ?_ | refine parEVC_stepG rfl (by with_unfolding_all rfl) ?_ | refine genVC_stepN rfl ?_ | refine genVC_stepG rfl (by with_unfolding_all rfl) ?_); intro K hK) | ((first | refine hK _ _ _ ?_ | refine hK _ _ ?_ | refine hK _ ?_); clear hK K) | refine seqVC_nil ?_ | refine parVC_nil ?_ | refine parEVC_nil ?_ | refine genVC_nil ?_ | refine AWP.block ?_ | (refine AWP.cond (by with_unfolding_all rfl) ?_ ?_ <;> intro h <;> (try simp only [zM, zN] at h) <;> try exact absurd h (by decide)) | refine AWP.skip ?_ | refine AWP.ret ?_ | refine AWP.exit ?_ | (refine ⟨fun h => ?_, fun h => ?_⟩ <;> (try simp only [zM, zN] at h) <;> try simp only [h]) | (refine Or.inr (show vBuildOwn _ 7 _ _ _ _ _ _ from ?_); unfold vBuildOwn; with_reducible refine Or.inr ?_; simp only [vBuildRow, go_sem, zA, zB, zC, zD, zE, zF, zG, reduceCtorEq, zH, zI, zJ, zK, zL]) | (refine AWP.segP (id := 7) 10 mixed (by kernel_rfl) fun K hK => ?_; simp only [List.take_succ_cons, List.take_zero, List.drop_succ_cons, List.drop_zero]) | refine AWP.parR mixed (by kernel_rfl) fun K hK => ?_ | refine ⟨(by kernel_rfl : depB _ _ _ = true), ?_⟩ | refine Or.inl ?_) | (clear hK K))
 refine AWP.loopF (X := Nat × List UInt8) (fun x => [(5, I .i64 (x.1 : Nat)), (4, .one (.own 7 x.2.length))]) (fun x => [(7, .row 1 (x.2.map encU8))]) [0, 3] [] (fun x => x.1 ≤ s.length ∧ x.2 = 34 :: Sx.quoteB (s.take x.1) ∧ x.2.length ≤ 4 * x.1 + 1) (fun x => s.length - x.1) ((0, [34])) (by simp only [go_sem, zA, zB, zC, zD, zE, zF, zG, reduceCtorEq, zH, zI, zJ, zK, zL]; exact Gh.to [] (by repeat (first | exact trivial | refine ⟨rfl, ?_⟩ | refine ⟨by (simp only [go_sem, zA, zB, zC, zD, zE, zF, zG, reduceCtorEq, zH, zI, zJ, zK, zL, List.length_append, List.length_map, List.length_cons, List.length_nil, Nat.zero_add]) <;> rfl, ?_⟩)) (by repeat (first | exact trivial | refine ⟨rfl, ?_⟩ | refine ⟨by (simp only [go_sem, zA, zB, zC, zD, zE, zF, zG, reduceCtorEq, zH, zI, zJ, zK, zL, List.length_append, List.length_map, List.length_cons, List.length_nil, Nat.zero_add]) <;> rfl, ?_⟩)) rfl rfl rfl) ?_ ?_
 ·exact ⟨Nat.zero_le _, by rw [List.take_zero]; rfl, by simp⟩
 rintro ⟨k, acc⟩ ⟨hk, hacc, hal⟩
 simp only at hk hacc hal
 simp only [go_sem, zA, zB, zC, zD, zE, zF, zG, reduceCtorEq, zH, zI, zJ, zK, zL]
 by_cases hlt : k < s.length
 ·obtain ⟨c, hc⟩ := byte_at hlt
  have hd : decide ((k : Int) < (s.length : Int)) = true := by rw [decide_eq_true_eq]; omega
  have hw := wk64 hlt (show s.length ≤ 1000000000000 by omega)
  have hq := quoteB_succ s k hlt
  rw [show s[k] = c from (List.getElem?_eq_some_iff.1 hc).2] at hq
  have hql := quote1_le c
  have hnew : acc ++ Sx.quote1 c = 34 :: Sx.quoteB (s.take (k + 1)) := by rw [hacc, hq]; rfl
  have hm := UInt8.toNat_lt c
  unfold Sx.quote1 at hnew
  cases h34 : decide ((c.toNat : Int) = 34) with
  | true =>
   rw [show decide (c.toNat = 34) = true by simp at h34 ⊢; omega] at hnew
   simp only [Bool.true_or, cond_true] at hnew
   repeat' (first | (simp only [go_sem, zA, zB, zC, zD, zE, zF, zG, reduceCtorEq, zH, zI, zJ, zK, zL, hd, h34, hw, snoc2, List.length_map]; all_goals fail_if_success guard_target =ₛ False) | (with_reducible first | ((first | refine seqVC_stepN rfl ?_ | refine seqVC_stepG rfl (by with_unfolding_all rfl) ?_ | refine AWP.seq ?_ | refine AWP.seqR (by kernel_rfl) ?_ | refine parVC_stepN rfl ?_ | refine parVC_stepG rfl (by with_unfolding_all rfl) ?_ | refine parEVC_stepN rfl ?_ | refine parEVC_stepG rfl (by with_unfolding_all rfl) ?_ | refine genVC_stepN rfl ?_ | refine genVC_stepG rfl (by with_unfolding_all rfl) ?_); intro K hK) | ((first | refine hK _ _ _ ?_ | refine hK _ _ ?_ | refine hK _ ?_); clear hK K) | refine seqVC_nil ?_ | refine parVC_nil ?_ | refine parEVC_nil ?_ | refine genVC_nil ?_ | refine AWP.block ?_ | (refine AWP.cond (by with_unfolding_all rfl) ?_ ?_ <;> intro h <;> (try simp only [zM, zN] at h) <;> try exact absurd h (by decide)) | refine AWP.skip ?_ | refine AWP.ret ?_ | refine AWP.exit ?_ | (refine ⟨fun h => ?_, fun h => ?_⟩ <;> (try simp only [zM, zN] at h) <;> try simp only [h]) | (refine ⟨(by first | omega | (simp only [List.length_append, List.length_map, List.length_take, List.length_drop, List.length_cons, List.length_nil, List.length_replicate]; omega) : _ ≤ _), ?_⟩) | refine ⟨by omega, by omega, ?_⟩ | refine ⟨by omega, c, hc, ?_⟩ | (refine AWP.segP (id := 7) 10 mixed (by kernel_rfl) fun K hK => ?_; simp only [List.take_succ_cons, List.take_zero, List.drop_succ_cons, List.drop_zero]) | refine AWP.parR mixed (by kernel_rfl) fun K hK => ?_ | refine ⟨(by kernel_rfl : depB _ _ _ = true), ?_⟩ | refine Or.inl ?_) | (clear hK K))
   all_goals (refine ⟨(k + 1, acc ++ [92, c]), by simp only; omega, ⟨by simp only; omega, hnew, by simp only [List.length_append, List.length_cons, List.length_nil]; omega⟩, Gh.to [(7, 38)] (by repeat (first | exact trivial | refine ⟨rfl, ?_⟩ | refine ⟨by (simp only [go_sem, zA, zB, zC, zD, zE, zF, zG, reduceCtorEq, zH, zI, zJ, zK, zL, List.length_append, List.length_map, List.length_cons, List.length_nil, Nat.zero_add]) <;> rfl, ?_⟩)) (by repeat (first | exact trivial | refine ⟨rfl, ?_⟩ | refine ⟨by (simp only [go_sem, zA, zB, zC, zD, zE, zF, zG, reduceCtorEq, zH, zI, zJ, zK, zL, List.length_append, List.length_map, List.length_cons, List.length_nil, Nat.zero_add]) <;> rfl, ?_⟩)) rfl rfl rfl⟩)
  | false =>
  rw [show decide (c.toNat = 34) = false by simp at h34 ⊢; omega] at hnew
  cases h92 : decide ((c.toNat : Int) = 92) with
  | true =>
   rw [show decide (c.toNat = 92) = true by simp at h92 ⊢; omega] at hnew
   simp only [Bool.or_true, cond_true] at hnew
   repeat' (first | (simp only [go_sem, zA, zB, zC, zD, zE, zF, zG, reduceCtorEq, zH, zI, zJ, zK, zL, hd, h34, h92, hw, snoc2, List.length_map]; all_goals fail_if_success guard_target =ₛ False) | (with_reducible first | ((first | refine seqVC_stepN rfl ?_ | refine seqVC_stepG rfl (by with_unfolding_all rfl) ?_ | refine AWP.seq ?_ | refine AWP.seqR (by kernel_rfl) ?_ | refine parVC_stepN rfl ?_ | refine parVC_stepG rfl (by with_unfolding_all rfl) ?_ | refine parEVC_stepN rfl ?_ | refine parEVC_stepG rfl (by with_unfolding_all rfl) ?_ | refine genVC_stepN rfl ?_ | refine genVC_stepG rfl (by with_unfolding_all rfl) ?_); intro K hK) | ((first | refine hK _ _ _ ?_ | refine hK _ _ ?_ | refine hK _ ?_); clear hK K) | refine seqVC_nil ?_ | refine parVC_nil ?_ | refine parEVC_nil ?_ | refine genVC_nil ?_ | refine AWP.block ?_ | (refine AWP.cond (by with_unfolding_all rfl) ?_ ?_ <;> intro h <;> (try simp only [zM, zN] at h) <;> try exact absurd h (by decide)) | refine AWP.skip ?_ | refine AWP.ret ?_ | refine AWP.exit ?_ | (refine ⟨fun h => ?_, fun h => ?_⟩ <;> (try simp only [zM, zN] at h) <;> try simp only [h]) | (refine ⟨(by first | omega | (simp only [List.length_append, List.length_map, List.length_take, List.length_drop, List.length_cons, List.length_nil, List.length_replicate]; omega) : _ ≤ _), ?_⟩) | refine ⟨by omega, by omega, ?_⟩ | refine ⟨by omega, c, hc, ?_⟩ | (refine AWP.segP (id := 7) 10 mixed (by kernel_rfl) fun K hK => ?_; simp only [List.take_succ_cons, List.take_zero, List.drop_succ_cons, List.drop_zero]) | refine AWP.parR mixed (by kernel_rfl) fun K hK => ?_ | refine ⟨(by kernel_rfl : depB _ _ _ = true), ?_⟩ | refine Or.inl ?_) | (clear hK K))
   all_goals (refine ⟨(k + 1, acc ++ [92, c]), by simp only; omega, ⟨by simp only; omega, hnew, by simp only [List.length_append, List.length_cons, List.length_nil]; omega⟩, Gh.to [(7, 38)] (by repeat (first | exact trivial | refine ⟨rfl, ?_⟩ | refine ⟨by (simp only [go_sem, zA, zB, zC, zD, zE, zF, zG, reduceCtorEq, zH, zI, zJ, zK, zL, List.length_append, List.length_map, List.length_cons, List.length_nil, Nat.zero_add]) <;> rfl, ?_⟩)) (by repeat (first | exact trivial | refine ⟨rfl, ?_⟩ | refine ⟨by (simp only [go_sem, zA, zB, zC, zD, zE, zF, zG, reduceCtorEq, zH, zI, zJ, zK, zL, List.length_append, List.length_map, List.length_cons, List.length_nil, Nat.zero_add]) <;> rfl, ?_⟩)) rfl rfl rfl⟩)
  | false =>
  rw [show decide (c.toNat = 92) = false by simp at h92 ⊢; omega] at hnew
  have e32 : decide (32 ≤ c.toNat) = decide ((32 : Int) ≤ (c.toNat : Int)) := by rw [Bool.eq_iff_iff]; simp; omega
  have e126 : decide (c.toNat ≤ 126) = decide ((c.toNat : Int) ≤ 126) := by rw [Bool.eq_iff_iff]; simp; omega
  rw [e32, e126] at hnew
  simp only [Bool.or_false, cond_false] at hnew
  have hx1 := hexAt (c.toNat / 16) (by omega)
  have hx2 : ([48, 49, 50, 51, 52, 53, 54, 55, 56, 57, 97, 98, 99, 100, 101, 102] : List UInt8)[(IntKind.u8.wrap (BitVec.ofInt 8 (c.toNat : Int) &&& BitVec.ofInt 8 15).toNat).toNat]? = some (Sx.hexd (c.toNat % 16)) := by
   rw [and15, Int.toNat_natCast]; exact hexAt (c.toNat % 16) (by omega)
  cases h3 : decide ((32 : Int) ≤ (c.toNat : Int)) with
  | false =>
   rw [h3] at hnew
   simp only [Bool.false_and, cond_false] at hnew
   repeat' (first | (simp only [go_sem, zA, zB, zC, zD, zE, zF, zG, reduceCtorEq, zH, zI, zJ, zK, zL, hd, h34, h92, h3, hw, snoc4, shr4, Int.toNat_natCast, List.length_map]; all_goals fail_if_success guard_target =ₛ False) | (with_reducible first | ((first | refine seqVC_stepN rfl ?_ | refine seqVC_stepG rfl (by with_unfolding_all rfl) ?_ | refine AWP.seq ?_ | refine AWP.seqR (by kernel_rfl) ?_ | refine parVC_stepN rfl ?_ | refine parVC_stepG rfl (by with_unfolding_all rfl) ?_ | refine parEVC_stepN rfl ?_ | refine parEVC_stepG rfl (by with_unfolding_all rfl) ?_ | refine genVC_stepN rfl ?_ | refine genVC_stepG rfl (by with_unfolding_all rfl) ?_); intro K hK) | ((first | refine hK _ _ _ ?_ | refine hK _ _ ?_ | refine hK _ ?_); clear hK K) | refine seqVC_nil ?_ | refine parVC_nil ?_ | refine parEVC_nil ?_ | refine genVC_nil ?_ | refine AWP.block ?_ | (refine AWP.cond (by with_unfolding_all rfl) ?_ ?_ <;> intro h <;> (try simp only [zM, zN] at h) <;> try exact absurd h (by decide)) | refine AWP.skip ?_ | refine AWP.ret ?_ | refine AWP.exit ?_ | (refine ⟨fun h => ?_, fun h => ?_⟩ <;> (try simp only [zM, zN] at h) <;> try simp only [h]) | (refine ⟨(by first | omega | (simp only [List.length_append, List.length_map, List.length_take, List.length_drop, List.length_cons, List.length_nil, List.length_replicate]; omega) : _ ≤ _), ?_⟩) | refine ⟨by omega, by omega, ?_⟩ | refine ⟨by omega, c, hc, ?_⟩ | refine ⟨_, hx1, ?_⟩) | ( refine ⟨_, hx2, ?_⟩) | (with_reducible first | (refine AWP.segP (id := 7) 10 mixed (by kernel_rfl) fun K hK => ?_; simp only [List.take_succ_cons, List.take_zero, List.drop_succ_cons, List.drop_zero]) | refine AWP.parR mixed (by kernel_rfl) fun K hK => ?_ | refine ⟨(by kernel_rfl : depB _ _ _ = true), ?_⟩ | refine Or.inl ?_) | (clear hK K))
   all_goals (refine ⟨(k + 1, acc ++ [92, 120, Sx.hexd (c.toNat / 16), Sx.hexd (c.toNat % 16)]), by simp only; omega, ⟨by simp only; omega, hnew, by simp only [List.length_append, List.length_cons, List.length_nil]; omega⟩, Gh.to [(7, 27)] (by repeat (first | exact trivial | refine ⟨rfl, ?_⟩ | refine ⟨by (simp only [go_sem, zA, zB, zC, zD, zE, zF, zG, reduceCtorEq, zH, zI, zJ, zK, zL, List.length_append, List.length_map, List.length_cons, List.length_nil, Nat.zero_add]) <;> rfl, ?_⟩)) (by repeat (first | exact trivial | refine ⟨rfl, ?_⟩ | refine ⟨by (simp only [go_sem, zA, zB, zC, zD, zE, zF, zG, reduceCtorEq, zH, zI, zJ, zK, zL, List.length_append, List.length_map, List.length_cons, List.length_nil, Nat.zero_add]) <;> rfl, ?_⟩)) rfl rfl rfl⟩)
  | true =>
  rw [h3] at hnew
  cases h4 : decide ((c.toNat : Int) ≤ 126) with
  | true =>
   rw [h4] at hnew
   simp only [Bool.and_true, cond_true] at hnew
   repeat' (first | (simp only [go_sem, zA, zB, zC, zD, zE, zF, zG, reduceCtorEq, zH, zI, zJ, zK, zL, hd, h34, h92, h3, h4, hw, snoc1, List.length_map]; all_goals fail_if_success guard_target =ₛ False) | (with_reducible first | ((first | refine seqVC_stepN rfl ?_ | refine seqVC_stepG rfl (by with_unfolding_all rfl) ?_ | refine AWP.seq ?_ | refine AWP.seqR (by kernel_rfl) ?_ | refine parVC_stepN rfl ?_ | refine parVC_stepG rfl (by with_unfolding_all rfl) ?_ | refine parEVC_stepN rfl ?_ | refine parEVC_stepG rfl (by with_unfolding_all rfl) ?_ | refine genVC_stepN rfl ?_ | refine genVC_stepG rfl (by with_unfolding_all rfl) ?_); intro K hK) | ((first | refine hK _ _ _ ?_ | refine hK _ _ ?_ | refine hK _ ?_); clear hK K) | refine seqVC_nil ?_ | refine parVC_nil ?_ | refine parEVC_nil ?_ | refine genVC_nil ?_ | refine AWP.block ?_ | (refine AWP.cond (by with_unfolding_all rfl) ?_ ?_ <;> intro h <;> (try simp only [zM, zN] at h) <;> try exact absurd h (by decide)) | refine AWP.skip ?_ | refine AWP.ret ?_ | refine AWP.exit ?_ | (refine ⟨fun h => ?_, fun h => ?_⟩ <;> (try simp only [zM, zN] at h) <;> try simp only [h]) | (refine ⟨(by first | omega | (simp only [List.length_append, List.length_map, List.length_take, List.length_drop, List.length_cons, List.length_nil, List.length_replicate]; omega) : _ ≤ _), ?_⟩) | refine ⟨by omega, by omega, ?_⟩ | refine ⟨by omega, c, hc, ?_⟩ | (refine AWP.segP (id := 7) 10 mixed (by kernel_rfl) fun K hK => ?_; simp only [List.take_succ_cons, List.take_zero, List.drop_succ_cons, List.drop_zero]) | refine AWP.parR mixed (by kernel_rfl) fun K hK => ?_ | refine ⟨(by kernel_rfl : depB _ _ _ = true), ?_⟩ | refine Or.inl ?_) | (clear hK K))
   all_goals (refine ⟨(k + 1, acc ++ [c]), by simp only; omega, ⟨by simp only; omega, hnew, by simp only [List.length_append, List.length_cons, List.length_nil]; omega⟩, Gh.to [(7, 49)] (by repeat (first | exact trivial | refine ⟨rfl, ?_⟩ | refine ⟨by (simp only [go_sem, zA, zB, zC, zD, zE, zF, zG, reduceCtorEq, zH, zI, zJ, zK, zL, List.length_append, List.length_map, List.length_cons, List.length_nil, Nat.zero_add]) <;> rfl, ?_⟩)) (by repeat (first | exact trivial | refine ⟨rfl, ?_⟩ | refine ⟨by (simp only [go_sem, zA, zB, zC, zD, zE, zF, zG, reduceCtorEq, zH, zI, zJ, zK, zL, List.length_append, List.length_map, List.length_cons, List.length_nil, Nat.zero_add]) <;> rfl, ?_⟩)) rfl rfl rfl⟩)
  | false =>
   rw [h4] at hnew
   simp only [Bool.and_false, cond_false] at hnew
   repeat' (first | (simp only [go_sem, zA, zB, zC, zD, zE, zF, zG, reduceCtorEq, zH, zI, zJ, zK, zL, hd, h34, h92, h3, h4, hw, snoc4, shr4, Int.toNat_natCast, List.length_map]; all_goals fail_if_success guard_target =ₛ False) | (with_reducible first | ((first | refine seqVC_stepN rfl ?_ | refine seqVC_stepG rfl (by with_unfolding_all rfl) ?_ | refine AWP.seq ?_ | refine AWP.seqR (by kernel_rfl) ?_ | refine parVC_stepN rfl ?_ | refine parVC_stepG rfl (by with_unfolding_all rfl) ?_ | refine parEVC_stepN rfl ?_ | refine parEVC_stepG rfl (by with_unfolding_all rfl) ?_ | refine genVC_stepN rfl ?_ | refine genVC_stepG rfl (by with_unfolding_all rfl) ?_); intro K hK) | ((first | refine hK _ _ _ ?_ | refine hK _ _ ?_ | refine hK _ ?_); clear hK K) | refine seqVC_nil ?_ | refine parVC_nil ?_ | refine parEVC_nil ?_ | refine genVC_nil ?_ | refine AWP.block ?_ | (refine AWP.cond (by with_unfolding_all rfl) ?_ ?_ <;> intro h <;> (try simp only [zM, zN] at h) <;> try exact absurd h (by decide)) | refine AWP.skip ?_ | refine AWP.ret ?_ | refine AWP.exit ?_ | (refine ⟨fun h => ?_, fun h => ?_⟩ <;> (try simp only [zM, zN] at h) <;> try simp only [h]) | (refine ⟨(by first | omega | (simp only [List.length_append, List.length_map, List.length_take, List.length_drop, List.length_cons, List.length_nil, List.length_replicate]; omega) : _ ≤ _), ?_⟩) | refine ⟨by omega, by omega, ?_⟩ | refine ⟨by omega, c, hc, ?_⟩ | refine ⟨_, hx1, ?_⟩) | ( refine ⟨_, hx2, ?_⟩) | (with_reducible first | (refine AWP.segP (id := 7) 10 mixed (by kernel_rfl) fun K hK => ?_; simp only [List.take_succ_cons, List.take_zero, List.drop_succ_cons, List.drop_zero]) | refine AWP.parR mixed (by kernel_rfl) fun K hK => ?_ | refine ⟨(by kernel_rfl : depB _ _ _ = true), ?_⟩ | refine Or.inl ?_) | (clear hK K))
   all_goals (refine ⟨(k + 1, acc ++ [92, 120, Sx.hexd (c.toNat / 16), Sx.hexd (c.toNat % 16)]), by simp only; omega, ⟨by simp only; omega, hnew, by simp only [List.length_append, List.length_cons, List.length_nil]; omega⟩, Gh.to [(7, 27)] (by repeat (first | exact trivial | refine ⟨rfl, ?_⟩ | refine ⟨by (simp only [go_sem, zA, zB, zC, zD, zE, zF, zG, reduceCtorEq, zH, zI, zJ, zK, zL, List.length_append, List.length_map, List.length_cons, List.length_nil, Nat.zero_add]) <;> rfl, ?_⟩)) (by repeat (first | exact trivial | refine ⟨rfl, ?_⟩ | refine ⟨by (simp only [go_sem, zA, zB, zC, zD, zE, zF, zG, reduceCtorEq, zH, zI, zJ, zK, zL, List.length_append, List.length_map, List.length_cons, List.length_nil, Nat.zero_add]) <;> rfl, ?_⟩)) rfl rfl rfl⟩)
 ·have hd : decide ((k : Int) < (s.length : Int)) = false := by rw [decide_eq_false_iff_not]; omega
  rw [List.take_of_length_le (by omega)] at hacc
  repeat' (first | (simp only [go_sem, zA, zB, zC, zD, zE, zF, zG, reduceCtorEq, zH, zI, zJ, zK, zL, hd, snoc34, List.length_map]; all_goals fail_if_success guard_target =ₛ False) | (with_reducible first | ((first | refine seqVC_stepN rfl ?_ | refine seqVC_stepG rfl (by with_unfolding_all rfl) ?_ | refine AWP.seq ?_ | refine AWP.seqR (by kernel_rfl) ?_ | refine parVC_stepN rfl ?_ | refine parVC_stepG rfl (by with_unfolding_all rfl) ?_ | refine parEVC_stepN rfl ?_ | refine parEVC_stepG rfl (by with_unfolding_all rfl) ?_ | refine genVC_stepN rfl ?_ | refine genVC_stepG rfl (by with_unfolding_all rfl) ?_); intro K hK) | ((first | refine hK _ _ _ ?_ | refine hK _ _ ?_ | refine hK _ ?_); clear hK K) | refine seqVC_nil ?_ | refine parVC_nil ?_ | refine parEVC_nil ?_ | refine genVC_nil ?_ | refine AWP.block ?_ | (refine AWP.cond (by with_unfolding_all rfl) ?_ ?_ <;> intro h <;> (try simp only [zM, zN] at h) <;> try exact absurd h (by decide)) | refine AWP.skip ?_ | refine AWP.ret ?_ | refine AWP.exit ?_ | (refine ⟨fun h => ?_, fun h => ?_⟩ <;> (try simp only [zM, zN] at h) <;> try simp only [h]) | (refine ⟨(by first | omega | (simp only [List.length_append, List.length_map, List.length_take, List.length_drop, List.length_cons, List.length_nil, List.length_replicate]; omega) : _ ≤ _), ?_⟩) | refine ⟨by omega, by omega, ?_⟩ | (refine AWP.segP (id := 7) 10 mixed (by kernel_rfl) fun K hK => ?_; simp only [List.take_succ_cons, List.take_zero, List.drop_succ_cons, List.drop_zero]) | refine AWP.parR mixed (by kernel_rfl) fun K hK => ?_ | refine ⟨(by kernel_rfl : depB _ _ _ = true), ?_⟩ | refine Or.inl ?_) | (clear hK K))
  rw [hacc]
  all_goals (first | exact fun _ h => absurd h List.not_mem_nil | refine fin0 ?_)
  all_goals rfl
theorem runquote_c (s : List UInt8) (hs : s.length ≤ 100000000) : PC Tryz.prog 43 [S s] (.tup [S ((Sx.unqV s).getD []), Bo (Sx.unqV s).isSome]) := by
 refine PCB.of_body Tryz.func43 rfl (by decide) Tryz.ntmps43 Tryz.results43 rfl rfl rfl ?_ rfl rfl
 repeat' (first | (simp only [go_sem, zA, zB, zC, zD, zE, zF, zG, reduceCtorEq, zH, zI, zJ, zK, zL, List.length_nil]; all_goals fail_if_success guard_target =ₛ False) | (with_reducible first | ((first | refine seqVC_stepN rfl ?_ | refine seqVC_stepG rfl (by with_unfolding_all rfl) ?_ | refine AWP.seq ?_ | refine AWP.seqR (by kernel_rfl) ?_ | refine parVC_stepN rfl ?_ | refine parVC_stepG rfl (by with_unfolding_all rfl) ?_ | refine parEVC_stepN rfl ?_ | refine parEVC_stepG rfl (by with_unfolding_all rfl) ?_ | refine genVC_stepN rfl ?_ | refine genVC_stepG rfl (by with_unfolding_all rfl) ?_); intro K hK) | ((first | refine hK _ _ _ ?_ | refine hK _ _ ?_ | refine hK _ ?_); clear hK K) | refine seqVC_nil ?_ | refine parVC_nil ?_ | refine parEVC_nil ?_ | refine genVC_nil ?_ | refine AWP.block ?_ | (refine AWP.cond (by with_unfolding_all rfl) ?_ ?_ <;> intro h <;> (try simp only [zM, zN] at h) <;> try exact absurd h (by decide)) | refine AWP.skip ?_ | refine AWP.ret ?_ | refine AWP.exit ?_ | (refine ⟨fun h => ?_, fun h => ?_⟩ <;> (try simp only [zM, zN] at h) <;> try simp only [h]) | (refine AWP.segP (id := 8) 15 mixed (by kernel_rfl) fun K hK => ?_; simp only [List.take_succ_cons, List.take_zero, List.drop_succ_cons, List.drop_zero]) | refine AWP.parR mixed (by kernel_rfl) fun K hK => ?_ | refine ⟨(by kernel_rfl : depB _ _ _ = true), ?_⟩ | refine Or.inl ?_) | (clear hK K))
 refine AWP.gh (Gh.nilrow 4 900 rfl rfl rfl (by simp [Bx.fresh, Cell.freshs, Cell.fresh])) ?_
 refine AWP.loopF (X := Nat × List UInt8) (fun x => [(5, I .i64 (x.1 : Nat)), (4, .one (.own 900 x.2.length))]) (fun x => [(900, .row 1 (x.2.map encU8))]) [0] [] (fun x => 1 ≤ x.1 ∧ x.1 ≤ s.length + 1 ∧ x.2.length ≤ x.1 ∧ Sx.decR (s.drop 1) = x.2 ++ Sx.decR (s.drop x.1)) (fun x => s.length + 1 - x.1) ((1, [])) (by simp only [go_sem, zA, zB, zC, zD, zE, zF, zG, reduceCtorEq, zH, zI, zJ, zK, zL]; exact Gh.to [] (by repeat (first | exact trivial | refine ⟨rfl, ?_⟩ | refine ⟨by (simp only [go_sem, zA, zB, zC, zD, zE, zF, zG, reduceCtorEq, zH, zI, zJ, zK, zL, List.length_append, List.length_map, List.length_cons, List.length_nil, Nat.zero_add]) <;> rfl, ?_⟩)) (by repeat (first | exact trivial | refine ⟨rfl, ?_⟩ | refine ⟨by (simp only [go_sem, zA, zB, zC, zD, zE, zF, zG, reduceCtorEq, zH, zI, zJ, zK, zL, List.length_append, List.length_map, List.length_cons, List.length_nil, Nat.zero_add]) <;> rfl, ?_⟩)) rfl rfl rfl) ?_ ?_
 ·exact ⟨Nat.le_refl _, by simp, by simp, rfl⟩
 rintro ⟨k, acc⟩ ⟨h1k, hk, hal, hok⟩
 simp only at h1k hk hal hok
 simp only [go_sem, zA, zB, zC, zD, zE, zF, zG, reduceCtorEq, zH, zI, zJ, zK, zL]
 by_cases hlt : k + 1 < s.length
 ·have hlt0 : k < s.length := by omega
  obtain ⟨c, hc⟩ := byte_at hlt0
  obtain ⟨d, hd1⟩ := byte_at hlt
  have hw := wk64 hlt0 (show s.length ≤ 1000000000000 by omega)
  have hw2 := wk64 hlt (show s.length ≤ 1000000000000 by omega)
  have hd : decide (((k + 1 : Nat) : Int) < (s.length : Int)) = true := by rw [decide_eq_true_eq]; omega
  have hdr : s.drop k = c :: d :: s.drop (k + 2) := by
   rw [List.drop_eq_getElem_cons hlt0, List.drop_eq_getElem_cons hlt, (List.getElem?_eq_some_iff.1 hc).2, (List.getElem?_eq_some_iff.1 hd1).2]
  rw [hdr, Sx.decR] at hok
  cases h92 : decide ((c.toNat : Int) = 92) with
  | false =>
   rw [show decide (c.toNat = 92) = false by simp at h92 ⊢; omega, cond_false] at hok
   rw [show d :: s.drop (k + 2) = s.drop (k + 1) by rw [List.drop_eq_getElem_cons hlt, (List.getElem?_eq_some_iff.1 hd1).2]] at hok
   repeat' (first | (simp only [go_sem, zA, zB, zC, zD, zE, zF, zG, reduceCtorEq, zH, zI, zJ, zK, zL, hd, h92, hw, snoc1, List.length_map]; all_goals fail_if_success guard_target =ₛ False) | (with_reducible first | ((first | refine seqVC_stepN rfl ?_ | refine seqVC_stepG rfl (by with_unfolding_all rfl) ?_ | refine AWP.seq ?_ | refine AWP.seqR (by kernel_rfl) ?_ | refine parVC_stepN rfl ?_ | refine parVC_stepG rfl (by with_unfolding_all rfl) ?_ | refine parEVC_stepN rfl ?_ | refine parEVC_stepG rfl (by with_unfolding_all rfl) ?_ | refine genVC_stepN rfl ?_ | refine genVC_stepG rfl (by with_unfolding_all rfl) ?_); intro K hK) | ((first | refine hK _ _ _ ?_ | refine hK _ _ ?_ | refine hK _ ?_); clear hK K) | refine seqVC_nil ?_ | refine parVC_nil ?_ | refine parEVC_nil ?_ | refine genVC_nil ?_ | refine AWP.block ?_ | (refine AWP.cond (by with_unfolding_all rfl) ?_ ?_ <;> intro h <;> (try simp only [zM, zN] at h) <;> try exact absurd h (by decide)) | refine AWP.skip ?_ | refine AWP.ret ?_ | refine AWP.exit ?_ | (refine ⟨fun h => ?_, fun h => ?_⟩ <;> (try simp only [zM, zN] at h) <;> try simp only [h]) | (refine ⟨(by first | omega | (simp only [List.length_append, List.length_map, List.length_take, List.length_drop, List.length_cons, List.length_nil, List.length_replicate]; omega) : _ ≤ _), ?_⟩) | refine ⟨by omega, by omega, ?_⟩ | refine ⟨c, hc, ?_⟩ | refine ⟨by omega, c, hc, ?_⟩ | (refine AWP.segP (id := 8) 15 mixed (by kernel_rfl) fun K hK => ?_; simp only [List.take_succ_cons, List.take_zero, List.drop_succ_cons, List.drop_zero]) | refine AWP.parR mixed (by kernel_rfl) fun K hK => ?_ | refine ⟨(by kernel_rfl : depB _ _ _ = true), ?_⟩ | refine Or.inl ?_) | (clear hK K))
   all_goals (refine ⟨(k + 1, acc ++ [c]), by simp only; omega, ⟨by simp only; omega, by simp only; omega, by simp only [List.length_append, List.length_cons, List.length_nil]; omega, by rw [hok]; simp⟩, Gh.to [(900, 22)] (by repeat (first | exact trivial | refine ⟨rfl, ?_⟩ | refine ⟨by (simp only [go_sem, zA, zB, zC, zD, zE, zF, zG, reduceCtorEq, zH, zI, zJ, zK, zL, List.length_append, List.length_map, List.length_cons, List.length_nil, Nat.zero_add]) <;> rfl, ?_⟩)) (by repeat (first | exact trivial | refine ⟨rfl, ?_⟩ | refine ⟨by (simp only [go_sem, zA, zB, zC, zD, zE, zF, zG, reduceCtorEq, zH, zI, zJ, zK, zL, List.length_append, List.length_map, List.length_cons, List.length_nil, Nat.zero_add]) <;> rfl, ?_⟩)) rfl rfl rfl⟩)
  | true =>
   rw [show decide (c.toNat = 92) = true by simp at h92 ⊢; omega, cond_true] at hok
   have hw4 : IntKind.i64.wrap ((k : Int) + 4) = ((k + 4 : Nat) : Int) := by rw [wrapId _ (by omega) (by omega)]; omega
   have hw3 : IntKind.i64.wrap ((k : Int) + 3) = ((k + 3 : Nat) : Int) := by rw [wrapId _ (by omega) (by omega)]; omega
   have hw22 : IntKind.i64.wrap ((k : Int) + 2) = ((k + 2 : Nat) : Int) := by rw [wrapId _ (by omega) (by omega)]; omega
   have hw33 : IntKind.i64.wrap (((k + 3 : Nat) : Int) + 1) = ((k + 4 : Nat) : Int) := by rw [wrapId _ (by omega) (by omega)]; omega
   by_cases hl4 : k + 4 < s.length
   case neg =>
    have h4 : decide (((k + 4 : Nat) : Int) < (s.length : Int)) = false := by rw [decide_eq_false_iff_not]; omega
    have hN : Sx.escR d (s.drop (k + 2)) = none := by
     have : (s.drop (k + 2)).length < 3 := by rw [List.length_drop]; omega
     unfold Sx.escR
     cases decide (d.toNat = 120) with
     | false => rfl
     | true =>
      revert this
      generalize s.drop (k + 2) = m
      intro this
      match m, this with
      | [], _ => rfl
      | [_], _ => rfl
      | [_, _], _ => rfl
    rw [hN] at hok
    simp only at hok
    repeat' (first | (simp only [go_sem, zA, zB, zC, zD, zE, zF, zG, reduceCtorEq, zH, zI, zJ, zK, zL, hd, h92, hw, hw2, h4, hw4, snoc1, List.length_map]; all_goals fail_if_success guard_target =ₛ False) | (with_reducible first | ((first | refine seqVC_stepN rfl ?_ | refine seqVC_stepG rfl (by with_unfolding_all rfl) ?_ | refine AWP.seq ?_ | refine AWP.seqR (by kernel_rfl) ?_ | refine parVC_stepN rfl ?_ | refine parVC_stepG rfl (by with_unfolding_all rfl) ?_ | refine parEVC_stepN rfl ?_ | refine parEVC_stepG rfl (by with_unfolding_all rfl) ?_ | refine genVC_stepN rfl ?_ | refine genVC_stepG rfl (by with_unfolding_all rfl) ?_); intro K hK) | ((first | refine hK _ _ _ ?_ | refine hK _ _ ?_ | refine hK _ ?_); clear hK K) | refine seqVC_nil ?_ | refine parVC_nil ?_ | refine parEVC_nil ?_ | refine genVC_nil ?_ | refine AWP.block ?_ | (refine AWP.cond (by with_unfolding_all rfl) ?_ ?_ <;> intro h <;> (try simp only [zM, zN] at h) <;> try exact absurd h (by decide)) | refine AWP.skip ?_ | refine AWP.ret ?_ | refine AWP.exit ?_ | (refine ⟨fun h => ?_, fun h => ?_⟩ <;> (try simp only [zM, zN] at h) <;> try simp only [h]) | (refine ⟨(by first | omega | (simp only [List.length_append, List.length_map, List.length_take, List.length_drop, List.length_cons, List.length_nil, List.length_replicate]; omega) : _ ≤ _), ?_⟩) | refine ⟨by omega, by omega, ?_⟩ | refine ⟨c, hc, ?_⟩ | refine ⟨by omega, c, hc, ?_⟩ | refine ⟨d, hd1, ?_⟩ | refine ⟨by omega, d, hd1, ?_⟩ | (refine AWP.segP (id := 8) 15 mixed (by kernel_rfl) fun K hK => ?_; simp only [List.take_succ_cons, List.take_zero, List.drop_succ_cons, List.drop_zero]) | refine AWP.parR mixed (by kernel_rfl) fun K hK => ?_ | refine ⟨(by kernel_rfl : depB _ _ _ = true), ?_⟩ | refine Or.inl ?_) | (clear hK K))
    all_goals (refine ⟨(k + 2, acc ++ [d]), by simp only; omega, ⟨by simp only; omega, by simp only; omega, by simp only [List.length_append, List.length_cons, List.length_nil]; omega, by rw [hok]; simp⟩, Gh.to [(900, 76)] (by repeat (first | exact trivial | refine ⟨rfl, ?_⟩ | refine ⟨by (simp only [go_sem, zA, zB, zC, zD, zE, zF, zG, reduceCtorEq, zH, zI, zJ, zK, zL, List.length_append, List.length_map, List.length_cons, List.length_nil, Nat.zero_add]) <;> rfl, ?_⟩)) (by repeat (first | exact trivial | refine ⟨rfl, ?_⟩ | refine ⟨by (simp only [go_sem, zA, zB, zC, zD, zE, zF, zG, reduceCtorEq, zH, zI, zJ, zK, zL, List.length_append, List.length_map, List.length_cons, List.length_nil, Nat.zero_add]) <;> rfl, ?_⟩)) rfl rfl rfl⟩)
   have h4 : decide (((k + 4 : Nat) : Int) < (s.length : Int)) = true := by rw [decide_eq_true_eq]; omega
   obtain ⟨x, hx⟩ := byte_at (show k + 2 < s.length by omega)
   obtain ⟨y, hy⟩ := byte_at (show k + 3 < s.length by omega)
   obtain ⟨z, hz⟩ := byte_at hl4
   have hm : s.drop (k + 2) = x :: y :: z :: s.drop (k + 5) := by
    rw [List.drop_eq_getElem_cons (show k + 2 < s.length by omega), List.drop_eq_getElem_cons (show k + 2 + 1 < s.length by omega), List.drop_eq_getElem_cons (show k + 2 + 1 + 1 < s.length by omega), (List.getElem?_eq_some_iff.1 hx).2, (List.getElem?_eq_some_iff.1 hy).2, (List.getElem?_eq_some_iff.1 hz).2]
   have hE : Sx.escR d (s.drop (k + 2)) = bif decide (d.toNat = 120) then Sx.hexB x y else none := by rw [hm]; rfl
   have hn1 := nibble_c x
   have hn2 := nibble_c y
   cases h120 : decide ((d.toNat : Int) = 120) with
   | false =>
    have hN : Sx.escR d (s.drop (k + 2)) = none := by rw [hE, show decide (d.toNat = 120) = false by simp at h120 ⊢; omega]; rfl
    rw [hN] at hok
    simp only at hok
    repeat' (first | (simp only [go_sem, zA, zB, zC, zD, zE, zF, zG, reduceCtorEq, zH, zI, zJ, zK, zL, hd, h92, hw, hw2, h4, hw4, h120, snoc1, List.length_map]; all_goals fail_if_success guard_target =ₛ False) | (with_reducible first | ((first | refine seqVC_stepN rfl ?_ | refine seqVC_stepG rfl (by with_unfolding_all rfl) ?_ | refine AWP.seq ?_ | refine AWP.seqR (by kernel_rfl) ?_ | refine parVC_stepN rfl ?_ | refine parVC_stepG rfl (by with_unfolding_all rfl) ?_ | refine parEVC_stepN rfl ?_ | refine parEVC_stepG rfl (by with_unfolding_all rfl) ?_ | refine genVC_stepN rfl ?_ | refine genVC_stepG rfl (by with_unfolding_all rfl) ?_); intro K hK) | ((first | refine hK _ _ _ ?_ | refine hK _ _ ?_ | refine hK _ ?_); clear hK K) | refine seqVC_nil ?_ | refine parVC_nil ?_ | refine parEVC_nil ?_ | refine genVC_nil ?_ | refine AWP.block ?_ | (refine AWP.cond (by with_unfolding_all rfl) ?_ ?_ <;> intro h <;> (try simp only [zM, zN] at h) <;> try exact absurd h (by decide)) | refine AWP.skip ?_ | refine AWP.ret ?_ | refine AWP.exit ?_ | (refine ⟨fun h => ?_, fun h => ?_⟩ <;> (try simp only [zM, zN] at h) <;> try simp only [h]) | (refine ⟨(by first | omega | (simp only [List.length_append, List.length_map, List.length_take, List.length_drop, List.length_cons, List.length_nil, List.length_replicate]; omega) : _ ≤ _), ?_⟩) | refine ⟨by omega, by omega, ?_⟩ | refine ⟨c, hc, ?_⟩ | refine ⟨by omega, c, hc, ?_⟩ | refine ⟨d, hd1, ?_⟩ | refine ⟨by omega, d, hd1, ?_⟩ | (refine AWP.segP (id := 8) 15 mixed (by kernel_rfl) fun K hK => ?_; simp only [List.take_succ_cons, List.take_zero, List.drop_succ_cons, List.drop_zero]) | refine AWP.parR mixed (by kernel_rfl) fun K hK => ?_ | refine ⟨(by kernel_rfl : depB _ _ _ = true), ?_⟩ | refine Or.inl ?_) | (clear hK K))
    all_goals (refine ⟨(k + 2, acc ++ [d]), by simp only; omega, ⟨by simp only; omega, by simp only; omega, by simp only [List.length_append, List.length_cons, List.length_nil]; omega, by rw [hok]; simp⟩, Gh.to [(900, 76)] (by repeat (first | exact trivial | refine ⟨rfl, ?_⟩ | refine ⟨by (simp only [go_sem, zA, zB, zC, zD, zE, zF, zG, reduceCtorEq, zH, zI, zJ, zK, zL, List.length_append, List.length_map, List.length_cons, List.length_nil, Nat.zero_add]) <;> rfl, ?_⟩)) (by repeat (first | exact trivial | refine ⟨rfl, ?_⟩ | refine ⟨by (simp only [go_sem, zA, zB, zC, zD, zE, zF, zG, reduceCtorEq, zH, zI, zJ, zK, zL, List.length_append, List.length_map, List.length_cons, List.length_nil, Nat.zero_add]) <;> rfl, ?_⟩)) rfl rfl rfl⟩)
   | true =>
   rw [show decide (d.toNat = 120) = true by simp at h120 ⊢; omega, cond_true] at hE
   cases hvx : Sx.nibI x.toNat with
   | none =>
    have hN : Sx.escR d (s.drop (k + 2)) = none := by rw [hE]; simp only [Sx.hexB, hvx]
    rw [show hexVal x = -1 by unfold hexVal; rw [hvx]] at hn1
    have hneg : decide ((0 : Int) ≤ -1) = false := by decide
    rw [hN] at hok
    simp only at hok
    repeat' (first | (simp only [go_sem, zA, zB, zC, zD, zE, zF, zG, reduceCtorEq, zH, zI, zJ, zK, zL, hd, h92, hw, hw2, h4, hw4, hw22, hw3, h120, hneg, snoc1, List.length_map]; all_goals fail_if_success guard_target =ₛ False) | (with_reducible first | ((first | refine seqVC_stepN rfl ?_ | refine seqVC_stepG rfl (by with_unfolding_all rfl) ?_ | refine AWP.seq ?_ | refine AWP.seqR (by kernel_rfl) ?_ | refine parVC_stepN rfl ?_ | refine parVC_stepG rfl (by with_unfolding_all rfl) ?_ | refine parEVC_stepN rfl ?_ | refine parEVC_stepG rfl (by with_unfolding_all rfl) ?_ | refine genVC_stepN rfl ?_ | refine genVC_stepG rfl (by with_unfolding_all rfl) ?_); intro K hK) | ((first | refine hK _ _ _ ?_ | refine hK _ _ ?_ | refine hK _ ?_); clear hK K) | refine seqVC_nil ?_ | refine parVC_nil ?_ | refine parEVC_nil ?_ | refine genVC_nil ?_ | refine AWP.block ?_ | (refine AWP.cond (by with_unfolding_all rfl) ?_ ?_ <;> intro h <;> (try simp only [zM, zN] at h) <;> try exact absurd h (by decide)) | refine AWP.skip ?_ | refine AWP.ret ?_ | refine AWP.exit ?_ | (refine ⟨fun h => ?_, fun h => ?_⟩ <;> (try simp only [zM, zN] at h) <;> try simp only [h]) | (refine ⟨(by first | omega | (simp only [List.length_append, List.length_map, List.length_take, List.length_drop, List.length_cons, List.length_nil, List.length_replicate]; omega) : _ ≤ _), ?_⟩) | refine ⟨by omega, by omega, ?_⟩ | refine ⟨_, hn1, ?_⟩ | refine ⟨_, hn2, ?_⟩ | refine ⟨c, hc, ?_⟩ | refine ⟨by omega, c, hc, ?_⟩ | refine ⟨d, hd1, ?_⟩ | refine ⟨by omega, d, hd1, ?_⟩ | refine ⟨x, hx, ?_⟩ | refine ⟨by omega, x, hx, ?_⟩ | refine ⟨y, hy, ?_⟩ | refine ⟨by omega, y, hy, ?_⟩ | (refine AWP.segP (id := 8) 15 mixed (by kernel_rfl) fun K hK => ?_; simp only [List.take_succ_cons, List.take_zero, List.drop_succ_cons, List.drop_zero]) | refine AWP.parR mixed (by kernel_rfl) fun K hK => ?_ | refine ⟨(by kernel_rfl : depB _ _ _ = true), ?_⟩ | refine Or.inl ?_) | (clear hK K))
    all_goals (refine ⟨(k + 2, acc ++ [d]), by simp only; omega, ⟨by simp only; omega, by simp only; omega, by simp only [List.length_append, List.length_cons, List.length_nil]; omega, by rw [hok]; simp⟩, Gh.to [(900, 76)] (by repeat (first | exact trivial | refine ⟨rfl, ?_⟩ | refine ⟨by (simp only [go_sem, zA, zB, zC, zD, zE, zF, zG, reduceCtorEq, zH, zI, zJ, zK, zL, List.length_append, List.length_map, List.length_cons, List.length_nil, Nat.zero_add]) <;> rfl, ?_⟩)) (by repeat (first | exact trivial | refine ⟨rfl, ?_⟩ | refine ⟨by (simp only [go_sem, zA, zB, zC, zD, zE, zF, zG, reduceCtorEq, zH, zI, zJ, zK, zL, List.length_append, List.length_map, List.length_cons, List.length_nil, Nat.zero_add]) <;> rfl, ?_⟩)) rfl rfl rfl⟩)
   | some n =>
   have hnl := nibI_lt hvx
   rw [show hexVal x = (n : Int) by unfold hexVal; rw [hvx]] at hn1
   have hp1 : decide ((0 : Int) ≤ (n : Int)) = true := by simp
   cases hvy : Sx.nibI y.toNat with
   | none =>
    have hN : Sx.escR d (s.drop (k + 2)) = none := by rw [hE]; simp only [Sx.hexB, hvx, hvy]
    rw [show hexVal y = -1 by unfold hexVal; rw [hvy]] at hn2
    have hneg : decide ((0 : Int) ≤ -1) = false := by decide
    rw [hN] at hok
    simp only at hok
    repeat' (first | (simp only [go_sem, zA, zB, zC, zD, zE, zF, zG, reduceCtorEq, zH, zI, zJ, zK, zL, hd, h92, hw, hw2, h4, hw4, hw22, hw3, h120, hp1, hneg, snoc1, List.length_map]; all_goals fail_if_success guard_target =ₛ False) | (with_reducible first | ((first | refine seqVC_stepN rfl ?_ | refine seqVC_stepG rfl (by with_unfolding_all rfl) ?_ | refine AWP.seq ?_ | refine AWP.seqR (by kernel_rfl) ?_ | refine parVC_stepN rfl ?_ | refine parVC_stepG rfl (by with_unfolding_all rfl) ?_ | refine parEVC_stepN rfl ?_ | refine parEVC_stepG rfl (by with_unfolding_all rfl) ?_ | refine genVC_stepN rfl ?_ | refine genVC_stepG rfl (by with_unfolding_all rfl) ?_); intro K hK) | ((first | refine hK _ _ _ ?_ | refine hK _ _ ?_ | refine hK _ ?_); clear hK K) | refine seqVC_nil ?_ | refine parVC_nil ?_ | refine parEVC_nil ?_ | refine genVC_nil ?_ | refine AWP.block ?_ | (refine AWP.cond (by with_unfolding_all rfl) ?_ ?_ <;> intro h <;> (try simp only [zM, zN] at h) <;> try exact absurd h (by decide)) | refine AWP.skip ?_ | refine AWP.ret ?_ | refine AWP.exit ?_ | (refine ⟨fun h => ?_, fun h => ?_⟩ <;> (try simp only [zM, zN] at h) <;> try simp only [h]) | (refine ⟨(by first | omega | (simp only [List.length_append, List.length_map, List.length_take, List.length_drop, List.length_cons, List.length_nil, List.length_replicate]; omega) : _ ≤ _), ?_⟩) | refine ⟨by omega, by omega, ?_⟩ | refine ⟨_, hn1, ?_⟩ | refine ⟨_, hn2, ?_⟩ | refine ⟨c, hc, ?_⟩ | refine ⟨by omega, c, hc, ?_⟩ | refine ⟨d, hd1, ?_⟩ | refine ⟨by omega, d, hd1, ?_⟩ | refine ⟨x, hx, ?_⟩ | refine ⟨by omega, x, hx, ?_⟩ | refine ⟨y, hy, ?_⟩ | refine ⟨by omega, y, hy, ?_⟩ | (refine AWP.segP (id := 8) 15 mixed (by kernel_rfl) fun K hK => ?_; simp only [List.take_succ_cons, List.take_zero, List.drop_succ_cons, List.drop_zero]) | refine AWP.parR mixed (by kernel_rfl) fun K hK => ?_ | refine ⟨(by kernel_rfl : depB _ _ _ = true), ?_⟩ | refine Or.inl ?_) | (clear hK K))
    all_goals (refine ⟨(k + 2, acc ++ [d]), by simp only; omega, ⟨by simp only; omega, by simp only; omega, by simp only [List.length_append, List.length_cons, List.length_nil]; omega, by rw [hok]; simp⟩, Gh.to [(900, 76)] (by repeat (first | exact trivial | refine ⟨rfl, ?_⟩ | refine ⟨by (simp only [go_sem, zA, zB, zC, zD, zE, zF, zG, reduceCtorEq, zH, zI, zJ, zK, zL, List.length_append, List.length_map, List.length_cons, List.length_nil, Nat.zero_add]) <;> rfl, ?_⟩)) (by repeat (first | exact trivial | refine ⟨rfl, ?_⟩ | refine ⟨by (simp only [go_sem, zA, zB, zC, zD, zE, zF, zG, reduceCtorEq, zH, zI, zJ, zK, zL, List.length_append, List.length_map, List.length_cons, List.length_nil, Nat.zero_add]) <;> rfl, ?_⟩)) rfl rfl rfl⟩)
   | some m =>
   have hml := nibI_lt hvy
   rw [show hexVal y = (m : Int) by unfold hexVal; rw [hvy]] at hn2
   have hp2 : decide ((0 : Int) ≤ (m : Int)) = true := by simp
   have hN : Sx.escR d (s.drop (k + 2)) = some (UInt8.ofNat (16 * n + m)) := by rw [hE]; simp only [Sx.hexB, hvx, hvy]
   have q1 : IntKind.i64.wrap (16 * (n : Int)) = ((16 * n : Nat) : Int) := by rw [wrapId _ (by omega) (by omega)]; omega
   have q2 : IntKind.i64.wrap (((16 * n : Nat) : Int) + (m : Int)) = ((16 * n + m : Nat) : Int) := by rw [wrapId _ (by omega) (by omega)]; omega
   have q3 : IntKind.u8.wrap ((16 * n + m : Nat) : Int) = ((UInt8.ofNat (16 * n + m)).toNat : Int) := by
    have : (UInt8.ofNat (16 * n + m)).toNat = 16 * n + m := by rw [UInt8.toNat_ofNat']; omega
    rw [this]; simp [IntKind.wrap, IntKind.signed, IntKind.bits]; omega
   rw [hN] at hok
   simp only [List.drop_drop] at hok
   repeat' (first | (simp only [go_sem, zA, zB, zC, zD, zE, zF, zG, reduceCtorEq, zH, zI, zJ, zK, zL, hd, h92, hw, hw2, h4, hw4, hw22, hw3, hw33, h120, hp1, hp2, q1, q2, q3, snoc1, List.length_map]; all_goals fail_if_success guard_target =ₛ False) | (with_reducible first | ((first | refine seqVC_stepN rfl ?_ | refine seqVC_stepG rfl (by with_unfolding_all rfl) ?_ | refine AWP.seq ?_ | refine AWP.seqR (by kernel_rfl) ?_ | refine parVC_stepN rfl ?_ | refine parVC_stepG rfl (by with_unfolding_all rfl) ?_ | refine parEVC_stepN rfl ?_ | refine parEVC_stepG rfl (by with_unfolding_all rfl) ?_ | refine genVC_stepN rfl ?_ | refine genVC_stepG rfl (by with_unfolding_all rfl) ?_); intro K hK) | ((first | refine hK _ _ _ ?_ | refine hK _ _ ?_ | refine hK _ ?_); clear hK K) | refine seqVC_nil ?_ | refine parVC_nil ?_ | refine parEVC_nil ?_ | refine genVC_nil ?_ | refine AWP.block ?_ | (refine AWP.cond (by with_unfolding_all rfl) ?_ ?_ <;> intro h <;> (try simp only [zM, zN] at h) <;> try exact absurd h (by decide)) | refine AWP.skip ?_ | refine AWP.ret ?_ | refine AWP.exit ?_ | (refine ⟨fun h => ?_, fun h => ?_⟩ <;> (try simp only [zM, zN] at h) <;> try simp only [h]) | (refine ⟨(by first | omega | (simp only [List.length_append, List.length_map, List.length_take, List.length_drop, List.length_cons, List.length_nil, List.length_replicate]; omega) : _ ≤ _), ?_⟩) | refine ⟨by omega, by omega, ?_⟩ | refine ⟨_, hn1, ?_⟩ | refine ⟨_, hn2, ?_⟩ | refine ⟨c, hc, ?_⟩ | refine ⟨by omega, c, hc, ?_⟩ | refine ⟨d, hd1, ?_⟩ | refine ⟨by omega, d, hd1, ?_⟩ | refine ⟨x, hx, ?_⟩ | refine ⟨by omega, x, hx, ?_⟩ | refine ⟨y, hy, ?_⟩ | refine ⟨by omega, y, hy, ?_⟩ | (refine AWP.segP (id := 8) 15 mixed (by kernel_rfl) fun K hK => ?_; simp only [List.take_succ_cons, List.take_zero, List.drop_succ_cons, List.drop_zero]) | refine AWP.parR mixed (by kernel_rfl) fun K hK => ?_ | refine ⟨(by kernel_rfl : depB _ _ _ = true), ?_⟩ | refine Or.inl ?_) | (clear hK K))
   all_goals (refine ⟨(k + 4, acc ++ [UInt8.ofNat (16 * n + m)]), by simp only; omega, ⟨by simp only; omega, by simp only; omega, by simp only [List.length_append, List.length_cons, List.length_nil]; omega, by rw [hok]; simp⟩, Gh.to [(900, 66)] (by repeat (first | exact trivial | refine ⟨rfl, ?_⟩ | refine ⟨by (simp only [go_sem, zA, zB, zC, zD, zE, zF, zG, reduceCtorEq, zH, zI, zJ, zK, zL, List.length_append, List.length_map, List.length_cons, List.length_nil, Nat.zero_add]) <;> rfl, ?_⟩)) (by repeat (first | exact trivial | refine ⟨rfl, ?_⟩ | refine ⟨by (simp only [go_sem, zA, zB, zC, zD, zE, zF, zG, reduceCtorEq, zH, zI, zJ, zK, zL, List.length_append, List.length_map, List.length_cons, List.length_nil, Nat.zero_add]) <;> rfl, ?_⟩)) rfl rfl rfl⟩)
 ·have hd : decide (IntKind.i64.wrap ((k : Int) + 1) < (s.length : Int)) = false := by
   rw [decide_eq_false_iff_not, wrapId _ (by omega) (by omega)]; omega
  have hnil : Sx.decR (s.drop k) = [] := by
   have : (s.drop k).length < 2 := by rw [List.length_drop]; omega
   match s.drop k, this with
   | [], _ => rw [Sx.decR]
   | [_], _ => rw [Sx.decR]
  rw [hnil, List.append_nil] at hok
  subst hok
  have hq := rquote_c (Sx.decR (s.drop 1)) (by omega)
  unfold Sx.unqV
  cases hz : decide (Sx.quoteL (Sx.decR (s.drop 1)) = s) with
  | true =>
   repeat' (first | (simp only [go_sem, zA, zB, zC, zD, zE, zF, zG, reduceCtorEq, zH, zI, zJ, zK, zL, hd, hz, List.length_map]; all_goals fail_if_success guard_target =ₛ False) | (with_reducible first | ((first | refine seqVC_stepN rfl ?_ | refine seqVC_stepG rfl (by with_unfolding_all rfl) ?_ | refine AWP.seq ?_ | refine AWP.seqR (by kernel_rfl) ?_ | refine parVC_stepN rfl ?_ | refine parVC_stepG rfl (by with_unfolding_all rfl) ?_ | refine parEVC_stepN rfl ?_ | refine parEVC_stepG rfl (by with_unfolding_all rfl) ?_ | refine genVC_stepN rfl ?_ | refine genVC_stepG rfl (by with_unfolding_all rfl) ?_); intro K hK) | ((first | refine hK _ _ _ ?_ | refine hK _ _ ?_ | refine hK _ ?_); clear hK K) | refine seqVC_nil ?_ | refine parVC_nil ?_ | refine parEVC_nil ?_ | refine genVC_nil ?_ | refine AWP.block ?_ | (refine AWP.cond (by with_unfolding_all rfl) ?_ ?_ <;> intro h <;> (try simp only [zM, zN] at h) <;> try exact absurd h (by decide)) | refine AWP.skip ?_ | refine AWP.ret ?_ | refine AWP.exit ?_ | (refine ⟨fun h => ?_, fun h => ?_⟩ <;> (try simp only [zM, zN] at h) <;> try simp only [h]) | refine ⟨_, hq, ?_⟩ | (refine AWP.segP (id := 8) 15 mixed (by kernel_rfl) fun K hK => ?_; simp only [List.take_succ_cons, List.take_zero, List.drop_succ_cons, List.drop_zero]) | refine AWP.parR mixed (by kernel_rfl) fun K hK => ?_ | refine ⟨(by kernel_rfl : depB _ _ _ = true), ?_⟩ | refine Or.inl ?_) | (clear hK K))
   all_goals (first | exact fun _ h => absurd h List.not_mem_nil | refine fin0 ?_)
   all_goals (simp only [Sx.unqV, hz]; rfl)
  | false =>
   repeat' (first | (simp only [go_sem, zA, zB, zC, zD, zE, zF, zG, reduceCtorEq, zH, zI, zJ, zK, zL, hd, hz, List.length_map]; all_goals fail_if_success guard_target =ₛ False) | (with_reducible first | ((first | refine seqVC_stepN rfl ?_ | refine seqVC_stepG rfl (by with_unfolding_all rfl) ?_ | refine AWP.seq ?_ | refine AWP.seqR (by kernel_rfl) ?_ | refine parVC_stepN rfl ?_ | refine parVC_stepG rfl (by with_unfolding_all rfl) ?_ | refine parEVC_stepN rfl ?_ | refine parEVC_stepG rfl (by with_unfolding_all rfl) ?_ | refine genVC_stepN rfl ?_ | refine genVC_stepG rfl (by with_unfolding_all rfl) ?_); intro K hK) | ((first | refine hK _ _ _ ?_ | refine hK _ _ ?_ | refine hK _ ?_); clear hK K) | refine seqVC_nil ?_ | refine parVC_nil ?_ | refine parEVC_nil ?_ | refine genVC_nil ?_ | refine AWP.block ?_ | (refine AWP.cond (by with_unfolding_all rfl) ?_ ?_ <;> intro h <;> (try simp only [zM, zN] at h) <;> try exact absurd h (by decide)) | refine AWP.skip ?_ | refine AWP.ret ?_ | refine AWP.exit ?_ | (refine ⟨fun h => ?_, fun h => ?_⟩ <;> (try simp only [zM, zN] at h) <;> try simp only [h]) | refine ⟨_, hq, ?_⟩ | (refine AWP.segP (id := 8) 15 mixed (by kernel_rfl) fun K hK => ?_; simp only [List.take_succ_cons, List.take_zero, List.drop_succ_cons, List.drop_zero]) | refine AWP.parR mixed (by kernel_rfl) fun K hK => ?_ | refine ⟨(by kernel_rfl : depB _ _ _ = true), ?_⟩ | refine Or.inl ?_) | (clear hK K))
   all_goals (first | exact fun _ h => absurd h List.not_mem_nil | refine fin0 ?_)
   all_goals (simp only [Sx.unqV, hz]; rfl)
theorem decA_drop {d : List UInt8} {k : Nat} {b : UInt8} (h : d[k]? = some b) (acc : Nat) : decA acc (d.drop k) = decA (acc * 10 + (b.toNat - 48)) (d.drop (k + 1)) := by
 obtain ⟨hk, rfl⟩ := List.getElem?_eq_some_iff.1 h
 rw [List.drop_eq_getElem_cons hk, decA_cons]
theorem wrapU (z : Int) (h0 : 0 ≤ z) (h1 : z < 18446744073709551616) : IntKind.u64.wrap z = z := by
 simp only [IntKind.wrap, IntKind.signed, IntKind.bits]
 simp; omega
theorem rnumber_n (b : UInt8) (r : List UInt8) (hd : allDig (b :: r)) (hl : (b :: r).length ≤ 1000000000) :
  PC Tryz.prog 41 [S (45 :: b :: r)] (.tup [I .i64 (numM true (b :: r)).1, I .i64 (numM true (b :: r)).2]) := by
 have hb := dig_bd (hd b List.mem_cons_self)
 obtain ⟨X, hX⟩ : ∃ X, X = 45 :: b :: r := ⟨_, rfl⟩
 obtain ⟨c, hc, hcn⟩ : ∃ c, X[0]? = some c ∧ decide ((c.toNat : Int) = 45) = true := by subst hX; exact ⟨45, rfl, by decide⟩
 have hcut : X.drop 1 = b :: r := by subst hX; rfl
 have hXl : X.length ≤ 1000000001 ∧ 1 ≤ X.length := by subst hX; simp only [List.length_cons] at hl ⊢; omega
 rw [← hX]
 clear hX
 skip
 have hb0 : (b :: r)[0]? = some b := rfl
 have hh : decide ((b :: r).head? = some 48) = decide ((b.toNat : Int) = 48) := by rw [b48]; simp
 obtain ⟨d, hdd⟩ : ∃ d, d = b :: r := ⟨_, rfl⟩
 rw [← hdd] at hd hl hcut hb0 hh ⊢
 have hdl : 1 ≤ d.length := by rw [hdd]; simp
 clear hdd
 refine PCB.of_body Tryz.func41 rfl (by decide) Tryz.ntmps41 Tryz.results41 rfl rfl rfl ?_ rfl rfl
 cases h48 : decide ((b.toNat : Int) = 48) with
 | true =>
  have hr : numM true d = (0, 5) := by unfold numM; rw [hh]; simp only [h48, Bool.or_true, Bool.or_false, Bool.and_true, cond_true]
  rw [hr]
  repeat' (first | (simp only [go_sem, zA, zB, zC, zD, zE, zF, zG, reduceCtorEq, zH, zI, zJ, zK, zL, hcn, List.take_length, hcut, h48]; all_goals fail_if_success guard_target =ₛ False) | (with_reducible first | ((first | refine seqVC_stepN rfl ?_ | refine seqVC_stepG rfl (by with_unfolding_all rfl) ?_ | refine AWP.seq ?_ | refine AWP.seqR (by kernel_rfl) ?_); intro K hK) | ((first | refine hK _ _ _ ?_ | refine hK _ _ ?_ | refine hK _ ?_); clear hK K) | refine seqVC_nil ?_ | refine AWP.block ?_ | (refine AWP.cond (by with_unfolding_all rfl) ?_ ?_ <;> intro h <;> (try simp only [zM, zN] at h) <;> try exact absurd h (by decide)) | refine AWP.skip ?_ | refine AWP.ret ?_ | refine AWP.exit ?_ | (refine ⟨fun h => ?_, fun h => ?_⟩ <;> (try simp only [zM, zN] at h) <;> try simp only [h]) | refine ⟨by omega, by omega, by omega, ?_⟩ | refine ⟨by omega, by omega, ?_⟩ | refine ⟨c, hc, ?_⟩ | refine ⟨by omega, c, hc, ?_⟩ | refine ⟨b, hb0, ?_⟩ | refine ⟨by omega, b, hb0, ?_⟩ | refine Or.inl ?_) | (clear hK K))
  all_goals (first | exact fun _ h => absurd h List.not_mem_nil | refine fin0 ?_)
  all_goals rfl
 | false =>
  have hrr : numM true d = bif decide (decA 0 d ≤ 9223372036854775808) then (-(decA 0 d : Int), 0) else (0, 2) := by unfold numM; rw [hh]; simp only [h48, Bool.or_true, Bool.or_false, Bool.and_true, cond_false, cond_true]
  rw [hrr]
  repeat' (first | (simp only [go_sem, zA, zB, zC, zD, zE, zF, zG, reduceCtorEq, zH, zI, zJ, zK, zL, hcn, List.take_length, hcut, h48]; all_goals fail_if_success guard_target =ₛ False) | (with_reducible first | ((first | refine seqVC_stepN rfl ?_ | refine seqVC_stepG rfl (by with_unfolding_all rfl) ?_ | refine AWP.seq ?_ | refine AWP.seqR (by kernel_rfl) ?_); intro K hK) | ((first | refine hK _ _ _ ?_ | refine hK _ _ ?_ | refine hK _ ?_); clear hK K) | refine seqVC_nil ?_ | refine AWP.block ?_ | (refine AWP.cond (by with_unfolding_all rfl) ?_ ?_ <;> intro h <;> (try simp only [zM, zN] at h) <;> try exact absurd h (by decide)) | refine AWP.skip ?_ | refine AWP.ret ?_ | refine AWP.exit ?_ | (refine ⟨fun h => ?_, fun h => ?_⟩ <;> (try simp only [zM, zN] at h) <;> try simp only [h]) | refine ⟨by omega, by omega, by omega, ?_⟩ | refine ⟨by omega, by omega, ?_⟩ | refine ⟨c, hc, ?_⟩ | refine ⟨by omega, c, hc, ?_⟩ | refine ⟨b, hb0, ?_⟩ | refine ⟨by omega, b, hb0, ?_⟩ | refine Or.inl ?_) | (clear hK K))
  refine AWP.loopF (X := Nat × Nat) (fun x => [(7, I .i64 (x.1 : Nat)), (6, I .u64 (x.2 : Nat))]) (fun x => []) [4, 5] [] (fun x => x.1 ≤ d.length ∧ decA 0 d = decA x.2 (d.drop x.1) ∧ x.2 ≤ 9223372036854775809) (fun x => d.length - x.1) ((0, 0)) (by simp only [go_sem, zA, zB, zC, zD, zE, zF, zG, reduceCtorEq, zH, zI, zJ, zK, zL]; exact Gh.to [] (by repeat (first | exact trivial | refine ⟨rfl, ?_⟩ | refine ⟨by (simp only [go_sem, zA, zB, zC, zD, zE, zF, zG, reduceCtorEq, zH, zI, zJ, zK, zL, List.length_append, List.length_map, List.length_cons, List.length_nil, Nat.zero_add]) <;> rfl, ?_⟩)) (by repeat (first | exact trivial | refine ⟨rfl, ?_⟩ | refine ⟨by (simp only [go_sem, zA, zB, zC, zD, zE, zF, zG, reduceCtorEq, zH, zI, zJ, zK, zL, List.length_append, List.length_map, List.length_cons, List.length_nil, Nat.zero_add]) <;> rfl, ?_⟩)) rfl rfl rfl) ?_ ?_
  ·exact ⟨Nat.zero_le _, rfl, by omega⟩
  rintro ⟨k, acc⟩ ⟨hk, hok, hac⟩
  simp only at hk hok hac
  simp only [go_sem, zA, zB, zC, zD, zE, zF, zG, reduceCtorEq, zH, zI, zJ, zK, zL]
  by_cases hlt : k < d.length
  ·obtain ⟨x, hx⟩ := byte_at hlt
   have hlt' : decide ((k : Int) < (d.length : Int)) = true := by rw [decide_eq_true_eq]; omega
   have hw := wk64 hlt (show d.length ≤ 1000000000000 by omega)
   have hxb := dig_bd (hd x (List.mem_of_getElem? hx))
   cases hbig : decide ((922337203685477580 : Int) < (acc : Int)) with
   | true =>
    have hge : acc * 10 ≤ decA 0 d := by rw [hok]; exact decA_mul (by intro e; have := congrArg List.length e; rw [List.length_drop] at this; simp at this; omega) acc
    have hbig' : 922337203685477580 < acc := by simp only [decide_eq_true_eq, decide_eq_false_iff_not] at hbig; omega
    have hv := decide_eq_false (show ¬ decA 0 d ≤ 9223372036854775808 by omega)
    repeat' (first | (simp only [go_sem, zA, zB, zC, zD, zE, zF, zG, reduceCtorEq, zH, zI, zJ, zK, zL, hlt', hbig]; all_goals fail_if_success guard_target =ₛ False) | (with_reducible first | ((first | refine seqVC_stepN rfl ?_ | refine seqVC_stepG rfl (by with_unfolding_all rfl) ?_ | refine AWP.seq ?_ | refine AWP.seqR (by kernel_rfl) ?_); intro K hK) | ((first | refine hK _ _ _ ?_ | refine hK _ _ ?_ | refine hK _ ?_); clear hK K) | refine seqVC_nil ?_ | refine AWP.block ?_ | (refine AWP.cond (by with_unfolding_all rfl) ?_ ?_ <;> intro h <;> (try simp only [zM, zN] at h) <;> try exact absurd h (by decide)) | refine AWP.skip ?_ | refine AWP.ret ?_ | refine AWP.exit ?_ | (refine ⟨fun h => ?_, fun h => ?_⟩ <;> (try simp only [zM, zN] at h) <;> try simp only [h]) | refine Or.inl ?_) | (clear hK K))
    all_goals (first | exact fun _ h => absurd h List.not_mem_nil | refine fin0 ?_)
    all_goals (simp only [hv, cond_false] <;> rfl)
   | false =>
    have hbig' : ¬ 922337203685477580 < acc := by simp only [decide_eq_true_eq, decide_eq_false_iff_not] at hbig; omega
    rw [decA_drop hx] at hok
    have q1 : IntKind.u64.wrap (10 * (acc : Int)) = ((10 * acc : Nat) : Int) := by rw [wrapU _ (by omega) (by omega)]; omega
    have q2 : IntKind.u8.wrap ((x.toNat : Int) - 48) = ((x.toNat - 48 : Nat) : Int) := by simp [IntKind.wrap, IntKind.signed, IntKind.bits]; omega
    have q3 : IntKind.u64.wrap ((x.toNat - 48 : Nat) : Int) = ((x.toNat - 48 : Nat) : Int) := wrapU _ (by omega) (by omega)
    have q4 : IntKind.u64.wrap (((10 * acc : Nat) : Int) + ((x.toNat - 48 : Nat) : Int)) = ((acc * 10 + (x.toNat - 48) : Nat) : Int) := by rw [wrapU _ (by omega) (by omega)]; omega
    repeat' (first | (simp only [go_sem, zA, zB, zC, zD, zE, zF, zG, reduceCtorEq, zH, zI, zJ, zK, zL, hlt', hbig, hw, q1, q2, q3, q4]; all_goals fail_if_success guard_target =ₛ False) | (with_reducible first | ((first | refine seqVC_stepN rfl ?_ | refine seqVC_stepG rfl (by with_unfolding_all rfl) ?_ | refine AWP.seq ?_ | refine AWP.seqR (by kernel_rfl) ?_); intro K hK) | ((first | refine hK _ _ _ ?_ | refine hK _ _ ?_ | refine hK _ ?_); clear hK K) | refine seqVC_nil ?_ | refine AWP.block ?_ | (refine AWP.cond (by with_unfolding_all rfl) ?_ ?_ <;> intro h <;> (try simp only [zM, zN] at h) <;> try exact absurd h (by decide)) | refine AWP.skip ?_ | refine AWP.ret ?_ | refine AWP.exit ?_ | (refine ⟨fun h => ?_, fun h => ?_⟩ <;> (try simp only [zM, zN] at h) <;> try simp only [h]) | refine ⟨x, hx, ?_⟩ | refine ⟨by omega, x, hx, ?_⟩ | refine Or.inl ?_) | (clear hK K))
    all_goals (refine ⟨(k + 1, acc * 10 + (x.toNat - 48)), by simp only; omega, ⟨by simp only; omega, hok, by simp only; omega⟩, Gh.to [] (by repeat (first | exact trivial | refine ⟨rfl, ?_⟩ | refine ⟨by (simp only [go_sem, zA, zB, zC, zD, zE, zF, zG, reduceCtorEq, zH, zI, zJ, zK, zL, List.length_append, List.length_map, List.length_cons, List.length_nil, Nat.zero_add]) <;> rfl, ?_⟩)) (by repeat (first | exact trivial | refine ⟨rfl, ?_⟩ | refine ⟨by (simp only [go_sem, zA, zB, zC, zD, zE, zF, zG, reduceCtorEq, zH, zI, zJ, zK, zL, List.length_append, List.length_map, List.length_cons, List.length_nil, Nat.zero_add]) <;> rfl, ?_⟩)) rfl rfl rfl⟩)
  ·have hlt' : decide ((k : Int) < (d.length : Int)) = false := by rw [decide_eq_false_iff_not]; omega
   rw [List.drop_eq_nil_of_le (by omega)] at hok
   simp only [decA] at hok
   cases hf : decide ((acc : Int) ≤ 9223372036854775808) with
   | true =>
    have hf' : acc ≤ 9223372036854775808 := by simp at hf; omega
    have q5 : IntKind.i64.wrap (0 - IntKind.i64.wrap (acc : Int)) = -(acc : Int) := by
     simp only [IntKind.wrap, IntKind.signed, IntKind.bits]
     simp
     split <;> split <;> omega
    repeat' (first | (simp only [go_sem, zA, zB, zC, zD, zE, zF, zG, reduceCtorEq, zH, zI, zJ, zK, zL, hlt', hf, q5]; all_goals fail_if_success guard_target =ₛ False) | (with_reducible first | ((first | refine seqVC_stepN rfl ?_ | refine seqVC_stepG rfl (by with_unfolding_all rfl) ?_ | refine AWP.seq ?_ | refine AWP.seqR (by kernel_rfl) ?_); intro K hK) | ((first | refine hK _ _ _ ?_ | refine hK _ _ ?_ | refine hK _ ?_); clear hK K) | refine seqVC_nil ?_ | refine AWP.block ?_ | (refine AWP.cond (by with_unfolding_all rfl) ?_ ?_ <;> intro h <;> (try simp only [zM, zN] at h) <;> try exact absurd h (by decide)) | refine AWP.skip ?_ | refine AWP.ret ?_ | refine AWP.exit ?_ | (refine ⟨fun h => ?_, fun h => ?_⟩ <;> (try simp only [zM, zN] at h) <;> try simp only [h]) | refine Or.inl ?_) | (clear hK K))
    all_goals (first | exact fun _ h => absurd h List.not_mem_nil | refine fin0 ?_)
    all_goals (simp only [hok, decide_eq_true hf', cond_true] <;> rfl)
   | false =>
    have hf' : ¬ acc ≤ 9223372036854775808 := by simp at hf; omega
    have hf2 : decide ((9223372036854775808 : Int) ≤ (acc : Int)) = true := by rw [decide_eq_true_eq]; omega
    repeat' (first | (simp only [go_sem, zA, zB, zC, zD, zE, zF, zG, reduceCtorEq, zH, zI, zJ, zK, zL, hlt', hf, hf2]; all_goals fail_if_success guard_target =ₛ False) | (with_reducible first | ((first | refine seqVC_stepN rfl ?_ | refine seqVC_stepG rfl (by with_unfolding_all rfl) ?_ | refine AWP.seq ?_ | refine AWP.seqR (by kernel_rfl) ?_); intro K hK) | ((first | refine hK _ _ _ ?_ | refine hK _ _ ?_ | refine hK _ ?_); clear hK K) | refine seqVC_nil ?_ | refine AWP.block ?_ | (refine AWP.cond (by with_unfolding_all rfl) ?_ ?_ <;> intro h <;> (try simp only [zM, zN] at h) <;> try exact absurd h (by decide)) | refine AWP.skip ?_ | refine AWP.ret ?_ | refine AWP.exit ?_ | (refine ⟨fun h => ?_, fun h => ?_⟩ <;> (try simp only [zM, zN] at h) <;> try simp only [h]) | refine Or.inl ?_) | (clear hK K))
    all_goals (first | exact fun _ h => absurd h List.not_mem_nil | refine fin0 ?_)
    all_goals (simp only [hok, decide_eq_false hf', cond_false] <;> rfl)
theorem rnumber_p (b : UInt8) (r : List UInt8) (hd : allDig (b :: r)) (hl : (b :: r).length ≤ 1000000000) :
  PC Tryz.prog 41 [S (b :: r)] (.tup [I .i64 (numM false (b :: r)).1, I .i64 (numM false (b :: r)).2]) := by
 have hb := dig_bd (hd b List.mem_cons_self)
 have hcn : decide ((b.toNat : Int) = 45) = false := by rw [decide_eq_false_iff_not]; omega
 have hb0 : (b :: r)[0]? = some b := rfl
 have hh : decide ((b :: r).head? = some 48) = decide ((b.toNat : Int) = 48) := by rw [b48]; simp
 obtain ⟨d, hdd⟩ : ∃ d, d = b :: r := ⟨_, rfl⟩
 rw [← hdd] at hd hl hb0 hh ⊢
 have hdl : 1 ≤ d.length := by rw [hdd]; simp
 clear hdd
 refine PCB.of_body Tryz.func41 rfl (by decide) Tryz.ntmps41 Tryz.results41 rfl rfl rfl ?_ rfl rfl
 cases h48 : decide ((b.toNat : Int) = 48) && decide (1 < d.length) with
 | true =>
  have hr : numM false d = (0, 5) := by unfold numM; rw [hh]; simp only [h48, Bool.or_true, Bool.or_false, Bool.and_true, cond_true]
  rw [hr]
  have h1 : decide ((b.toNat : Int) = 48) = true := by simp only [Bool.and_eq_true] at h48; exact h48.1
  have h2 : decide ((1 : Int) < (d.length : Int)) = true := by simp only [Bool.and_eq_true, decide_eq_true_eq] at h48 ⊢; omega
  repeat' (first | (simp only [go_sem, zA, zB, zC, zD, zE, zF, zG, reduceCtorEq, zH, zI, zJ, zK, zL, hcn, List.take_length, h1, h2]; all_goals fail_if_success guard_target =ₛ False) | (with_reducible first | ((first | refine seqVC_stepN rfl ?_ | refine seqVC_stepG rfl (by with_unfolding_all rfl) ?_ | refine AWP.seq ?_ | refine AWP.seqR (by kernel_rfl) ?_); intro K hK) | ((first | refine hK _ _ _ ?_ | refine hK _ _ ?_ | refine hK _ ?_); clear hK K) | refine seqVC_nil ?_ | refine AWP.block ?_ | (refine AWP.cond (by with_unfolding_all rfl) ?_ ?_ <;> intro h <;> (try simp only [zM, zN] at h) <;> try exact absurd h (by decide)) | refine AWP.skip ?_ | refine AWP.ret ?_ | refine AWP.exit ?_ | (refine ⟨fun h => ?_, fun h => ?_⟩ <;> (try simp only [zM, zN] at h) <;> try simp only [h]) | refine ⟨by omega, by omega, by omega, ?_⟩ | refine ⟨by omega, by omega, ?_⟩ | refine ⟨b, hb0, ?_⟩ | refine ⟨by omega, b, hb0, ?_⟩ | refine Or.inl ?_) | (clear hK K))
  all_goals (first | exact fun _ h => absurd h List.not_mem_nil | refine fin0 ?_)
  all_goals rfl
 | false =>
  have hrr : numM false d = bif decide (decA 0 d < 9223372036854775808) then ((decA 0 d : Int), 0) else (0, 2) := by unfold numM; rw [hh]; simp only [h48, Bool.or_true, Bool.or_false, Bool.and_true, cond_false, cond_true]
  rw [hrr]
  cases h1 : decide ((b.toNat : Int) = 48) <;> cases h2 : decide ((1 : Int) < (d.length : Int))
  case true.true => exact absurd h48 (by rw [h1]; simp only [decide_eq_true_eq] at h2; simp; omega)
  all_goals
   repeat' (first | (simp only [go_sem, zA, zB, zC, zD, zE, zF, zG, reduceCtorEq, zH, zI, zJ, zK, zL, hcn, List.take_length, h1, h2]; all_goals fail_if_success guard_target =ₛ False) | (with_reducible first | ((first | refine seqVC_stepN rfl ?_ | refine seqVC_stepG rfl (by with_unfolding_all rfl) ?_ | refine AWP.seq ?_ | refine AWP.seqR (by kernel_rfl) ?_); intro K hK) | ((first | refine hK _ _ _ ?_ | refine hK _ _ ?_ | refine hK _ ?_); clear hK K) | refine seqVC_nil ?_ | refine AWP.block ?_ | (refine AWP.cond (by with_unfolding_all rfl) ?_ ?_ <;> intro h <;> (try simp only [zM, zN] at h) <;> try exact absurd h (by decide)) | refine AWP.skip ?_ | refine AWP.ret ?_ | refine AWP.exit ?_ | (refine ⟨fun h => ?_, fun h => ?_⟩ <;> (try simp only [zM, zN] at h) <;> try simp only [h]) | refine ⟨by omega, by omega, by omega, ?_⟩ | refine ⟨by omega, by omega, ?_⟩ | refine ⟨b, hb0, ?_⟩ | refine ⟨by omega, b, hb0, ?_⟩ | refine Or.inl ?_) | (clear hK K))
   refine AWP.loopF (X := Nat × Nat) (fun x => [(7, I .i64 (x.1 : Nat)), (6, I .u64 (x.2 : Nat))]) (fun x => []) [4, 5] [] (fun x => x.1 ≤ d.length ∧ decA 0 d = decA x.2 (d.drop x.1) ∧ x.2 ≤ 9223372036854775809) (fun x => d.length - x.1) ((0, 0)) (by simp only [go_sem, zA, zB, zC, zD, zE, zF, zG, reduceCtorEq, zH, zI, zJ, zK, zL]; exact Gh.to [] (by repeat (first | exact trivial | refine ⟨rfl, ?_⟩ | refine ⟨by (simp only [go_sem, zA, zB, zC, zD, zE, zF, zG, reduceCtorEq, zH, zI, zJ, zK, zL, List.length_append, List.length_map, List.length_cons, List.length_nil, Nat.zero_add]) <;> rfl, ?_⟩)) (by repeat (first | exact trivial | refine ⟨rfl, ?_⟩ | refine ⟨by (simp only [go_sem, zA, zB, zC, zD, zE, zF, zG, reduceCtorEq, zH, zI, zJ, zK, zL, List.length_append, List.length_map, List.length_cons, List.length_nil, Nat.zero_add]) <;> rfl, ?_⟩)) rfl rfl rfl) ?_ ?_
   ·exact ⟨Nat.zero_le _, rfl, by omega⟩
   rintro ⟨k, acc⟩ ⟨hk, hok, hac⟩
   simp only at hk hok hac
   simp only [go_sem, zA, zB, zC, zD, zE, zF, zG, reduceCtorEq, zH, zI, zJ, zK, zL]
   by_cases hlt : k < d.length
   ·obtain ⟨x, hx⟩ := byte_at hlt
    have hlt' : decide ((k : Int) < (d.length : Int)) = true := by rw [decide_eq_true_eq]; omega
    have hw := wk64 hlt (show d.length ≤ 1000000000000 by omega)
    have hxb := dig_bd (hd x (List.mem_of_getElem? hx))
    cases hbig : decide ((922337203685477580 : Int) < (acc : Int)) with
    | true =>
     have hge : acc * 10 ≤ decA 0 d := by rw [hok]; exact decA_mul (by intro e; have := congrArg List.length e; rw [List.length_drop] at this; simp at this; omega) acc
     have hbig' : 922337203685477580 < acc := by simp only [decide_eq_true_eq, decide_eq_false_iff_not] at hbig; omega
     have hv := decide_eq_false (show ¬ decA 0 d < 9223372036854775808 by omega)
     repeat' (first | (simp only [go_sem, zA, zB, zC, zD, zE, zF, zG, reduceCtorEq, zH, zI, zJ, zK, zL, hlt', hbig]; all_goals fail_if_success guard_target =ₛ False) | (with_reducible first | ((first | refine seqVC_stepN rfl ?_ | refine seqVC_stepG rfl (by with_unfolding_all rfl) ?_ | refine AWP.seq ?_ | refine AWP.seqR (by kernel_rfl) ?_); intro K hK) | ((first | refine hK _ _ _ ?_ | refine hK _ _ ?_ | refine hK _ ?_); clear hK K) | refine seqVC_nil ?_ | refine AWP.block ?_ | (refine AWP.cond (by with_unfolding_all rfl) ?_ ?_ <;> intro h <;> (try simp only [zM, zN] at h) <;> try exact absurd h (by decide)) | refine AWP.skip ?_ | refine AWP.ret ?_ | refine AWP.exit ?_ | (refine ⟨fun h => ?_, fun h => ?_⟩ <;> (try simp only [zM, zN] at h) <;> try simp only [h]) | refine Or.inl ?_) | (clear hK K))
     all_goals (first | exact fun _ h => absurd h List.not_mem_nil | refine fin0 ?_)
     all_goals (simp only [hv, cond_false] <;> rfl)
    | false =>
     have hbig' : ¬ 922337203685477580 < acc := by simp only [decide_eq_true_eq, decide_eq_false_iff_not] at hbig; omega
     rw [decA_drop hx] at hok
     have q1 : IntKind.u64.wrap (10 * (acc : Int)) = ((10 * acc : Nat) : Int) := by rw [wrapU _ (by omega) (by omega)]; omega
     have q2 : IntKind.u8.wrap ((x.toNat : Int) - 48) = ((x.toNat - 48 : Nat) : Int) := by simp [IntKind.wrap, IntKind.signed, IntKind.bits]; omega
     have q3 : IntKind.u64.wrap ((x.toNat - 48 : Nat) : Int) = ((x.toNat - 48 : Nat) : Int) := wrapU _ (by omega) (by omega)
     have q4 : IntKind.u64.wrap (((10 * acc : Nat) : Int) + ((x.toNat - 48 : Nat) : Int)) = ((acc * 10 + (x.toNat - 48) : Nat) : Int) := by rw [wrapU _ (by omega) (by omega)]; omega
     repeat' (first | (simp only [go_sem, zA, zB, zC, zD, zE, zF, zG, reduceCtorEq, zH, zI, zJ, zK, zL, hlt', hbig, hw, q1, q2, q3, q4]; all_goals fail_if_success guard_target =ₛ False) | (with_reducible first | ((first | refine seqVC_stepN rfl ?_ | refine seqVC_stepG rfl (by with_unfolding_all rfl) ?_ | refine AWP.seq ?_ | refine AWP.seqR (by kernel_rfl) ?_); intro K hK) | ((first | refine hK _ _ _ ?_ | refine hK _ _ ?_ | refine hK _ ?_); clear hK K) | refine seqVC_nil ?_ | refine AWP.block ?_ | (refine AWP.cond (by with_unfolding_all rfl) ?_ ?_ <;> intro h <;> (try simp only [zM, zN] at h) <;> try exact absurd h (by decide)) | refine AWP.skip ?_ | refine AWP.ret ?_ | refine AWP.exit ?_ | (refine ⟨fun h => ?_, fun h => ?_⟩ <;> (try simp only [zM, zN] at h) <;> try simp only [h]) | refine ⟨x, hx, ?_⟩ | refine ⟨by omega, x, hx, ?_⟩ | refine Or.inl ?_) | (clear hK K))
     all_goals (refine ⟨(k + 1, acc * 10 + (x.toNat - 48)), by simp only; omega, ⟨by simp only; omega, hok, by simp only; omega⟩, Gh.to [] (by repeat (first | exact trivial | refine ⟨rfl, ?_⟩ | refine ⟨by (simp only [go_sem, zA, zB, zC, zD, zE, zF, zG, reduceCtorEq, zH, zI, zJ, zK, zL, List.length_append, List.length_map, List.length_cons, List.length_nil, Nat.zero_add]) <;> rfl, ?_⟩)) (by repeat (first | exact trivial | refine ⟨rfl, ?_⟩ | refine ⟨by (simp only [go_sem, zA, zB, zC, zD, zE, zF, zG, reduceCtorEq, zH, zI, zJ, zK, zL, List.length_append, List.length_map, List.length_cons, List.length_nil, Nat.zero_add]) <;> rfl, ?_⟩)) rfl rfl rfl⟩)
   ·have hlt' : decide ((k : Int) < (d.length : Int)) = false := by rw [decide_eq_false_iff_not]; omega
    rw [List.drop_eq_nil_of_le (by omega)] at hok
    simp only [decA] at hok
    cases hf : decide ((9223372036854775808 : Int) ≤ (acc : Int)) with
    | false =>
     have hf' : acc < 9223372036854775808 := by simp at hf; omega
     have q5 : IntKind.i64.wrap (acc : Int) = (acc : Int) := wrapId _ (by omega) (by omega)
     repeat' (first | (simp only [go_sem, zA, zB, zC, zD, zE, zF, zG, reduceCtorEq, zH, zI, zJ, zK, zL, hlt', hf, q5]; all_goals fail_if_success guard_target =ₛ False) | (with_reducible first | ((first | refine seqVC_stepN rfl ?_ | refine seqVC_stepG rfl (by with_unfolding_all rfl) ?_ | refine AWP.seq ?_ | refine AWP.seqR (by kernel_rfl) ?_); intro K hK) | ((first | refine hK _ _ _ ?_ | refine hK _ _ ?_ | refine hK _ ?_); clear hK K) | refine seqVC_nil ?_ | refine AWP.block ?_ | (refine AWP.cond (by with_unfolding_all rfl) ?_ ?_ <;> intro h <;> (try simp only [zM, zN] at h) <;> try exact absurd h (by decide)) | refine AWP.skip ?_ | refine AWP.ret ?_ | refine AWP.exit ?_ | (refine ⟨fun h => ?_, fun h => ?_⟩ <;> (try simp only [zM, zN] at h) <;> try simp only [h]) | refine Or.inl ?_) | (clear hK K))
     all_goals (first | exact fun _ h => absurd h List.not_mem_nil | refine fin0 ?_)
     all_goals (simp only [hok, decide_eq_true hf', cond_true] <;> rfl)
    | true =>
     have hf' : ¬ acc < 9223372036854775808 := by simp at hf; omega
     repeat' (first | (simp only [go_sem, zA, zB, zC, zD, zE, zF, zG, reduceCtorEq, zH, zI, zJ, zK, zL, hlt', hf]; all_goals fail_if_success guard_target =ₛ False) | (with_reducible first | ((first | refine seqVC_stepN rfl ?_ | refine seqVC_stepG rfl (by with_unfolding_all rfl) ?_ | refine AWP.seq ?_ | refine AWP.seqR (by kernel_rfl) ?_); intro K hK) | ((first | refine hK _ _ _ ?_ | refine hK _ _ ?_ | refine hK _ ?_); clear hK K) | refine seqVC_nil ?_ | refine AWP.block ?_ | (refine AWP.cond (by with_unfolding_all rfl) ?_ ?_ <;> intro h <;> (try simp only [zM, zN] at h) <;> try exact absurd h (by decide)) | refine AWP.skip ?_ | refine AWP.ret ?_ | refine AWP.exit ?_ | (refine ⟨fun h => ?_, fun h => ?_⟩ <;> (try simp only [zM, zN] at h) <;> try simp only [h]) | refine Or.inl ?_) | (clear hK K))
     all_goals (first | exact fun _ h => absurd h List.not_mem_nil | refine fin0 ?_)
     all_goals (simp only [hok, decide_eq_false hf', cond_false] <;> rfl)
theorem take_cnt (p : Int → Bool) : ∀ (l : List UInt8), ∀ x ∈ l.take (cntW p l), p x.toNat = true
 | [], x, h => by simp at h
 | b :: l, x, h => by
  rw [cntW] at h
  cases hp : p b.toNat with
  | false => rw [hp] at h; simp at h
  | true =>
   rw [hp, cond_true, Nat.add_comm, List.take_succ_cons] at h
   rcases List.mem_cons.1 h with rfl | h
   ·exact hp
   ·exact take_cnt p l x h
/-- the bytes from k on that meet p -/
def spanW (p : Int → Bool) (s : List UInt8) (k : Nat) : List UInt8 := (s.take (toW p s k)).drop k
theorem spanW_eq (p : Int → Bool) (s : List UInt8) (k : Nat) : spanW p s k = (s.drop k).take (cntW p (s.drop k)) := by
 unfold spanW toW
 rw [List.drop_take]
 congr 1
 omega
theorem spanW_all (p : Int → Bool) (s : List UInt8) (k : Nat) : ∀ x ∈ spanW p s k, p x.toNat = true := by
 rw [spanW_eq]; exact take_cnt p _
theorem spanW_ne {p : Int → Bool} {s : List UInt8} {k : Nat} {b : UInt8} (h : s[k]? = some b) (hp : p b.toNat = true) : spanW p s k ≠ [] := by
 obtain ⟨hk, rfl⟩ := List.getElem?_eq_some_iff.1 h
 rw [spanW_eq, List.drop_eq_getElem_cons hk, cntW, hp, cond_true, Nat.add_comm, List.take_succ_cons]
 exact List.cons_ne_nil _ _
theorem text_cons {p : Int → Bool} {s : List UInt8} {i : Nat} {b : UInt8} (h : s[i]? = some b) : (s.take (toW p s (i + 1))).drop i = b :: spanW p s (i + 1) := by
 obtain ⟨hk, rfl⟩ := List.getElem?_eq_some_iff.1 h
 have h1 : i < (s.take (toW p s (i + 1))).length := by
  rw [List.length_take]
  have := toW_ge (p := p) (s := s) (k := i + 1)
  omega
 rw [List.drop_eq_getElem_cons h1, List.getElem_take]
 rfl
def nextDig (s : List UInt8) (i : Nat) : Bool := match s[i + 1]? with
 | some c => digI c.toNat
 | none => false
/-- the next token, its code, the place behind it; rq, re: what a quote, a backquote begins -/
def nextV (s : List UInt8) (i : Nat) (b : UInt8) (rq re : (Tok × Int) × Nat) : (Tok × Int) × Nat :=
 bif lowI b.toNat then (wordV 1 (b :: spanW nameI s (i + 1)), toW nameI s (i + 1))
 else bif uppI b.toNat then (wordV 2 (b :: spanW varI s (i + 1)), toW varI s (i + 1))
 else bif decide ((b.toNat : Int) = 95) then ((⟨2, [95], 0, 0⟩, 0), i + 1)
 else bif digI b.toNat then (numT false (b :: spanW digI s (i + 1)), toW digI s (i + 1))
 else bif decide ((b.toNat : Int) = 45) && nextDig s i then (numT true (spanW digI s (i + 1)), toW digI s (i + 1))
 else bif decide ((b.toNat : Int) = 34) then rq
 else bif decide ((b.toNat : Int) = 96) then re
 else ((signV (s.drop i)).1, i + (signV (s.drop i)).2)
theorem word_t (kind : Int) (text : List UInt8) : PC Tryz.prog 51 [I .i64 kind, S text] (.tup [.st (encTok (wordV kind text).1), I .i64 (wordV kind text).2]) := word_c kind text
theorem tok_eta (t : Tok) : encTok t = [.int .i64 t.kind, .str t.text, .int .i64 t.num, .int .i64 t.at_] := rfl
theorem next_c (s : List UInt8) (hs : s.length ≤ 1000000000) (i : Nat) (b : UInt8) (hb : s[i]? = some b) (rq re : (Tok × Int) × Nat)
  (hq : decide ((b.toNat : Int) = 34) = true → PCB Tryz.prog 58 [Scp pin] [(pin, scB s i)] (TkR rq.1) [(pin, scB s rq.2)])
  (he : decide ((b.toNat : Int) = 96) = true → PCB Tryz.prog 59 [Scp pin] [(pin, scB s i)] (TkR re.1) [(pin, scB s re.2)]) :
  PCB Tryz.prog 30 [Scp pin] [(pin, scB s i)] (TkR (nextV s i b rq re).1) [(pin, scB s (nextV s i b rq re).2)] := by
 have hi : i < s.length := (List.getElem?_eq_some_iff.1 hb).1
 have hwk := wk64 hi (show s.length ≤ 1000000000000 by omega)
 have c1 := wordslower_c b.toNat
 have c2 := wordsupper_c b.toNat
 have c3 := wordsdigit_c b.toNat
 cases hl : lowI b.toNat with
 | true =>
  rw [hl] at c1
  have hr := run_k 1000000 53 nameI wName_c s (by omega) i hi
  rw [text_cons hb] at hr
  have hw := word_t 1 (b :: spanW nameI s (i + 1))
  refine PCB.of_body Tryz.func30 rfl (by decide) Tryz.ntmps30 Tryz.results30 rfl rfl rfl ?_ rfl rfl
  repeat' (first | (simp only [go_sem, zA, zB, zC, zD, zE, zF, zG, reduceCtorEq, zH, zI, zJ, zK, zL, pin, tok_eta]; all_goals fail_if_success guard_target =ₛ False) | (with_reducible first | ((first | refine seqVC_stepN rfl ?_ | refine seqVC_stepG rfl (by with_unfolding_all rfl) ?_ | refine AWP.seq ?_ | refine AWP.seqR (by kernel_rfl) ?_ | refine parVC_stepN rfl ?_ | refine parVC_stepG rfl (by with_unfolding_all rfl) ?_ | refine parEVC_stepN rfl ?_ | refine parEVC_stepG rfl (by with_unfolding_all rfl) ?_ | refine genVC_stepN rfl ?_ | refine genVC_stepG rfl (by with_unfolding_all rfl) ?_); intro K hK) | ((first | refine hK _ _ _ ?_ | refine hK _ _ ?_ | refine hK _ ?_); clear hK K) | refine seqVC_nil ?_ | refine parVC_nil ?_ | refine parEVC_nil ?_ | refine genVC_nil ?_ | refine AWP.block ?_ | (refine AWP.cond (by with_unfolding_all rfl) ?_ ?_ <;> intro h <;> (try simp only [zM, zN] at h) <;> try exact absurd h (by decide)) | refine AWP.skip ?_ | refine AWP.ret ?_ | refine AWP.exit ?_ | (refine ⟨fun h => ?_, fun h => ?_⟩ <;> (try simp only [zM, zN] at h) <;> try simp only [h]) | refine ⟨_, c1, ?_⟩ | refine ⟨_, hw, ?_⟩ | refine ⟨by omega, b, hb, ?_⟩) | (refine ⟨1000000, _, _, _, hr, rfl, ?_⟩) | (with_reducible first | refine AWP.parR mixed (by kernel_rfl) fun K hK => ?_ | refine ⟨(by kernel_rfl : depB _ _ _ = true), ?_⟩ | refine Or.inl ?_) | (clear hK K))
  all_goals (simp only [nextV, hl, cond_true, tok_eta])
  all_goals (refine ⟨by first | trivial | rfl, fun x hx => ?_⟩; simp only [List.mem_singleton] at hx; subst hx; simp)
 | false =>
 rw [hl] at c1
 cases hu : uppI b.toNat with
 | true =>
  rw [hu] at c2
  have hr := run_k 1000000 56 varI wVar_c s (by omega) i hi
  rw [text_cons hb] at hr
  have hw := word_t 2 (b :: spanW varI s (i + 1))
  refine PCB.of_body Tryz.func30 rfl (by decide) Tryz.ntmps30 Tryz.results30 rfl rfl rfl ?_ rfl rfl
  repeat' (first | (simp only [go_sem, zA, zB, zC, zD, zE, zF, zG, reduceCtorEq, zH, zI, zJ, zK, zL, pin, tok_eta]; all_goals fail_if_success guard_target =ₛ False) | (with_reducible first | ((first | refine seqVC_stepN rfl ?_ | refine seqVC_stepG rfl (by with_unfolding_all rfl) ?_ | refine AWP.seq ?_ | refine AWP.seqR (by kernel_rfl) ?_ | refine parVC_stepN rfl ?_ | refine parVC_stepG rfl (by with_unfolding_all rfl) ?_ | refine parEVC_stepN rfl ?_ | refine parEVC_stepG rfl (by with_unfolding_all rfl) ?_ | refine genVC_stepN rfl ?_ | refine genVC_stepG rfl (by with_unfolding_all rfl) ?_); intro K hK) | ((first | refine hK _ _ _ ?_ | refine hK _ _ ?_ | refine hK _ ?_); clear hK K) | refine seqVC_nil ?_ | refine parVC_nil ?_ | refine parEVC_nil ?_ | refine genVC_nil ?_ | refine AWP.block ?_ | (refine AWP.cond (by with_unfolding_all rfl) ?_ ?_ <;> intro h <;> (try simp only [zM, zN] at h) <;> try exact absurd h (by decide)) | refine AWP.skip ?_ | refine AWP.ret ?_ | refine AWP.exit ?_ | (refine ⟨fun h => ?_, fun h => ?_⟩ <;> (try simp only [zM, zN] at h) <;> try simp only [h]) | refine ⟨_, c1, ?_⟩ | refine ⟨_, c2, ?_⟩ | refine ⟨_, hw, ?_⟩ | refine ⟨by omega, b, hb, ?_⟩) | (refine ⟨1000000, _, _, _, hr, rfl, ?_⟩) | (with_reducible first | refine AWP.parR mixed (by kernel_rfl) fun K hK => ?_ | refine ⟨(by kernel_rfl : depB _ _ _ = true), ?_⟩ | refine Or.inl ?_) | (clear hK K))
  all_goals (simp only [nextV, hl, hu, cond_true, cond_false, tok_eta])
  all_goals (refine ⟨by first | trivial | rfl, fun x hx => ?_⟩; simp only [List.mem_singleton] at hx; subst hx; simp)
 | false =>
 rw [hu] at c2
 cases h95 : decide ((b.toNat : Int) = 95) with
 | true =>
  refine PCB.of_body Tryz.func30 rfl (by decide) Tryz.ntmps30 Tryz.results30 rfl rfl rfl ?_ rfl rfl
  repeat' (first | (simp only [go_sem, zA, zB, zC, zD, zE, zF, zG, reduceCtorEq, zH, zI, zJ, zK, zL, pin, tok_eta, h95, hwk]; all_goals fail_if_success guard_target =ₛ False) | (with_reducible first | ((first | refine seqVC_stepN rfl ?_ | refine seqVC_stepG rfl (by with_unfolding_all rfl) ?_ | refine AWP.seq ?_ | refine AWP.seqR (by kernel_rfl) ?_ | refine parVC_stepN rfl ?_ | refine parVC_stepG rfl (by with_unfolding_all rfl) ?_ | refine parEVC_stepN rfl ?_ | refine parEVC_stepG rfl (by with_unfolding_all rfl) ?_ | refine genVC_stepN rfl ?_ | refine genVC_stepG rfl (by with_unfolding_all rfl) ?_); intro K hK) | ((first | refine hK _ _ _ ?_ | refine hK _ _ ?_ | refine hK _ ?_); clear hK K) | refine seqVC_nil ?_ | refine parVC_nil ?_ | refine parEVC_nil ?_ | refine genVC_nil ?_ | refine AWP.block ?_ | (refine AWP.cond (by with_unfolding_all rfl) ?_ ?_ <;> intro h <;> (try simp only [zM, zN] at h) <;> try exact absurd h (by decide)) | refine AWP.skip ?_ | refine AWP.ret ?_ | refine AWP.exit ?_ | (refine ⟨fun h => ?_, fun h => ?_⟩ <;> (try simp only [zM, zN] at h) <;> try simp only [h]) | refine ⟨_, c1, ?_⟩ | refine ⟨_, c2, ?_⟩ | refine ⟨by omega, b, hb, ?_⟩ | refine AWP.parR mixed (by kernel_rfl) fun K hK => ?_ | refine ⟨(by kernel_rfl : depB _ _ _ = true), ?_⟩ | refine Or.inl ?_) | (clear hK K))
  all_goals (simp only [nextV, hl, hu, h95, cond_true, cond_false, tok_eta])
  all_goals (refine ⟨by first | trivial | rfl, fun x hx => ?_⟩; simp only [List.mem_singleton] at hx; subst hx; simp)
 | false =>
 cases hdg : digI b.toNat with
 | true =>
  rw [hdg] at c3
  have hnum := PCBk.mk 1000000 (number_c s hs i hi false (b :: spanW digI s (i + 1)) (text_cons hb) (by
   intro x hx
   rcases List.mem_cons.1 hx with rfl | hx
   ·exact hdg
   ·exact spanW_all digI s (i + 1) x hx) (List.cons_ne_nil _ _))
  refine PCB.of_body Tryz.func30 rfl (by decide) Tryz.ntmps30 Tryz.results30 rfl rfl rfl ?_ rfl rfl
  repeat' (first | (simp only [go_sem, zA, zB, zC, zD, zE, zF, zG, reduceCtorEq, zH, zI, zJ, zK, zL, pin, tok_eta, h95]; all_goals fail_if_success guard_target =ₛ False) | (with_reducible first | ((first | refine seqVC_stepN rfl ?_ | refine seqVC_stepG rfl (by with_unfolding_all rfl) ?_ | refine AWP.seq ?_ | refine AWP.seqR (by kernel_rfl) ?_ | refine parVC_stepN rfl ?_ | refine parVC_stepG rfl (by with_unfolding_all rfl) ?_ | refine parEVC_stepN rfl ?_ | refine parEVC_stepG rfl (by with_unfolding_all rfl) ?_ | refine genVC_stepN rfl ?_ | refine genVC_stepG rfl (by with_unfolding_all rfl) ?_); intro K hK) | ((first | refine hK _ _ _ ?_ | refine hK _ _ ?_ | refine hK _ ?_); clear hK K) | refine seqVC_nil ?_ | refine parVC_nil ?_ | refine parEVC_nil ?_ | refine genVC_nil ?_ | refine AWP.block ?_ | (refine AWP.cond (by with_unfolding_all rfl) ?_ ?_ <;> intro h <;> (try simp only [zM, zN] at h) <;> try exact absurd h (by decide)) | refine AWP.skip ?_ | refine AWP.ret ?_ | refine AWP.exit ?_ | (refine ⟨fun h => ?_, fun h => ?_⟩ <;> (try simp only [zM, zN] at h) <;> try simp only [h]) | refine ⟨_, c1, ?_⟩ | refine ⟨_, c2, ?_⟩ | refine ⟨_, c3, ?_⟩ | refine ⟨by omega, b, hb, ?_⟩) | (refine ⟨1000000, _, _, _, hnum, rfl, ?_⟩) | (with_reducible first | refine AWP.parR mixed (by kernel_rfl) fun K hK => ?_ | refine ⟨(by kernel_rfl : depB _ _ _ = true), ?_⟩ | refine Or.inl ?_) | (clear hK K))
  all_goals (simp only [nextV, hl, hu, h95, hdg, cond_true, cond_false, tok_eta])
  all_goals (refine ⟨by first | trivial | rfl, fun x hx => ?_⟩; simp only [List.mem_singleton] at hx; subst hx; simp)
 | false =>
 rw [hdg] at c3
 have hsg := PCBk.mk 1000000 (sign_c s hs i (by omega))
 cases h45 : decide ((b.toNat : Int) = 45) with
 | true =>
  have h34 : decide ((b.toNat : Int) = 34) = false := by simp only [decide_eq_true_eq] at h45; simp [h45]
  have h96 : decide ((b.toNat : Int) = 96) = false := by simp only [decide_eq_true_eq] at h45; simp [h45]
  by_cases hi1 : i + 1 < s.length
  ·obtain ⟨c, hc⟩ := byte_at hi1
   have hd1 : decide (((i + 1 : Nat) : Int) < (s.length : Int)) = true := by rw [decide_eq_true_eq]; omega
   have c4 := wordsdigit_c c.toNat
   have hnd : nextDig s i = digI c.toNat := by unfold nextDig; rw [hc]
   cases hdc : digI c.toNat with
   | true =>
    rw [hdc] at c4 hnd
    have hbe : b = 45 := by
     simp only [decide_eq_true_eq] at h45
     apply UInt8.toNat_inj.1; show b.toNat = 45; omega
    have hnum := PCBk.mk 1000000 (number_c s hs i hi true (spanW digI s (i + 1)) (by rw [text_cons hb, hbe]; rfl) (spanW_all digI s (i + 1)) (spanW_ne hc hdc))
    refine PCB.of_body Tryz.func30 rfl (by decide) Tryz.ntmps30 Tryz.results30 rfl rfl rfl ?_ rfl rfl
    repeat' (first | (simp only [go_sem, zA, zB, zC, zD, zE, zF, zG, reduceCtorEq, zH, zI, zJ, zK, zL, pin, tok_eta, h95, h45, hwk, hd1]; all_goals fail_if_success guard_target =ₛ False) | (with_reducible first | ((first | refine seqVC_stepN rfl ?_ | refine seqVC_stepG rfl (by with_unfolding_all rfl) ?_ | refine AWP.seq ?_ | refine AWP.seqR (by kernel_rfl) ?_ | refine parVC_stepN rfl ?_ | refine parVC_stepG rfl (by with_unfolding_all rfl) ?_ | refine parEVC_stepN rfl ?_ | refine parEVC_stepG rfl (by with_unfolding_all rfl) ?_ | refine genVC_stepN rfl ?_ | refine genVC_stepG rfl (by with_unfolding_all rfl) ?_); intro K hK) | ((first | refine hK _ _ _ ?_ | refine hK _ _ ?_ | refine hK _ ?_); clear hK K) | refine seqVC_nil ?_ | refine parVC_nil ?_ | refine parEVC_nil ?_ | refine genVC_nil ?_ | refine AWP.block ?_ | (refine AWP.cond (by with_unfolding_all rfl) ?_ ?_ <;> intro h <;> (try simp only [zM, zN] at h) <;> try exact absurd h (by decide)) | refine AWP.skip ?_ | refine AWP.ret ?_ | refine AWP.exit ?_ | (refine ⟨fun h => ?_, fun h => ?_⟩ <;> (try simp only [zM, zN] at h) <;> try simp only [h]) | refine ⟨_, c1, ?_⟩ | refine ⟨_, c2, ?_⟩ | refine ⟨_, c3, ?_⟩ | refine ⟨_, c4, ?_⟩ | refine ⟨by omega, b, hb, ?_⟩ | refine ⟨by omega, c, hc, ?_⟩) | (refine ⟨1000000, _, _, _, hnum, rfl, ?_⟩) | (with_reducible first | refine AWP.parR mixed (by kernel_rfl) fun K hK => ?_ | refine ⟨(by kernel_rfl : depB _ _ _ = true), ?_⟩ | refine Or.inl ?_) | (clear hK K))
    all_goals (simp only [nextV, hl, hu, h95, hdg, h45, hnd, Bool.and_self, cond_true, cond_false, tok_eta])
    all_goals (refine ⟨by first | trivial | rfl, fun x hx => ?_⟩; simp only [List.mem_singleton] at hx; subst hx; simp)
   | false =>
    rw [hdc] at c4 hnd
    refine PCB.of_body Tryz.func30 rfl (by decide) Tryz.ntmps30 Tryz.results30 rfl rfl rfl ?_ rfl rfl
    repeat' (first | (simp only [go_sem, zA, zB, zC, zD, zE, zF, zG, reduceCtorEq, zH, zI, zJ, zK, zL, pin, tok_eta, h95, h45, h34, h96, hwk, hd1]; all_goals fail_if_success guard_target =ₛ False) | (with_reducible first | ((first | refine seqVC_stepN rfl ?_ | refine seqVC_stepG rfl (by with_unfolding_all rfl) ?_ | refine AWP.seq ?_ | refine AWP.seqR (by kernel_rfl) ?_ | refine parVC_stepN rfl ?_ | refine parVC_stepG rfl (by with_unfolding_all rfl) ?_ | refine parEVC_stepN rfl ?_ | refine parEVC_stepG rfl (by with_unfolding_all rfl) ?_ | refine genVC_stepN rfl ?_ | refine genVC_stepG rfl (by with_unfolding_all rfl) ?_); intro K hK) | ((first | refine hK _ _ _ ?_ | refine hK _ _ ?_ | refine hK _ ?_); clear hK K) | refine seqVC_nil ?_ | refine parVC_nil ?_ | refine parEVC_nil ?_ | refine genVC_nil ?_ | refine AWP.block ?_ | (refine AWP.cond (by with_unfolding_all rfl) ?_ ?_ <;> intro h <;> (try simp only [zM, zN] at h) <;> try exact absurd h (by decide)) | refine AWP.skip ?_ | refine AWP.ret ?_ | refine AWP.exit ?_ | (refine ⟨fun h => ?_, fun h => ?_⟩ <;> (try simp only [zM, zN] at h) <;> try simp only [h]) | refine ⟨_, c1, ?_⟩ | refine ⟨_, c2, ?_⟩ | refine ⟨_, c3, ?_⟩ | refine ⟨_, c4, ?_⟩ | refine ⟨by omega, b, hb, ?_⟩ | refine ⟨by omega, c, hc, ?_⟩) | (refine ⟨1000000, _, _, _, hsg, rfl, ?_⟩) | (with_reducible first | refine AWP.parR mixed (by kernel_rfl) fun K hK => ?_ | refine ⟨(by kernel_rfl : depB _ _ _ = true), ?_⟩ | refine Or.inl ?_) | (clear hK K))
    all_goals (simp only [nextV, hl, hu, h95, hdg, h45, h34, h96, hnd, Bool.and_false, cond_true, cond_false, tok_eta])
    all_goals (refine ⟨by first | trivial | rfl, fun x hx => ?_⟩; simp only [List.mem_singleton] at hx; subst hx; simp)
  ·have hd1 : decide (((i + 1 : Nat) : Int) < (s.length : Int)) = false := by rw [decide_eq_false_iff_not]; omega
   have hnd : nextDig s i = false := by
    unfold nextDig
    rw [List.getElem?_eq_none (by omega)]
   refine PCB.of_body Tryz.func30 rfl (by decide) Tryz.ntmps30 Tryz.results30 rfl rfl rfl ?_ rfl rfl
   repeat' (first | (simp only [go_sem, zA, zB, zC, zD, zE, zF, zG, reduceCtorEq, zH, zI, zJ, zK, zL, pin, tok_eta, h95, h45, h34, h96, hwk, hd1]; all_goals fail_if_success guard_target =ₛ False) | (with_reducible first | ((first | refine seqVC_stepN rfl ?_ | refine seqVC_stepG rfl (by with_unfolding_all rfl) ?_ | refine AWP.seq ?_ | refine AWP.seqR (by kernel_rfl) ?_ | refine parVC_stepN rfl ?_ | refine parVC_stepG rfl (by with_unfolding_all rfl) ?_ | refine parEVC_stepN rfl ?_ | refine parEVC_stepG rfl (by with_unfolding_all rfl) ?_ | refine genVC_stepN rfl ?_ | refine genVC_stepG rfl (by with_unfolding_all rfl) ?_); intro K hK) | ((first | refine hK _ _ _ ?_ | refine hK _ _ ?_ | refine hK _ ?_); clear hK K) | refine seqVC_nil ?_ | refine parVC_nil ?_ | refine parEVC_nil ?_ | refine genVC_nil ?_ | refine AWP.block ?_ | (refine AWP.cond (by with_unfolding_all rfl) ?_ ?_ <;> intro h <;> (try simp only [zM, zN] at h) <;> try exact absurd h (by decide)) | refine AWP.skip ?_ | refine AWP.ret ?_ | refine AWP.exit ?_ | (refine ⟨fun h => ?_, fun h => ?_⟩ <;> (try simp only [zM, zN] at h) <;> try simp only [h]) | refine ⟨_, c1, ?_⟩ | refine ⟨_, c2, ?_⟩ | refine ⟨_, c3, ?_⟩ | refine ⟨by omega, b, hb, ?_⟩) | (refine ⟨1000000, _, _, _, hsg, rfl, ?_⟩) | (with_reducible first | refine AWP.parR mixed (by kernel_rfl) fun K hK => ?_ | refine ⟨(by kernel_rfl : depB _ _ _ = true), ?_⟩ | refine Or.inl ?_) | (clear hK K))
   all_goals (simp only [nextV, hl, hu, h95, hdg, h45, h34, h96, hnd, Bool.and_false, cond_true, cond_false, tok_eta])
   all_goals (refine ⟨by first | trivial | rfl, fun x hx => ?_⟩; simp only [List.mem_singleton] at hx; subst hx; simp)
 | false =>
 cases h34 : decide ((b.toNat : Int) = 34) with
 | true =>
  have hqq := PCBk.mk 1000000 (hq h34)
  refine PCB.of_body Tryz.func30 rfl (by decide) Tryz.ntmps30 Tryz.results30 rfl rfl rfl ?_ rfl rfl
  repeat' (first | (simp only [go_sem, zA, zB, zC, zD, zE, zF, zG, reduceCtorEq, zH, zI, zJ, zK, zL, pin, tok_eta, h95, h45, h34, hwk]; all_goals fail_if_success guard_target =ₛ False) | (with_reducible first | ((first | refine seqVC_stepN rfl ?_ | refine seqVC_stepG rfl (by with_unfolding_all rfl) ?_ | refine AWP.seq ?_ | refine AWP.seqR (by kernel_rfl) ?_ | refine parVC_stepN rfl ?_ | refine parVC_stepG rfl (by with_unfolding_all rfl) ?_ | refine parEVC_stepN rfl ?_ | refine parEVC_stepG rfl (by with_unfolding_all rfl) ?_ | refine genVC_stepN rfl ?_ | refine genVC_stepG rfl (by with_unfolding_all rfl) ?_); intro K hK) | ((first | refine hK _ _ _ ?_ | refine hK _ _ ?_ | refine hK _ ?_); clear hK K) | refine seqVC_nil ?_ | refine parVC_nil ?_ | refine parEVC_nil ?_ | refine genVC_nil ?_ | refine AWP.block ?_ | (refine AWP.cond (by with_unfolding_all rfl) ?_ ?_ <;> intro h <;> (try simp only [zM, zN] at h) <;> try exact absurd h (by decide)) | refine AWP.skip ?_ | refine AWP.ret ?_ | refine AWP.exit ?_ | (refine ⟨fun h => ?_, fun h => ?_⟩ <;> (try simp only [zM, zN] at h) <;> try simp only [h]) | refine ⟨_, c1, ?_⟩ | refine ⟨_, c2, ?_⟩ | refine ⟨_, c3, ?_⟩ | refine ⟨by omega, b, hb, ?_⟩) | (refine ⟨1000000, _, _, _, hqq, rfl, ?_⟩) | (with_reducible first | refine AWP.parR mixed (by kernel_rfl) fun K hK => ?_ | refine ⟨(by kernel_rfl : depB _ _ _ = true), ?_⟩ | refine Or.inl ?_) | (clear hK K))
  all_goals (simp only [nextV, hl, hu, h95, hdg, h45, h34, Bool.false_and, cond_true, cond_false, tok_eta])
  all_goals (refine ⟨by first | trivial | rfl, fun x hx => ?_⟩; simp only [List.mem_singleton] at hx; subst hx; simp)
 | false =>
 cases h96 : decide ((b.toNat : Int) = 96) with
 | true =>
  have hee := PCBk.mk 1000000 (he h96)
  refine PCB.of_body Tryz.func30 rfl (by decide) Tryz.ntmps30 Tryz.results30 rfl rfl rfl ?_ rfl rfl
  repeat' (first | (simp only [go_sem, zA, zB, zC, zD, zE, zF, zG, reduceCtorEq, zH, zI, zJ, zK, zL, pin, tok_eta, h95, h45, h34, h96, hwk]; all_goals fail_if_success guard_target =ₛ False) | (with_reducible first | ((first | refine seqVC_stepN rfl ?_ | refine seqVC_stepG rfl (by with_unfolding_all rfl) ?_ | refine AWP.seq ?_ | refine AWP.seqR (by kernel_rfl) ?_ | refine parVC_stepN rfl ?_ | refine parVC_stepG rfl (by with_unfolding_all rfl) ?_ | refine parEVC_stepN rfl ?_ | refine parEVC_stepG rfl (by with_unfolding_all rfl) ?_ | refine genVC_stepN rfl ?_ | refine genVC_stepG rfl (by with_unfolding_all rfl) ?_); intro K hK) | ((first | refine hK _ _ _ ?_ | refine hK _ _ ?_ | refine hK _ ?_); clear hK K) | refine seqVC_nil ?_ | refine parVC_nil ?_ | refine parEVC_nil ?_ | refine genVC_nil ?_ | refine AWP.block ?_ | (refine AWP.cond (by with_unfolding_all rfl) ?_ ?_ <;> intro h <;> (try simp only [zM, zN] at h) <;> try exact absurd h (by decide)) | refine AWP.skip ?_ | refine AWP.ret ?_ | refine AWP.exit ?_ | (refine ⟨fun h => ?_, fun h => ?_⟩ <;> (try simp only [zM, zN] at h) <;> try simp only [h]) | refine ⟨_, c1, ?_⟩ | refine ⟨_, c2, ?_⟩ | refine ⟨_, c3, ?_⟩ | refine ⟨by omega, b, hb, ?_⟩) | (refine ⟨1000000, _, _, _, hee, rfl, ?_⟩) | (with_reducible first | refine AWP.parR mixed (by kernel_rfl) fun K hK => ?_ | refine ⟨(by kernel_rfl : depB _ _ _ = true), ?_⟩ | refine Or.inl ?_) | (clear hK K))
  all_goals (simp only [nextV, hl, hu, h95, hdg, h45, h34, h96, Bool.false_and, cond_true, cond_false, tok_eta])
  all_goals (refine ⟨by first | trivial | rfl, fun x hx => ?_⟩; simp only [List.mem_singleton] at hx; subst hx; simp)
 | false =>
  refine PCB.of_body Tryz.func30 rfl (by decide) Tryz.ntmps30 Tryz.results30 rfl rfl rfl ?_ rfl rfl
  repeat' (first | (simp only [go_sem, zA, zB, zC, zD, zE, zF, zG, reduceCtorEq, zH, zI, zJ, zK, zL, pin, tok_eta, h95, h45, h34, h96, hwk]; all_goals fail_if_success guard_target =ₛ False) | (with_reducible first | ((first | refine seqVC_stepN rfl ?_ | refine seqVC_stepG rfl (by with_unfolding_all rfl) ?_ | refine AWP.seq ?_ | refine AWP.seqR (by kernel_rfl) ?_ | refine parVC_stepN rfl ?_ | refine parVC_stepG rfl (by with_unfolding_all rfl) ?_ | refine parEVC_stepN rfl ?_ | refine parEVC_stepG rfl (by with_unfolding_all rfl) ?_ | refine genVC_stepN rfl ?_ | refine genVC_stepG rfl (by with_unfolding_all rfl) ?_); intro K hK) | ((first | refine hK _ _ _ ?_ | refine hK _ _ ?_ | refine hK _ ?_); clear hK K) | refine seqVC_nil ?_ | refine parVC_nil ?_ | refine parEVC_nil ?_ | refine genVC_nil ?_ | refine AWP.block ?_ | (refine AWP.cond (by with_unfolding_all rfl) ?_ ?_ <;> intro h <;> (try simp only [zM, zN] at h) <;> try exact absurd h (by decide)) | refine AWP.skip ?_ | refine AWP.ret ?_ | refine AWP.exit ?_ | (refine ⟨fun h => ?_, fun h => ?_⟩ <;> (try simp only [zM, zN] at h) <;> try simp only [h]) | refine ⟨_, c1, ?_⟩ | refine ⟨_, c2, ?_⟩ | refine ⟨_, c3, ?_⟩ | refine ⟨by omega, b, hb, ?_⟩) | (refine ⟨1000000, _, _, _, hsg, rfl, ?_⟩) | (with_reducible first | refine AWP.parR mixed (by kernel_rfl) fun K hK => ?_ | refine ⟨(by kernel_rfl : depB _ _ _ = true), ?_⟩ | refine Or.inl ?_) | (clear hK K))
  all_goals (simp only [nextV, hl, hu, h95, hdg, h45, h34, h96, Bool.false_and, cond_true, cond_false, tok_eta])
  all_goals (refine ⟨by first | trivial | rfl, fun x hx => ?_⟩; simp only [List.mem_singleton] at hx; subst hx; simp)
/-- what the reference's one returns: token, code, place behind it -/
abbrev OnR (t : Tok) (k : Nat) (e : Int) : T := .tup [.st (encTok t), I .i64 k, I .i64 e]
theorem rsigns_c : PC Tryz.prog 44 [] (.one (.dat (.sl 1 (signL.map encStr)))) := by
 refine PCB.of_body Tryz.func44 rfl (by decide) Tryz.ntmps44 Tryz.results44 rfl rfl rfl ?_ rfl rfl
 repeat' (first | (simp only [go_sem, zA, zB, zC, zD, zE, zF, zG, reduceCtorEq, zH, zI, zJ, zK, zL]; all_goals fail_if_success guard_target =ₛ False) | (with_reducible first | ((first | refine seqVC_stepN rfl ?_ | refine AWP.seq ?_ | refine AWP.seqR (by kernel_rfl) ?_); intro K hK) | ((first | refine hK _ _ _ ?_ | refine hK _ _ ?_ | refine hK _ ?_); clear hK K) | refine seqVC_nil ?_ | refine AWP.block ?_ | (refine AWP.cond (by with_unfolding_all rfl) ?_ ?_ <;> intro h <;> (try simp only [zM, zN] at h) <;> try exact absurd h (by decide)) | refine AWP.skip ?_ | refine AWP.ret ?_ | refine AWP.exit ?_ | refine Or.inl ?_) | (clear hK K))
 all_goals (first | exact fun _ h => absurd h List.not_mem_nil | refine fin0 ?_)
 all_goals rfl
def OneOk (s : List UInt8) (i : Nat) (r : (Tok × Int) × Nat) : Prop :=
 ∃ t k, PC Tryz.prog 21 [S s, I .i64 i] (OnR t k r.1.2) ∧ (r.1.2 = 0 → t = { r.1.1 with at_ := (i : Int) } ∧ k = r.2)
theorem one_under (s : List UInt8) (hs : s.length ≤ 1000000000) (i : Nat) (b : UInt8) (hb : s[i]? = some b) (h95 : decide ((b.toNat : Int) = 95) = true) : OneOk s i ((⟨2, [95], 0, 0⟩, 0), i + 1) := by
 have hi : i < s.length := (List.getElem?_eq_some_iff.1 hb).1
 have hw := wk64 hi (show s.length ≤ 1000000000000 by omega)
 refine ⟨⟨2, [95], 0, i⟩, i + 1, ?_, fun _ => ⟨rfl, rfl⟩⟩
 refine PCB.of_body Tryz.func21 rfl (by decide) Tryz.ntmps21 Tryz.results21 rfl rfl rfl ?_ rfl rfl
 repeat' (first | (simp only [go_sem, zA, zB, zC, zD, zE, zF, zG, reduceCtorEq, zH, zI, zJ, zK, zL, hw, h95]; all_goals fail_if_success guard_target =ₛ False) | (with_reducible first | ((first | refine seqVC_stepN rfl ?_ | refine seqVC_stepG rfl (by with_unfolding_all rfl) ?_ | refine AWP.seq ?_ | refine AWP.seqR (by kernel_rfl) ?_); intro K hK) | ((first | refine hK _ _ _ ?_ | refine hK _ _ ?_ | refine hK _ ?_); clear hK K) | refine seqVC_nil ?_ | refine AWP.block ?_ | (refine AWP.cond (by with_unfolding_all rfl) ?_ ?_ <;> intro h <;> (try simp only [zM, zN] at h) <;> try exact absurd h (by decide)) | refine AWP.skip ?_ | refine AWP.ret ?_ | refine AWP.exit ?_ | (refine ⟨fun h => ?_, fun h => ?_⟩ <;> (try simp only [zM, zN] at h) <;> try simp only [h]) | refine ⟨b, hb, ?_⟩ | refine ⟨by omega, b, hb, ?_⟩ | refine Or.inl ?_) | (clear hK K))
 all_goals (first | exact fun _ h => absurd h List.not_mem_nil | refine fin0 ?_)
 all_goals rfl
theorem text_len {p : Int → Bool} {s : List UInt8} {i : Nat} (hi : i < s.length) : ((s.take (toW p s (i + 1))).drop i).length = toW p s (i + 1) - i := by
 have := toW_le (p := p) (s := s) (k := i + 1) (by omega)
 rw [List.length_drop, List.length_take]; omega
theorem one_word (s : List UInt8) (hs : s.length ≤ 1000000000) (i : Nat) (b : UInt8) (hb : s[i]? = some b) (h95 : decide ((b.toNat : Int) = 95) = false) (hlu : (lowI b.toNat || uppI b.toNat) = true) (kind : Int) (hk : kind = bif uppI b.toNat then 2 else 1) :
  OneOk s i (wordV kind ((s.take (toW (wordI b) s (i + 1))).drop i), toW (wordI b) s (i + 1)) := by
 have hi : i < s.length := (List.getElem?_eq_some_iff.1 hb).1
 have hlen := text_len (p := wordI b) hi
 have hge := toW_ge (p := wordI b) (s := s) (k := i + 1)
 have hle := toW_le (p := wordI b) (s := s) (k := i + 1) (by omega)
 have hword := rword_c s hs i b hb
 have c1 := ref26lower_c b.toNat
 have c2 := ref26upper_c b.toNat
 generalize toW (wordI b) s (i + 1) = k at hlen hge hle hword
 generalize htx : (s.take k).drop i = tx at hlen
 have hsub : IntKind.i64.wrap ((k : Int) - (i : Int)) = (tx.length : Int) := by rw [wrapId _ (by omega) (by omega)]; omega
 unfold wordV
 cases hl : decide ((16 : Int) < (tx.length : Int)) with
 | true =>
  refine ⟨⟨kind, tx, 0, i⟩, k, ?_, fun h => absurd (show (2 : Int) = 0 from h) (by decide)⟩
  cases hu : uppI b.toNat <;> rw [hu] at c2 hk hlu <;> cases hlo : lowI b.toNat <;> rw [hlo] at c1 hlu <;> (try exact absurd hlu (by decide)) <;> simp only [cond_true, cond_false] at hk <;> subst hk
  all_goals
   refine PCB.of_body Tryz.func21 rfl (by decide) Tryz.ntmps21 Tryz.results21 rfl rfl rfl ?_ rfl rfl
   repeat' (first | (simp only [go_sem, zA, zB, zC, zD, zE, zF, zG, reduceCtorEq, zH, zI, zJ, zK, zL, h95, hl, hsub, htx]; all_goals fail_if_success guard_target =ₛ False) | (with_reducible first | ((first | refine seqVC_stepN rfl ?_ | refine seqVC_stepG rfl (by with_unfolding_all rfl) ?_ | refine AWP.seq ?_ | refine AWP.seqR (by kernel_rfl) ?_); intro K hK) | ((first | refine hK _ _ _ ?_ | refine hK _ _ ?_ | refine hK _ ?_); clear hK K) | refine seqVC_nil ?_ | refine AWP.block ?_ | (refine AWP.cond (by with_unfolding_all rfl) ?_ ?_ <;> intro h <;> (try simp only [zM, zN] at h) <;> try exact absurd h (by decide)) | refine AWP.skip ?_ | refine AWP.ret ?_ | refine AWP.exit ?_ | (refine ⟨fun h => ?_, fun h => ?_⟩ <;> (try simp only [zM, zN] at h) <;> try simp only [h]) | refine ⟨_, c1, ?_⟩ | refine ⟨_, c2, ?_⟩ | refine ⟨_, hword, ?_⟩ | refine ⟨b, hb, ?_⟩ | refine ⟨by omega, b, hb, ?_⟩ | refine ⟨by omega, ?_⟩ | refine ⟨by omega, by omega, ?_⟩ | refine ⟨by omega, by omega, by omega, ?_⟩ | refine Or.inl ?_) | (clear hK K))
   all_goals (first | exact fun _ h => absurd h List.not_mem_nil | refine fin0 ?_)
   all_goals rfl
 | false =>
  refine ⟨⟨kind, tx, 0, i⟩, k, ?_, fun _ => ⟨rfl, rfl⟩⟩
  cases hu : uppI b.toNat <;> rw [hu] at c2 hk hlu <;> cases hlo : lowI b.toNat <;> rw [hlo] at c1 hlu <;> (try exact absurd hlu (by decide)) <;> simp only [cond_true, cond_false] at hk <;> subst hk
  all_goals
   refine PCB.of_body Tryz.func21 rfl (by decide) Tryz.ntmps21 Tryz.results21 rfl rfl rfl ?_ rfl rfl
   repeat' (first | (simp only [go_sem, zA, zB, zC, zD, zE, zF, zG, reduceCtorEq, zH, zI, zJ, zK, zL, h95, hl, hsub, htx]; all_goals fail_if_success guard_target =ₛ False) | (with_reducible first | ((first | refine seqVC_stepN rfl ?_ | refine seqVC_stepG rfl (by with_unfolding_all rfl) ?_ | refine AWP.seq ?_ | refine AWP.seqR (by kernel_rfl) ?_); intro K hK) | ((first | refine hK _ _ _ ?_ | refine hK _ _ ?_ | refine hK _ ?_); clear hK K) | refine seqVC_nil ?_ | refine AWP.block ?_ | (refine AWP.cond (by with_unfolding_all rfl) ?_ ?_ <;> intro h <;> (try simp only [zM, zN] at h) <;> try exact absurd h (by decide)) | refine AWP.skip ?_ | refine AWP.ret ?_ | refine AWP.exit ?_ | (refine ⟨fun h => ?_, fun h => ?_⟩ <;> (try simp only [zM, zN] at h) <;> try simp only [h]) | refine ⟨_, c1, ?_⟩ | refine ⟨_, c2, ?_⟩ | refine ⟨_, hword, ?_⟩ | refine ⟨b, hb, ?_⟩ | refine ⟨by omega, b, hb, ?_⟩ | refine ⟨by omega, ?_⟩ | refine ⟨by omega, by omega, ?_⟩ | refine ⟨by omega, by omega, by omega, ?_⟩ | refine Or.inl ?_) | (clear hK K))
   all_goals (first | exact fun _ h => absurd h List.not_mem_nil | refine fin0 ?_)
   all_goals rfl
end Go.Proofs.YtogponhonjiidaaGreatDoor

