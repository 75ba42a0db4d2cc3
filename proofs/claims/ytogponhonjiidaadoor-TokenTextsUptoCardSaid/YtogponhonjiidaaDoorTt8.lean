/- A part of the proof: lemmas about the walk of the program and about plain integers and lists. No conditions beyond those that each lemma states. -/
import Derived.Test.YtogponhonjiidaaDoorTt7
import Derived.Shelf.Strings.OnBuilder
import Derived.Test.YtogponhonjiidaaDoorProg
set_option linter.unusedSimpArgs false
set_option linter.unusedVariables false
set_option maxRecDepth 20000
set_option maxHeartbeats 16000000
namespace Go.Proofs.YtogponhonjiidaaDoor
open Go Go.Sx
open Nat renaming reduceBEq → zA, reduceBNe → zB, reduceAdd → zC, reduceSub → zD, reduceMul → zE, reduceLeDiff → zF, reduceLT → zG, reduceEqDiff → zH
open Int renaming reduceToNat → zI, reduceLE → zJ, reduceLT → zK, reduceEq → zL
open Bool renaming not_eq_true' → zM, not_eq_false' → zN
theorem shr4 (c : UInt8) : (c.toNat : Int).fdiv (2 ^ min 4 8) = ((c.toNat / 16 : Nat) : Int) := by
  have : ∀ n : Nat, n < 256 → (n : Int).fdiv (2 ^ min 4 8) = ((n / 16 : Nat) : Int) := by decide +kernel
  exact this _ (UInt8.toNat_lt c)
theorem and15 (c : UInt8) : IntKind.u8.wrap (BitVec.ofInt 8 (c.toNat : Int) &&& BitVec.ofInt 8 15).toNat = ((c.toNat % 16 : Nat) : Int) := by
  have : ∀ n : Nat, n < 256 → IntKind.u8.wrap (BitVec.ofInt 8 (n : Int) &&& BitVec.ofInt 8 15).toNat = ((n % 16 : Nat) : Int) := by decide +kernel
  exact this _ (UInt8.toNat_lt c)
theorem hexAt (n : Nat) (h : n < 16) : ([48, 49, 50, 51, 52, 53, 54, 55, 56, 57, 97, 98, 99, 100, 101, 102] : List UInt8)[n]? = some (Sx.hexd n) := by
  revert n; decide
theorem snoc1 (l : List UInt8) (c : UInt8) : l.map encU8 ++ [[.int .u8 (c.toNat : Int)]] = (l ++ [c]).map encU8 := by simp [encU8]
theorem snoc34 (l : List UInt8) : l.map encU8 ++ [[.int .u8 34]] = (l ++ [34]).map encU8 := by rw [List.map_append]; rfl
theorem snoc2 (l : List UInt8) (c : UInt8) : l.map encU8 ++ [[.int .u8 92], [.int .u8 (c.toNat : Int)]] = (l ++ [92, c]).map encU8 := by rw [List.map_append]; rfl
theorem snoc4 (l : List UInt8) (c d : UInt8) : l.map encU8 ++ [[.int .u8 92], [.int .u8 120], [.int .u8 (c.toNat : Int)], [.int .u8 (d.toNat : Int)]] = (l ++ [92, 120, c, d]).map encU8 := by rw [List.map_append]; rfl
theorem rquote_c (s : List UInt8) (hs : s.length ≤ 1000000000) : PC Tryd.prog 16 [S s] (S (Sx.quoteL s)) := by
  have hqb := quoteB_le s
  refine PCB.of_body Tryd.func16 rfl (by decide) Tryd.ntmps16 Tryd.results16 rfl rfl rfl ?_ rfl rfl
  repeat' (first | (simp only [go_sem, zA, zB, zC, zD, zE, zF, zG, reduceCtorEq, zH, zI, zJ, zK, zL]; all_goals fail_if_success guard_target =ₛ False) | (with_reducible first | ((first | refine seqVC_stepN rfl ?_ | refine seqVC_stepG rfl (by with_unfolding_all rfl) ?_ | refine AWP.seq ?_ | refine AWP.seqR (by kernel_rfl) ?_ | refine parVC_stepN rfl ?_ | refine parVC_stepG rfl (by with_unfolding_all rfl) ?_ | refine parEVC_stepN rfl ?_ | refine parEVC_stepG rfl (by with_unfolding_all rfl) ?_ | refine genVC_stepN rfl ?_ | refine genVC_stepG rfl (by with_unfolding_all rfl) ?_); intro K hK) | ((first | refine hK _ _ _ ?_ | refine hK _ _ ?_ | refine hK _ ?_); clear hK K) | refine seqVC_nil ?_ | refine parVC_nil ?_ | refine parEVC_nil ?_ | refine genVC_nil ?_ | refine AWP.block ?_ | (refine AWP.cond (by with_unfolding_all rfl) ?_ ?_ <;> intro h <;> (try simp only [zM, zN] at h) <;> try exact absurd h (by decide)) | refine AWP.skip ?_ | refine AWP.ret ?_ | refine AWP.exit ?_ | (refine ⟨fun h => ?_, fun h => ?_⟩ <;> (try simp only [zM, zN] at h) <;> try simp only [h]) | (refine Or.inr (show vBuildOwn _ 7 _ _ _ _ _ _ from ?_); unfold vBuildOwn; with_reducible refine Or.inr ?_; simp only [vBuildRow, go_sem, zA, zB, zC, zD, zE, zF, zG, reduceCtorEq, zH, zI, zJ, zK, zL]) | (refine AWP.segP (id := 7) 10 mixed (by kernel_rfl) fun K hK => ?_; simp only [List.take_succ_cons, List.take_zero, List.drop_succ_cons, List.drop_zero]) | refine AWP.parR mixed (by kernel_rfl) fun K hK => ?_ | refine ⟨(by kernel_rfl : depB _ _ _ = true), ?_⟩ | refine Or.inl ?_) | (clear hK K))
  refine AWP.loopF (X := Nat × List UInt8) (fun x => [(5, I .i64 (x.1 : Nat)), (4, .one (.own 7 x.2.length))]) (fun x => [(7, .row 1 (x.2.map encU8))]) [0, 3] [] (fun x => x.1 ≤ s.length ∧ x.2 = 34 :: Sx.quoteB (s.take x.1) ∧ x.2.length ≤ 4 * x.1 + 1) (fun x => s.length - x.1) ((0, [34])) (by simp only [go_sem, zA, zB, zC, zD, zE, zF, zG, reduceCtorEq, zH, zI, zJ, zK, zL]; exact Gh.to [] (by repeat (first | exact trivial | refine ⟨rfl, ?_⟩ | refine ⟨by (simp only [go_sem, zA, zB, zC, zD, zE, zF, zG, reduceCtorEq, zH, zI, zJ, zK, zL, List.length_append, List.length_map, List.length_cons, List.length_nil, Nat.zero_add]) <;> rfl, ?_⟩)) (by repeat (first | exact trivial | refine ⟨rfl, ?_⟩ | refine ⟨by (simp only [go_sem, zA, zB, zC, zD, zE, zF, zG, reduceCtorEq, zH, zI, zJ, zK, zL, List.length_append, List.length_map, List.length_cons, List.length_nil, Nat.zero_add]) <;> rfl, ?_⟩)) rfl rfl rfl) ?_ ?_
  · exact ⟨Nat.zero_le _, by rw [List.take_zero]; rfl, by simp⟩
  rintro ⟨k, acc⟩ ⟨hk, hacc, hal⟩
  simp only at hk hacc hal
  simp only [go_sem, zA, zB, zC, zD, zE, zF, zG, reduceCtorEq, zH, zI, zJ, zK, zL]
  by_cases hlt : k < s.length
  · obtain ⟨c, hc⟩ := byte_at hlt
    have hd : decide ((k : Int) < (s.length : Int)) = true := by rw [decide_eq_true_eq]; omega
    have hw := wk64 hlt (show s.length ≤ 1000000000000 by omega)
    have hq := quoteB_succ s k hlt
    rw [show s[k] = c from (List.getElem?_eq_some_iff.1 hc).2] at hq
    have hql := quote1_le c
    have hnew : acc ++ Sx.quote1 c = 34 :: Sx.quoteB (s.take (k + 1)) := by rw [hacc, hq]; rfl
    have hm := UInt8.toNat_lt c
    unfold Sx.quote1 at hnew
    cases h34 : decide ((c.toNat : Int) = 34) with
    | true =>
      rw [show decide (c.toNat = 34) = true by simp at h34 ⊢; omega] at hnew
      simp only [Bool.true_or, cond_true] at hnew
      repeat' (first | (simp only [go_sem, zA, zB, zC, zD, zE, zF, zG, reduceCtorEq, zH, zI, zJ, zK, zL, hd, h34, hw, snoc2, List.length_map]; all_goals fail_if_success guard_target =ₛ False) | (with_reducible first | ((first | refine seqVC_stepN rfl ?_ | refine seqVC_stepG rfl (by with_unfolding_all rfl) ?_ | refine AWP.seq ?_ | refine AWP.seqR (by kernel_rfl) ?_ | refine parVC_stepN rfl ?_ | refine parVC_stepG rfl (by with_unfolding_all rfl) ?_ | refine parEVC_stepN rfl ?_ | refine parEVC_stepG rfl (by with_unfolding_all rfl) ?_ | refine genVC_stepN rfl ?_ | refine genVC_stepG rfl (by with_unfolding_all rfl) ?_); intro K hK) | ((first | refine hK _ _ _ ?_ | refine hK _ _ ?_ | refine hK _ ?_); clear hK K) | refine seqVC_nil ?_ | refine parVC_nil ?_ | refine parEVC_nil ?_ | refine genVC_nil ?_ | refine AWP.block ?_ | (refine AWP.cond (by with_unfolding_all rfl) ?_ ?_ <;> intro h <;> (try simp only [zM, zN] at h) <;> try exact absurd h (by decide)) | refine AWP.skip ?_ | refine AWP.ret ?_ | refine AWP.exit ?_ | (refine ⟨fun h => ?_, fun h => ?_⟩ <;> (try simp only [zM, zN] at h) <;> try simp only [h]) | (refine ⟨(by first | omega | (simp only [List.length_append, List.length_map, List.length_take, List.length_drop, List.length_cons, List.length_nil, List.length_replicate]; omega) : _ ≤ _), ?_⟩) | refine ⟨by omega, by omega, ?_⟩ | refine ⟨by omega, c, hc, ?_⟩ | (refine AWP.segP (id := 7) 10 mixed (by kernel_rfl) fun K hK => ?_; simp only [List.take_succ_cons, List.take_zero, List.drop_succ_cons, List.drop_zero]) | refine AWP.parR mixed (by kernel_rfl) fun K hK => ?_ | refine ⟨(by kernel_rfl : depB _ _ _ = true), ?_⟩ | refine Or.inl ?_) | (clear hK K))
      all_goals (refine ⟨(k + 1, acc ++ [92, c]), by simp only; omega, ⟨by simp only; omega, hnew, by simp only [List.length_append, List.length_cons, List.length_nil]; omega⟩, Gh.to [(7, 38)] (by repeat (first | exact trivial | refine ⟨rfl, ?_⟩ | refine ⟨by (simp only [go_sem, zA, zB, zC, zD, zE, zF, zG, reduceCtorEq, zH, zI, zJ, zK, zL, List.length_append, List.length_map, List.length_cons, List.length_nil, Nat.zero_add]) <;> rfl, ?_⟩)) (by repeat (first | exact trivial | refine ⟨rfl, ?_⟩ | refine ⟨by (simp only [go_sem, zA, zB, zC, zD, zE, zF, zG, reduceCtorEq, zH, zI, zJ, zK, zL, List.length_append, List.length_map, List.length_cons, List.length_nil, Nat.zero_add]) <;> rfl, ?_⟩)) rfl rfl rfl⟩)
    | false =>
    rw [show decide (c.toNat = 34) = false by simp at h34 ⊢; omega] at hnew
    cases h92 : decide ((c.toNat : Int) = 92) with
    | true =>
      rw [show decide (c.toNat = 92) = true by simp at h92 ⊢; omega] at hnew
      simp only [Bool.or_true, cond_true] at hnew
      repeat' (first | (simp only [go_sem, zA, zB, zC, zD, zE, zF, zG, reduceCtorEq, zH, zI, zJ, zK, zL, hd, h34, h92, hw, snoc2, List.length_map]; all_goals fail_if_success guard_target =ₛ False) | (with_reducible first | ((first | refine seqVC_stepN rfl ?_ | refine seqVC_stepG rfl (by with_unfolding_all rfl) ?_ | refine AWP.seq ?_ | refine AWP.seqR (by kernel_rfl) ?_ | refine parVC_stepN rfl ?_ | refine parVC_stepG rfl (by with_unfolding_all rfl) ?_ | refine parEVC_stepN rfl ?_ | refine parEVC_stepG rfl (by with_unfolding_all rfl) ?_ | refine genVC_stepN rfl ?_ | refine genVC_stepG rfl (by with_unfolding_all rfl) ?_); intro K hK) | ((first | refine hK _ _ _ ?_ | refine hK _ _ ?_ | refine hK _ ?_); clear hK K) | refine seqVC_nil ?_ | refine parVC_nil ?_ | refine parEVC_nil ?_ | refine genVC_nil ?_ | refine AWP.block ?_ | (refine AWP.cond (by with_unfolding_all rfl) ?_ ?_ <;> intro h <;> (try simp only [zM, zN] at h) <;> try exact absurd h (by decide)) | refine AWP.skip ?_ | refine AWP.ret ?_ | refine AWP.exit ?_ | (refine ⟨fun h => ?_, fun h => ?_⟩ <;> (try simp only [zM, zN] at h) <;> try simp only [h]) | (refine ⟨(by first | omega | (simp only [List.length_append, List.length_map, List.length_take, List.length_drop, List.length_cons, List.length_nil, List.length_replicate]; omega) : _ ≤ _), ?_⟩) | refine ⟨by omega, by omega, ?_⟩ | refine ⟨by omega, c, hc, ?_⟩ | (refine AWP.segP (id := 7) 10 mixed (by kernel_rfl) fun K hK => ?_; simp only [List.take_succ_cons, List.take_zero, List.drop_succ_cons, List.drop_zero]) | refine AWP.parR mixed (by kernel_rfl) fun K hK => ?_ | refine ⟨(by kernel_rfl : depB _ _ _ = true), ?_⟩ | refine Or.inl ?_) | (clear hK K))
      all_goals (refine ⟨(k + 1, acc ++ [92, c]), by simp only; omega, ⟨by simp only; omega, hnew, by simp only [List.length_append, List.length_cons, List.length_nil]; omega⟩, Gh.to [(7, 38)] (by repeat (first | exact trivial | refine ⟨rfl, ?_⟩ | refine ⟨by (simp only [go_sem, zA, zB, zC, zD, zE, zF, zG, reduceCtorEq, zH, zI, zJ, zK, zL, List.length_append, List.length_map, List.length_cons, List.length_nil, Nat.zero_add]) <;> rfl, ?_⟩)) (by repeat (first | exact trivial | refine ⟨rfl, ?_⟩ | refine ⟨by (simp only [go_sem, zA, zB, zC, zD, zE, zF, zG, reduceCtorEq, zH, zI, zJ, zK, zL, List.length_append, List.length_map, List.length_cons, List.length_nil, Nat.zero_add]) <;> rfl, ?_⟩)) rfl rfl rfl⟩)
    | false =>
    rw [show decide (c.toNat = 92) = false by simp at h92 ⊢; omega] at hnew
    have e32 : decide (32 ≤ c.toNat) = decide ((32 : Int) ≤ (c.toNat : Int)) := by rw [Bool.eq_iff_iff]; simp; omega
    have e126 : decide (c.toNat ≤ 126) = decide ((c.toNat : Int) ≤ 126) := by rw [Bool.eq_iff_iff]; simp; omega
    rw [e32, e126] at hnew
    simp only [Bool.or_false, cond_false] at hnew
    have hx1 := hexAt (c.toNat / 16) (by omega)
    have hx2 : ([48, 49, 50, 51, 52, 53, 54, 55, 56, 57, 97, 98, 99, 100, 101, 102] : List UInt8)[(IntKind.u8.wrap (BitVec.ofInt 8 (c.toNat : Int) &&& BitVec.ofInt 8 15).toNat).toNat]? = some (Sx.hexd (c.toNat % 16)) := by
      rw [and15, Int.toNat_natCast]; exact hexAt (c.toNat % 16) (by omega)
    cases h3 : decide ((32 : Int) ≤ (c.toNat : Int)) with
    | false =>
      rw [h3] at hnew
      simp only [Bool.false_and, cond_false] at hnew
      repeat' (first | (simp only [go_sem, zA, zB, zC, zD, zE, zF, zG, reduceCtorEq, zH, zI, zJ, zK, zL, hd, h34, h92, h3, hw, snoc4, shr4, Int.toNat_natCast, List.length_map]; all_goals fail_if_success guard_target =ₛ False) | (with_reducible first | ((first | refine seqVC_stepN rfl ?_ | refine seqVC_stepG rfl (by with_unfolding_all rfl) ?_ | refine AWP.seq ?_ | refine AWP.seqR (by kernel_rfl) ?_ | refine parVC_stepN rfl ?_ | refine parVC_stepG rfl (by with_unfolding_all rfl) ?_ | refine parEVC_stepN rfl ?_ | refine parEVC_stepG rfl (by with_unfolding_all rfl) ?_ | refine genVC_stepN rfl ?_ | refine genVC_stepG rfl (by with_unfolding_all rfl) ?_); intro K hK) | ((first | refine hK _ _ _ ?_ | refine hK _ _ ?_ | refine hK _ ?_); clear hK K) | refine seqVC_nil ?_ | refine parVC_nil ?_ | refine parEVC_nil ?_ | refine genVC_nil ?_ | refine AWP.block ?_ | (refine AWP.cond (by with_unfolding_all rfl) ?_ ?_ <;> intro h <;> (try simp only [zM, zN] at h) <;> try exact absurd h (by decide)) | refine AWP.skip ?_ | refine AWP.ret ?_ | refine AWP.exit ?_ | (refine ⟨fun h => ?_, fun h => ?_⟩ <;> (try simp only [zM, zN] at h) <;> try simp only [h]) | (refine ⟨(by first | omega | (simp only [List.length_append, List.length_map, List.length_take, List.length_drop, List.length_cons, List.length_nil, List.length_replicate]; omega) : _ ≤ _), ?_⟩) | refine ⟨by omega, by omega, ?_⟩ | refine ⟨by omega, c, hc, ?_⟩ | refine ⟨_, hx1, ?_⟩) | ( refine ⟨_, hx2, ?_⟩) | (with_reducible first | (refine AWP.segP (id := 7) 10 mixed (by kernel_rfl) fun K hK => ?_; simp only [List.take_succ_cons, List.take_zero, List.drop_succ_cons, List.drop_zero]) | refine AWP.parR mixed (by kernel_rfl) fun K hK => ?_ | refine ⟨(by kernel_rfl : depB _ _ _ = true), ?_⟩ | refine Or.inl ?_) | (clear hK K))
      all_goals (refine ⟨(k + 1, acc ++ [92, 120, Sx.hexd (c.toNat / 16), Sx.hexd (c.toNat % 16)]), by simp only; omega, ⟨by simp only; omega, hnew, by simp only [List.length_append, List.length_cons, List.length_nil]; omega⟩, Gh.to [(7, 27)] (by repeat (first | exact trivial | refine ⟨rfl, ?_⟩ | refine ⟨by (simp only [go_sem, zA, zB, zC, zD, zE, zF, zG, reduceCtorEq, zH, zI, zJ, zK, zL, List.length_append, List.length_map, List.length_cons, List.length_nil, Nat.zero_add]) <;> rfl, ?_⟩)) (by repeat (first | exact trivial | refine ⟨rfl, ?_⟩ | refine ⟨by (simp only [go_sem, zA, zB, zC, zD, zE, zF, zG, reduceCtorEq, zH, zI, zJ, zK, zL, List.length_append, List.length_map, List.length_cons, List.length_nil, Nat.zero_add]) <;> rfl, ?_⟩)) rfl rfl rfl⟩)
    | true =>
    rw [h3] at hnew
    cases h4 : decide ((c.toNat : Int) ≤ 126) with
    | true =>
      rw [h4] at hnew
      simp only [Bool.and_true, cond_true] at hnew
      repeat' (first | (simp only [go_sem, zA, zB, zC, zD, zE, zF, zG, reduceCtorEq, zH, zI, zJ, zK, zL, hd, h34, h92, h3, h4, hw, snoc1, List.length_map]; all_goals fail_if_success guard_target =ₛ False) | (with_reducible first | ((first | refine seqVC_stepN rfl ?_ | refine seqVC_stepG rfl (by with_unfolding_all rfl) ?_ | refine AWP.seq ?_ | refine AWP.seqR (by kernel_rfl) ?_ | refine parVC_stepN rfl ?_ | refine parVC_stepG rfl (by with_unfolding_all rfl) ?_ | refine parEVC_stepN rfl ?_ | refine parEVC_stepG rfl (by with_unfolding_all rfl) ?_ | refine genVC_stepN rfl ?_ | refine genVC_stepG rfl (by with_unfolding_all rfl) ?_); intro K hK) | ((first | refine hK _ _ _ ?_ | refine hK _ _ ?_ | refine hK _ ?_); clear hK K) | refine seqVC_nil ?_ | refine parVC_nil ?_ | refine parEVC_nil ?_ | refine genVC_nil ?_ | refine AWP.block ?_ | (refine AWP.cond (by with_unfolding_all rfl) ?_ ?_ <;> intro h <;> (try simp only [zM, zN] at h) <;> try exact absurd h (by decide)) | refine AWP.skip ?_ | refine AWP.ret ?_ | refine AWP.exit ?_ | (refine ⟨fun h => ?_, fun h => ?_⟩ <;> (try simp only [zM, zN] at h) <;> try simp only [h]) | (refine ⟨(by first | omega | (simp only [List.length_append, List.length_map, List.length_take, List.length_drop, List.length_cons, List.length_nil, List.length_replicate]; omega) : _ ≤ _), ?_⟩) | refine ⟨by omega, by omega, ?_⟩ | refine ⟨by omega, c, hc, ?_⟩ | (refine AWP.segP (id := 7) 10 mixed (by kernel_rfl) fun K hK => ?_; simp only [List.take_succ_cons, List.take_zero, List.drop_succ_cons, List.drop_zero]) | refine AWP.parR mixed (by kernel_rfl) fun K hK => ?_ | refine ⟨(by kernel_rfl : depB _ _ _ = true), ?_⟩ | refine Or.inl ?_) | (clear hK K))
      all_goals (refine ⟨(k + 1, acc ++ [c]), by simp only; omega, ⟨by simp only; omega, hnew, by simp only [List.length_append, List.length_cons, List.length_nil]; omega⟩, Gh.to [(7, 49)] (by repeat (first | exact trivial | refine ⟨rfl, ?_⟩ | refine ⟨by (simp only [go_sem, zA, zB, zC, zD, zE, zF, zG, reduceCtorEq, zH, zI, zJ, zK, zL, List.length_append, List.length_map, List.length_cons, List.length_nil, Nat.zero_add]) <;> rfl, ?_⟩)) (by repeat (first | exact trivial | refine ⟨rfl, ?_⟩ | refine ⟨by (simp only [go_sem, zA, zB, zC, zD, zE, zF, zG, reduceCtorEq, zH, zI, zJ, zK, zL, List.length_append, List.length_map, List.length_cons, List.length_nil, Nat.zero_add]) <;> rfl, ?_⟩)) rfl rfl rfl⟩)
    | false =>
      rw [h4] at hnew
      simp only [Bool.and_false, cond_false] at hnew
      repeat' (first | (simp only [go_sem, zA, zB, zC, zD, zE, zF, zG, reduceCtorEq, zH, zI, zJ, zK, zL, hd, h34, h92, h3, h4, hw, snoc4, shr4, Int.toNat_natCast, List.length_map]; all_goals fail_if_success guard_target =ₛ False) | (with_reducible first | ((first | refine seqVC_stepN rfl ?_ | refine seqVC_stepG rfl (by with_unfolding_all rfl) ?_ | refine AWP.seq ?_ | refine AWP.seqR (by kernel_rfl) ?_ | refine parVC_stepN rfl ?_ | refine parVC_stepG rfl (by with_unfolding_all rfl) ?_ | refine parEVC_stepN rfl ?_ | refine parEVC_stepG rfl (by with_unfolding_all rfl) ?_ | refine genVC_stepN rfl ?_ | refine genVC_stepG rfl (by with_unfolding_all rfl) ?_); intro K hK) | ((first | refine hK _ _ _ ?_ | refine hK _ _ ?_ | refine hK _ ?_); clear hK K) | refine seqVC_nil ?_ | refine parVC_nil ?_ | refine parEVC_nil ?_ | refine genVC_nil ?_ | refine AWP.block ?_ | (refine AWP.cond (by with_unfolding_all rfl) ?_ ?_ <;> intro h <;> (try simp only [zM, zN] at h) <;> try exact absurd h (by decide)) | refine AWP.skip ?_ | refine AWP.ret ?_ | refine AWP.exit ?_ | (refine ⟨fun h => ?_, fun h => ?_⟩ <;> (try simp only [zM, zN] at h) <;> try simp only [h]) | (refine ⟨(by first | omega | (simp only [List.length_append, List.length_map, List.length_take, List.length_drop, List.length_cons, List.length_nil, List.length_replicate]; omega) : _ ≤ _), ?_⟩) | refine ⟨by omega, by omega, ?_⟩ | refine ⟨by omega, c, hc, ?_⟩ | refine ⟨_, hx1, ?_⟩) | ( refine ⟨_, hx2, ?_⟩) | (with_reducible first | (refine AWP.segP (id := 7) 10 mixed (by kernel_rfl) fun K hK => ?_; simp only [List.take_succ_cons, List.take_zero, List.drop_succ_cons, List.drop_zero]) | refine AWP.parR mixed (by kernel_rfl) fun K hK => ?_ | refine ⟨(by kernel_rfl : depB _ _ _ = true), ?_⟩ | refine Or.inl ?_) | (clear hK K))
      all_goals (refine ⟨(k + 1, acc ++ [92, 120, Sx.hexd (c.toNat / 16), Sx.hexd (c.toNat % 16)]), by simp only; omega, ⟨by simp only; omega, hnew, by simp only [List.length_append, List.length_cons, List.length_nil]; omega⟩, Gh.to [(7, 27)] (by repeat (first | exact trivial | refine ⟨rfl, ?_⟩ | refine ⟨by (simp only [go_sem, zA, zB, zC, zD, zE, zF, zG, reduceCtorEq, zH, zI, zJ, zK, zL, List.length_append, List.length_map, List.length_cons, List.length_nil, Nat.zero_add]) <;> rfl, ?_⟩)) (by repeat (first | exact trivial | refine ⟨rfl, ?_⟩ | refine ⟨by (simp only [go_sem, zA, zB, zC, zD, zE, zF, zG, reduceCtorEq, zH, zI, zJ, zK, zL, List.length_append, List.length_map, List.length_cons, List.length_nil, Nat.zero_add]) <;> rfl, ?_⟩)) rfl rfl rfl⟩)
  · have hd : decide ((k : Int) < (s.length : Int)) = false := by rw [decide_eq_false_iff_not]; omega
    rw [List.take_of_length_le (by omega)] at hacc
    repeat' (first | (simp only [go_sem, zA, zB, zC, zD, zE, zF, zG, reduceCtorEq, zH, zI, zJ, zK, zL, hd, snoc34, List.length_map]; all_goals fail_if_success guard_target =ₛ False) | (with_reducible first | ((first | refine seqVC_stepN rfl ?_ | refine seqVC_stepG rfl (by with_unfolding_all rfl) ?_ | refine AWP.seq ?_ | refine AWP.seqR (by kernel_rfl) ?_ | refine parVC_stepN rfl ?_ | refine parVC_stepG rfl (by with_unfolding_all rfl) ?_ | refine parEVC_stepN rfl ?_ | refine parEVC_stepG rfl (by with_unfolding_all rfl) ?_ | refine genVC_stepN rfl ?_ | refine genVC_stepG rfl (by with_unfolding_all rfl) ?_); intro K hK) | ((first | refine hK _ _ _ ?_ | refine hK _ _ ?_ | refine hK _ ?_); clear hK K) | refine seqVC_nil ?_ | refine parVC_nil ?_ | refine parEVC_nil ?_ | refine genVC_nil ?_ | refine AWP.block ?_ | (refine AWP.cond (by with_unfolding_all rfl) ?_ ?_ <;> intro h <;> (try simp only [zM, zN] at h) <;> try exact absurd h (by decide)) | refine AWP.skip ?_ | refine AWP.ret ?_ | refine AWP.exit ?_ | (refine ⟨fun h => ?_, fun h => ?_⟩ <;> (try simp only [zM, zN] at h) <;> try simp only [h]) | (refine ⟨(by first | omega | (simp only [List.length_append, List.length_map, List.length_take, List.length_drop, List.length_cons, List.length_nil, List.length_replicate]; omega) : _ ≤ _), ?_⟩) | refine ⟨by omega, by omega, ?_⟩ | (refine AWP.segP (id := 7) 10 mixed (by kernel_rfl) fun K hK => ?_; simp only [List.take_succ_cons, List.take_zero, List.drop_succ_cons, List.drop_zero]) | refine AWP.parR mixed (by kernel_rfl) fun K hK => ?_ | refine ⟨(by kernel_rfl : depB _ _ _ = true), ?_⟩ | refine Or.inl ?_) | (clear hK K))
    rw [hacc]
    all_goals (first | exact fun _ h => absurd h List.not_mem_nil | refine fin0 ?_)
    all_goals rfl
end Go.Proofs.YtogponhonjiidaaDoor


set_option linter.unusedSimpArgs false
set_option linter.unusedVariables false
set_option maxRecDepth 20000
set_option maxHeartbeats 16000000
namespace Go.Proofs.YtogponhonjiidaaDoor
open Go Go.Sx
open Nat renaming reduceBEq → zA, reduceBNe → zB, reduceAdd → zC, reduceSub → zD, reduceMul → zE, reduceLeDiff → zF, reduceLT → zG, reduceEqDiff → zH
open Int renaming reduceToNat → zI, reduceLE → zJ, reduceLT → zK, reduceEq → zL
open Bool renaming not_eq_true' → zM, not_eq_false' → zN
theorem take_cnt (p : Int → Bool) : ∀ (l : List UInt8), ∀ x ∈ l.take (cntW p l), p x.toNat = true
  | [], x, h => by simp at h
  | b :: l, x, h => by
    rw [cntW] at h
    cases hp : p b.toNat with
    | false => rw [hp] at h; simp at h
    | true =>
      rw [hp, cond_true, Nat.add_comm, List.take_succ_cons] at h
      rcases List.mem_cons.1 h with rfl | h
      · exact hp
      · exact take_cnt p l x h
/-- the bytes from k on that meet p -/
def spanW (p : Int → Bool) (s : List UInt8) (k : Nat) : List UInt8 := (s.take (toW p s k)).drop k
theorem spanW_eq (p : Int → Bool) (s : List UInt8) (k : Nat) : spanW p s k = (s.drop k).take (cntW p (s.drop k)) := by
  unfold spanW toW
  rw [List.drop_take]
  congr 1
  omega
theorem spanW_all (p : Int → Bool) (s : List UInt8) (k : Nat) : ∀ x ∈ spanW p s k, p x.toNat = true := by
  rw [spanW_eq]; exact take_cnt p _
theorem spanW_ne {p : Int → Bool} {s : List UInt8} {k : Nat} {b : UInt8} (h : s[k]? = some b) (hp : p b.toNat = true) : spanW p s k ≠ [] := by
  obtain ⟨hk, rfl⟩ := List.getElem?_eq_some_iff.1 h
  rw [spanW_eq, List.drop_eq_getElem_cons hk, cntW, hp, cond_true, Nat.add_comm, List.take_succ_cons]
  exact List.cons_ne_nil _ _
theorem text_cons {p : Int → Bool} {s : List UInt8} {i : Nat} {b : UInt8} (h : s[i]? = some b) : (s.take (toW p s (i + 1))).drop i = b :: spanW p s (i + 1) := by
  obtain ⟨hk, rfl⟩ := List.getElem?_eq_some_iff.1 h
  have h1 : i < (s.take (toW p s (i + 1))).length := by
    rw [List.length_take]
    have := toW_ge (p := p) (s := s) (k := i + 1)
    omega
  rw [List.drop_eq_getElem_cons h1, List.getElem_take]
  rfl
def nextDig (s : List UInt8) (i : Nat) : Bool := match s[i + 1]? with
  | some c => digI c.toNat
  | none => false
/-- the next token, its code, the place behind it; rq, re: what a quote, a backquote begins -/
def nextV (s : List UInt8) (i : Nat) (b : UInt8) (rq re : (Tok × Int) × Nat) : (Tok × Int) × Nat :=
  bif lowI b.toNat then (wordV 1 (b :: spanW nameI s (i + 1)), toW nameI s (i + 1))
  else bif uppI b.toNat then (wordV 2 (b :: spanW varI s (i + 1)), toW varI s (i + 1))
  else bif decide ((b.toNat : Int) = 95) then ((⟨2, [95], 0, 0⟩, 0), i + 1)
  else bif digI b.toNat then (numT false (b :: spanW digI s (i + 1)), toW digI s (i + 1))
  else bif decide ((b.toNat : Int) = 45) && nextDig s i then (numT true (spanW digI s (i + 1)), toW digI s (i + 1))
  else bif decide ((b.toNat : Int) = 34) then rq
  else bif decide ((b.toNat : Int) = 96) then re
  else ((signV (s.drop i)).1, i + (signV (s.drop i)).2)
theorem word_t (kind : Int) (text : List UInt8) : PC Tryd.prog 58 [I .i64 kind, S text] (.tup [.st (encTok (wordV kind text).1), I .i64 (wordV kind text).2]) := word_c kind text
theorem tok_eta (t : Tok) : encTok t = [.int .i64 t.kind, .str t.text, .int .i64 t.num, .int .i64 t.at_] := rfl
theorem next_c (s : List UInt8) (hs : s.length ≤ 1000000000) (i : Nat) (b : UInt8) (hb : s[i]? = some b) (rq re : (Tok × Int) × Nat)
    (hq : decide ((b.toNat : Int) = 34) = true → PCB Tryd.prog 65 [Scp pin] [(pin, scB s i)] (TkR rq.1) [(pin, scB s rq.2)])
    (he : decide ((b.toNat : Int) = 96) = true → PCB Tryd.prog 66 [Scp pin] [(pin, scB s i)] (TkR re.1) [(pin, scB s re.2)]) :
    PCB Tryd.prog 37 [Scp pin] [(pin, scB s i)] (TkR (nextV s i b rq re).1) [(pin, scB s (nextV s i b rq re).2)] := by
  have hi : i < s.length := (List.getElem?_eq_some_iff.1 hb).1
  have hwk := wk64 hi (show s.length ≤ 1000000000000 by omega)
  have c1 := wordslower_c b.toNat
  have c2 := wordsupper_c b.toNat
  have c3 := wordsdigit_c b.toNat
  cases hl : lowI b.toNat with
  | true =>
    rw [hl] at c1
    have hr := run_k 1000000 60 nameI wName_c s (by omega) i hi
    rw [text_cons hb] at hr
    have hw := word_t 1 (b :: spanW nameI s (i + 1))
    refine PCB.of_body Tryd.func37 rfl (by decide) Tryd.ntmps37 Tryd.results37 rfl rfl rfl ?_ rfl rfl
    repeat' (first | (simp only [go_sem, zA, zB, zC, zD, zE, zF, zG, reduceCtorEq, zH, zI, zJ, zK, zL, pin, tok_eta]; all_goals fail_if_success guard_target =ₛ False) | (with_reducible first | ((first | refine seqVC_stepN rfl ?_ | refine seqVC_stepG rfl (by with_unfolding_all rfl) ?_ | refine AWP.seq ?_ | refine AWP.seqR (by kernel_rfl) ?_ | refine parVC_stepN rfl ?_ | refine parVC_stepG rfl (by with_unfolding_all rfl) ?_ | refine parEVC_stepN rfl ?_ | refine parEVC_stepG rfl (by with_unfolding_all rfl) ?_ | refine genVC_stepN rfl ?_ | refine genVC_stepG rfl (by with_unfolding_all rfl) ?_); intro K hK) | ((first | refine hK _ _ _ ?_ | refine hK _ _ ?_ | refine hK _ ?_); clear hK K) | refine seqVC_nil ?_ | refine parVC_nil ?_ | refine parEVC_nil ?_ | refine genVC_nil ?_ | refine AWP.block ?_ | (refine AWP.cond (by with_unfolding_all rfl) ?_ ?_ <;> intro h <;> (try simp only [zM, zN] at h) <;> try exact absurd h (by decide)) | refine AWP.skip ?_ | refine AWP.ret ?_ | refine AWP.exit ?_ | (refine ⟨fun h => ?_, fun h => ?_⟩ <;> (try simp only [zM, zN] at h) <;> try simp only [h]) | refine ⟨_, c1, ?_⟩ | refine ⟨_, hw, ?_⟩ | refine ⟨by omega, b, hb, ?_⟩) | (refine ⟨1000000, _, _, _, hr, rfl, ?_⟩) | (with_reducible first | refine AWP.parR mixed (by kernel_rfl) fun K hK => ?_ | refine ⟨(by kernel_rfl : depB _ _ _ = true), ?_⟩ | refine Or.inl ?_) | (clear hK K))
    all_goals (simp only [nextV, hl, cond_true, tok_eta])
    all_goals (refine ⟨by first | trivial | rfl, fun x hx => ?_⟩; simp only [List.mem_singleton] at hx; subst hx; simp)
  | false =>
  rw [hl] at c1
  cases hu : uppI b.toNat with
  | true =>
    rw [hu] at c2
    have hr := run_k 1000000 63 varI wVar_c s (by omega) i hi
    rw [text_cons hb] at hr
    have hw := word_t 2 (b :: spanW varI s (i + 1))
    refine PCB.of_body Tryd.func37 rfl (by decide) Tryd.ntmps37 Tryd.results37 rfl rfl rfl ?_ rfl rfl
    repeat' (first | (simp only [go_sem, zA, zB, zC, zD, zE, zF, zG, reduceCtorEq, zH, zI, zJ, zK, zL, pin, tok_eta]; all_goals fail_if_success guard_target =ₛ False) | (with_reducible first | ((first | refine seqVC_stepN rfl ?_ | refine seqVC_stepG rfl (by with_unfolding_all rfl) ?_ | refine AWP.seq ?_ | refine AWP.seqR (by kernel_rfl) ?_ | refine parVC_stepN rfl ?_ | refine parVC_stepG rfl (by with_unfolding_all rfl) ?_ | refine parEVC_stepN rfl ?_ | refine parEVC_stepG rfl (by with_unfolding_all rfl) ?_ | refine genVC_stepN rfl ?_ | refine genVC_stepG rfl (by with_unfolding_all rfl) ?_); intro K hK) | ((first | refine hK _ _ _ ?_ | refine hK _ _ ?_ | refine hK _ ?_); clear hK K) | refine seqVC_nil ?_ | refine parVC_nil ?_ | refine parEVC_nil ?_ | refine genVC_nil ?_ | refine AWP.block ?_ | (refine AWP.cond (by with_unfolding_all rfl) ?_ ?_ <;> intro h <;> (try simp only [zM, zN] at h) <;> try exact absurd h (by decide)) | refine AWP.skip ?_ | refine AWP.ret ?_ | refine AWP.exit ?_ | (refine ⟨fun h => ?_, fun h => ?_⟩ <;> (try simp only [zM, zN] at h) <;> try simp only [h]) | refine ⟨_, c1, ?_⟩ | refine ⟨_, c2, ?_⟩ | refine ⟨_, hw, ?_⟩ | refine ⟨by omega, b, hb, ?_⟩) | (refine ⟨1000000, _, _, _, hr, rfl, ?_⟩) | (with_reducible first | refine AWP.parR mixed (by kernel_rfl) fun K hK => ?_ | refine ⟨(by kernel_rfl : depB _ _ _ = true), ?_⟩ | refine Or.inl ?_) | (clear hK K))
    all_goals (simp only [nextV, hl, hu, cond_true, cond_false, tok_eta])
    all_goals (refine ⟨by first | trivial | rfl, fun x hx => ?_⟩; simp only [List.mem_singleton] at hx; subst hx; simp)
  | false =>
  rw [hu] at c2
  cases h95 : decide ((b.toNat : Int) = 95) with
  | true =>
    refine PCB.of_body Tryd.func37 rfl (by decide) Tryd.ntmps37 Tryd.results37 rfl rfl rfl ?_ rfl rfl
    repeat' (first | (simp only [go_sem, zA, zB, zC, zD, zE, zF, zG, reduceCtorEq, zH, zI, zJ, zK, zL, pin, tok_eta, h95, hwk]; all_goals fail_if_success guard_target =ₛ False) | (with_reducible first | ((first | refine seqVC_stepN rfl ?_ | refine seqVC_stepG rfl (by with_unfolding_all rfl) ?_ | refine AWP.seq ?_ | refine AWP.seqR (by kernel_rfl) ?_ | refine parVC_stepN rfl ?_ | refine parVC_stepG rfl (by with_unfolding_all rfl) ?_ | refine parEVC_stepN rfl ?_ | refine parEVC_stepG rfl (by with_unfolding_all rfl) ?_ | refine genVC_stepN rfl ?_ | refine genVC_stepG rfl (by with_unfolding_all rfl) ?_); intro K hK) | ((first | refine hK _ _ _ ?_ | refine hK _ _ ?_ | refine hK _ ?_); clear hK K) | refine seqVC_nil ?_ | refine parVC_nil ?_ | refine parEVC_nil ?_ | refine genVC_nil ?_ | refine AWP.block ?_ | (refine AWP.cond (by with_unfolding_all rfl) ?_ ?_ <;> intro h <;> (try simp only [zM, zN] at h) <;> try exact absurd h (by decide)) | refine AWP.skip ?_ | refine AWP.ret ?_ | refine AWP.exit ?_ | (refine ⟨fun h => ?_, fun h => ?_⟩ <;> (try simp only [zM, zN] at h) <;> try simp only [h]) | refine ⟨_, c1, ?_⟩ | refine ⟨_, c2, ?_⟩ | refine ⟨by omega, b, hb, ?_⟩ | refine AWP.parR mixed (by kernel_rfl) fun K hK => ?_ | refine ⟨(by kernel_rfl : depB _ _ _ = true), ?_⟩ | refine Or.inl ?_) | (clear hK K))
    all_goals (simp only [nextV, hl, hu, h95, cond_true, cond_false, tok_eta])
    all_goals (refine ⟨by first | trivial | rfl, fun x hx => ?_⟩; simp only [List.mem_singleton] at hx; subst hx; simp)
  | false =>
  cases hdg : digI b.toNat with
  | true =>
    rw [hdg] at c3
    have hnum := PCBk.mk 1000000 (number_c s hs i hi false (b :: spanW digI s (i + 1)) (text_cons hb) (by
      intro x hx
      rcases List.mem_cons.1 hx with rfl | hx
      · exact hdg
      · exact spanW_all digI s (i + 1) x hx) (List.cons_ne_nil _ _))
    refine PCB.of_body Tryd.func37 rfl (by decide) Tryd.ntmps37 Tryd.results37 rfl rfl rfl ?_ rfl rfl
    repeat' (first | (simp only [go_sem, zA, zB, zC, zD, zE, zF, zG, reduceCtorEq, zH, zI, zJ, zK, zL, pin, tok_eta, h95]; all_goals fail_if_success guard_target =ₛ False) | (with_reducible first | ((first | refine seqVC_stepN rfl ?_ | refine seqVC_stepG rfl (by with_unfolding_all rfl) ?_ | refine AWP.seq ?_ | refine AWP.seqR (by kernel_rfl) ?_ | refine parVC_stepN rfl ?_ | refine parVC_stepG rfl (by with_unfolding_all rfl) ?_ | refine parEVC_stepN rfl ?_ | refine parEVC_stepG rfl (by with_unfolding_all rfl) ?_ | refine genVC_stepN rfl ?_ | refine genVC_stepG rfl (by with_unfolding_all rfl) ?_); intro K hK) | ((first | refine hK _ _ _ ?_ | refine hK _ _ ?_ | refine hK _ ?_); clear hK K) | refine seqVC_nil ?_ | refine parVC_nil ?_ | refine parEVC_nil ?_ | refine genVC_nil ?_ | refine AWP.block ?_ | (refine AWP.cond (by with_unfolding_all rfl) ?_ ?_ <;> intro h <;> (try simp only [zM, zN] at h) <;> try exact absurd h (by decide)) | refine AWP.skip ?_ | refine AWP.ret ?_ | refine AWP.exit ?_ | (refine ⟨fun h => ?_, fun h => ?_⟩ <;> (try simp only [zM, zN] at h) <;> try simp only [h]) | refine ⟨_, c1, ?_⟩ | refine ⟨_, c2, ?_⟩ | refine ⟨_, c3, ?_⟩ | refine ⟨by omega, b, hb, ?_⟩) | (refine ⟨1000000, _, _, _, hnum, rfl, ?_⟩) | (with_reducible first | refine AWP.parR mixed (by kernel_rfl) fun K hK => ?_ | refine ⟨(by kernel_rfl : depB _ _ _ = true), ?_⟩ | refine Or.inl ?_) | (clear hK K))
    all_goals (simp only [nextV, hl, hu, h95, hdg, cond_true, cond_false, tok_eta])
    all_goals (refine ⟨by first | trivial | rfl, fun x hx => ?_⟩; simp only [List.mem_singleton] at hx; subst hx; simp)
  | false =>
  rw [hdg] at c3
  have hsg := PCBk.mk 1000000 (sign_c s hs i (by omega))
  cases h45 : decide ((b.toNat : Int) = 45) with
  | true =>
    have h34 : decide ((b.toNat : Int) = 34) = false := by simp only [decide_eq_true_eq] at h45; simp [h45]
    have h96 : decide ((b.toNat : Int) = 96) = false := by simp only [decide_eq_true_eq] at h45; simp [h45]
    by_cases hi1 : i + 1 < s.length
    · obtain ⟨c, hc⟩ := byte_at hi1
      have hd1 : decide (((i + 1 : Nat) : Int) < (s.length : Int)) = true := by rw [decide_eq_true_eq]; omega
      have c4 := wordsdigit_c c.toNat
      have hnd : nextDig s i = digI c.toNat := by unfold nextDig; rw [hc]
      cases hdc : digI c.toNat with
      | true =>
        rw [hdc] at c4 hnd
        have hbe : b = 45 := by
          simp only [decide_eq_true_eq] at h45
          apply UInt8.toNat_inj.1; show b.toNat = 45; omega
        have hnum := PCBk.mk 1000000 (number_c s hs i hi true (spanW digI s (i + 1)) (by rw [text_cons hb, hbe]; rfl) (spanW_all digI s (i + 1)) (spanW_ne hc hdc))
        refine PCB.of_body Tryd.func37 rfl (by decide) Tryd.ntmps37 Tryd.results37 rfl rfl rfl ?_ rfl rfl
        repeat' (first | (simp only [go_sem, zA, zB, zC, zD, zE, zF, zG, reduceCtorEq, zH, zI, zJ, zK, zL, pin, tok_eta, h95, h45, hwk, hd1]; all_goals fail_if_success guard_target =ₛ False) | (with_reducible first | ((first | refine seqVC_stepN rfl ?_ | refine seqVC_stepG rfl (by with_unfolding_all rfl) ?_ | refine AWP.seq ?_ | refine AWP.seqR (by kernel_rfl) ?_ | refine parVC_stepN rfl ?_ | refine parVC_stepG rfl (by with_unfolding_all rfl) ?_ | refine parEVC_stepN rfl ?_ | refine parEVC_stepG rfl (by with_unfolding_all rfl) ?_ | refine genVC_stepN rfl ?_ | refine genVC_stepG rfl (by with_unfolding_all rfl) ?_); intro K hK) | ((first | refine hK _ _ _ ?_ | refine hK _ _ ?_ | refine hK _ ?_); clear hK K) | refine seqVC_nil ?_ | refine parVC_nil ?_ | refine parEVC_nil ?_ | refine genVC_nil ?_ | refine AWP.block ?_ | (refine AWP.cond (by with_unfolding_all rfl) ?_ ?_ <;> intro h <;> (try simp only [zM, zN] at h) <;> try exact absurd h (by decide)) | refine AWP.skip ?_ | refine AWP.ret ?_ | refine AWP.exit ?_ | (refine ⟨fun h => ?_, fun h => ?_⟩ <;> (try simp only [zM, zN] at h) <;> try simp only [h]) | refine ⟨_, c1, ?_⟩ | refine ⟨_, c2, ?_⟩ | refine ⟨_, c3, ?_⟩ | refine ⟨_, c4, ?_⟩ | refine ⟨by omega, b, hb, ?_⟩ | refine ⟨by omega, c, hc, ?_⟩) | (refine ⟨1000000, _, _, _, hnum, rfl, ?_⟩) | (with_reducible first | refine AWP.parR mixed (by kernel_rfl) fun K hK => ?_ | refine ⟨(by kernel_rfl : depB _ _ _ = true), ?_⟩ | refine Or.inl ?_) | (clear hK K))
        all_goals (simp only [nextV, hl, hu, h95, hdg, h45, hnd, Bool.and_self, cond_true, cond_false, tok_eta])
        all_goals (refine ⟨by first | trivial | rfl, fun x hx => ?_⟩; simp only [List.mem_singleton] at hx; subst hx; simp)
      | false =>
        rw [hdc] at c4 hnd
        refine PCB.of_body Tryd.func37 rfl (by decide) Tryd.ntmps37 Tryd.results37 rfl rfl rfl ?_ rfl rfl
        repeat' (first | (simp only [go_sem, zA, zB, zC, zD, zE, zF, zG, reduceCtorEq, zH, zI, zJ, zK, zL, pin, tok_eta, h95, h45, h34, h96, hwk, hd1]; all_goals fail_if_success guard_target =ₛ False) | (with_reducible first | ((first | refine seqVC_stepN rfl ?_ | refine seqVC_stepG rfl (by with_unfolding_all rfl) ?_ | refine AWP.seq ?_ | refine AWP.seqR (by kernel_rfl) ?_ | refine parVC_stepN rfl ?_ | refine parVC_stepG rfl (by with_unfolding_all rfl) ?_ | refine parEVC_stepN rfl ?_ | refine parEVC_stepG rfl (by with_unfolding_all rfl) ?_ | refine genVC_stepN rfl ?_ | refine genVC_stepG rfl (by with_unfolding_all rfl) ?_); intro K hK) | ((first | refine hK _ _ _ ?_ | refine hK _ _ ?_ | refine hK _ ?_); clear hK K) | refine seqVC_nil ?_ | refine parVC_nil ?_ | refine parEVC_nil ?_ | refine genVC_nil ?_ | refine AWP.block ?_ | (refine AWP.cond (by with_unfolding_all rfl) ?_ ?_ <;> intro h <;> (try simp only [zM, zN] at h) <;> try exact absurd h (by decide)) | refine AWP.skip ?_ | refine AWP.ret ?_ | refine AWP.exit ?_ | (refine ⟨fun h => ?_, fun h => ?_⟩ <;> (try simp only [zM, zN] at h) <;> try simp only [h]) | refine ⟨_, c1, ?_⟩ | refine ⟨_, c2, ?_⟩ | refine ⟨_, c3, ?_⟩ | refine ⟨_, c4, ?_⟩ | refine ⟨by omega, b, hb, ?_⟩ | refine ⟨by omega, c, hc, ?_⟩) | (refine ⟨1000000, _, _, _, hsg, rfl, ?_⟩) | (with_reducible first | refine AWP.parR mixed (by kernel_rfl) fun K hK => ?_ | refine ⟨(by kernel_rfl : depB _ _ _ = true), ?_⟩ | refine Or.inl ?_) | (clear hK K))
        all_goals (simp only [nextV, hl, hu, h95, hdg, h45, h34, h96, hnd, Bool.and_false, cond_true, cond_false, tok_eta])
        all_goals (refine ⟨by first | trivial | rfl, fun x hx => ?_⟩; simp only [List.mem_singleton] at hx; subst hx; simp)
    · have hd1 : decide (((i + 1 : Nat) : Int) < (s.length : Int)) = false := by rw [decide_eq_false_iff_not]; omega
      have hnd : nextDig s i = false := by
        unfold nextDig
        rw [List.getElem?_eq_none (by omega)]
      refine PCB.of_body Tryd.func37 rfl (by decide) Tryd.ntmps37 Tryd.results37 rfl rfl rfl ?_ rfl rfl
      repeat' (first | (simp only [go_sem, zA, zB, zC, zD, zE, zF, zG, reduceCtorEq, zH, zI, zJ, zK, zL, pin, tok_eta, h95, h45, h34, h96, hwk, hd1]; all_goals fail_if_success guard_target =ₛ False) | (with_reducible first | ((first | refine seqVC_stepN rfl ?_ | refine seqVC_stepG rfl (by with_unfolding_all rfl) ?_ | refine AWP.seq ?_ | refine AWP.seqR (by kernel_rfl) ?_ | refine parVC_stepN rfl ?_ | refine parVC_stepG rfl (by with_unfolding_all rfl) ?_ | refine parEVC_stepN rfl ?_ | refine parEVC_stepG rfl (by with_unfolding_all rfl) ?_ | refine genVC_stepN rfl ?_ | refine genVC_stepG rfl (by with_unfolding_all rfl) ?_); intro K hK) | ((first | refine hK _ _ _ ?_ | refine hK _ _ ?_ | refine hK _ ?_); clear hK K) | refine seqVC_nil ?_ | refine parVC_nil ?_ | refine parEVC_nil ?_ | refine genVC_nil ?_ | refine AWP.block ?_ | (refine AWP.cond (by with_unfolding_all rfl) ?_ ?_ <;> intro h <;> (try simp only [zM, zN] at h) <;> try exact absurd h (by decide)) | refine AWP.skip ?_ | refine AWP.ret ?_ | refine AWP.exit ?_ | (refine ⟨fun h => ?_, fun h => ?_⟩ <;> (try simp only [zM, zN] at h) <;> try simp only [h]) | refine ⟨_, c1, ?_⟩ | refine ⟨_, c2, ?_⟩ | refine ⟨_, c3, ?_⟩ | refine ⟨by omega, b, hb, ?_⟩) | (refine ⟨1000000, _, _, _, hsg, rfl, ?_⟩) | (with_reducible first | refine AWP.parR mixed (by kernel_rfl) fun K hK => ?_ | refine ⟨(by kernel_rfl : depB _ _ _ = true), ?_⟩ | refine Or.inl ?_) | (clear hK K))
      all_goals (simp only [nextV, hl, hu, h95, hdg, h45, h34, h96, hnd, Bool.and_false, cond_true, cond_false, tok_eta])
      all_goals (refine ⟨by first | trivial | rfl, fun x hx => ?_⟩; simp only [List.mem_singleton] at hx; subst hx; simp)
  | false =>
  cases h34 : decide ((b.toNat : Int) = 34) with
  | true =>
    have hqq := PCBk.mk 1000000 (hq h34)
    refine PCB.of_body Tryd.func37 rfl (by decide) Tryd.ntmps37 Tryd.results37 rfl rfl rfl ?_ rfl rfl
    repeat' (first | (simp only [go_sem, zA, zB, zC, zD, zE, zF, zG, reduceCtorEq, zH, zI, zJ, zK, zL, pin, tok_eta, h95, h45, h34, hwk]; all_goals fail_if_success guard_target =ₛ False) | (with_reducible first | ((first | refine seqVC_stepN rfl ?_ | refine seqVC_stepG rfl (by with_unfolding_all rfl) ?_ | refine AWP.seq ?_ | refine AWP.seqR (by kernel_rfl) ?_ | refine parVC_stepN rfl ?_ | refine parVC_stepG rfl (by with_unfolding_all rfl) ?_ | refine parEVC_stepN rfl ?_ | refine parEVC_stepG rfl (by with_unfolding_all rfl) ?_ | refine genVC_stepN rfl ?_ | refine genVC_stepG rfl (by with_unfolding_all rfl) ?_); intro K hK) | ((first | refine hK _ _ _ ?_ | refine hK _ _ ?_ | refine hK _ ?_); clear hK K) | refine seqVC_nil ?_ | refine parVC_nil ?_ | refine parEVC_nil ?_ | refine genVC_nil ?_ | refine AWP.block ?_ | (refine AWP.cond (by with_unfolding_all rfl) ?_ ?_ <;> intro h <;> (try simp only [zM, zN] at h) <;> try exact absurd h (by decide)) | refine AWP.skip ?_ | refine AWP.ret ?_ | refine AWP.exit ?_ | (refine ⟨fun h => ?_, fun h => ?_⟩ <;> (try simp only [zM, zN] at h) <;> try simp only [h]) | refine ⟨_, c1, ?_⟩ | refine ⟨_, c2, ?_⟩ | refine ⟨_, c3, ?_⟩ | refine ⟨by omega, b, hb, ?_⟩) | (refine ⟨1000000, _, _, _, hqq, rfl, ?_⟩) | (with_reducible first | refine AWP.parR mixed (by kernel_rfl) fun K hK => ?_ | refine ⟨(by kernel_rfl : depB _ _ _ = true), ?_⟩ | refine Or.inl ?_) | (clear hK K))
    all_goals (simp only [nextV, hl, hu, h95, hdg, h45, h34, Bool.false_and, cond_true, cond_false, tok_eta])
    all_goals (refine ⟨by first | trivial | rfl, fun x hx => ?_⟩; simp only [List.mem_singleton] at hx; subst hx; simp)
  | false =>
  cases h96 : decide ((b.toNat : Int) = 96) with
  | true =>
    have hee := PCBk.mk 1000000 (he h96)
    refine PCB.of_body Tryd.func37 rfl (by decide) Tryd.ntmps37 Tryd.results37 rfl rfl rfl ?_ rfl rfl
    repeat' (first | (simp only [go_sem, zA, zB, zC, zD, zE, zF, zG, reduceCtorEq, zH, zI, zJ, zK, zL, pin, tok_eta, h95, h45, h34, h96, hwk]; all_goals fail_if_success guard_target =ₛ False) | (with_reducible first | ((first | refine seqVC_stepN rfl ?_ | refine seqVC_stepG rfl (by with_unfolding_all rfl) ?_ | refine AWP.seq ?_ | refine AWP.seqR (by kernel_rfl) ?_ | refine parVC_stepN rfl ?_ | refine parVC_stepG rfl (by with_unfolding_all rfl) ?_ | refine parEVC_stepN rfl ?_ | refine parEVC_stepG rfl (by with_unfolding_all rfl) ?_ | refine genVC_stepN rfl ?_ | refine genVC_stepG rfl (by with_unfolding_all rfl) ?_); intro K hK) | ((first | refine hK _ _ _ ?_ | refine hK _ _ ?_ | refine hK _ ?_); clear hK K) | refine seqVC_nil ?_ | refine parVC_nil ?_ | refine parEVC_nil ?_ | refine genVC_nil ?_ | refine AWP.block ?_ | (refine AWP.cond (by with_unfolding_all rfl) ?_ ?_ <;> intro h <;> (try simp only [zM, zN] at h) <;> try exact absurd h (by decide)) | refine AWP.skip ?_ | refine AWP.ret ?_ | refine AWP.exit ?_ | (refine ⟨fun h => ?_, fun h => ?_⟩ <;> (try simp only [zM, zN] at h) <;> try simp only [h]) | refine ⟨_, c1, ?_⟩ | refine ⟨_, c2, ?_⟩ | refine ⟨_, c3, ?_⟩ | refine ⟨by omega, b, hb, ?_⟩) | (refine ⟨1000000, _, _, _, hee, rfl, ?_⟩) | (with_reducible first | refine AWP.parR mixed (by kernel_rfl) fun K hK => ?_ | refine ⟨(by kernel_rfl : depB _ _ _ = true), ?_⟩ | refine Or.inl ?_) | (clear hK K))
    all_goals (simp only [nextV, hl, hu, h95, hdg, h45, h34, h96, Bool.false_and, cond_true, cond_false, tok_eta])
    all_goals (refine ⟨by first | trivial | rfl, fun x hx => ?_⟩; simp only [List.mem_singleton] at hx; subst hx; simp)
  | false =>
    refine PCB.of_body Tryd.func37 rfl (by decide) Tryd.ntmps37 Tryd.results37 rfl rfl rfl ?_ rfl rfl
    repeat' (first | (simp only [go_sem, zA, zB, zC, zD, zE, zF, zG, reduceCtorEq, zH, zI, zJ, zK, zL, pin, tok_eta, h95, h45, h34, h96, hwk]; all_goals fail_if_success guard_target =ₛ False) | (with_reducible first | ((first | refine seqVC_stepN rfl ?_ | refine seqVC_stepG rfl (by with_unfolding_all rfl) ?_ | refine AWP.seq ?_ | refine AWP.seqR (by kernel_rfl) ?_ | refine parVC_stepN rfl ?_ | refine parVC_stepG rfl (by with_unfolding_all rfl) ?_ | refine parEVC_stepN rfl ?_ | refine parEVC_stepG rfl (by with_unfolding_all rfl) ?_ | refine genVC_stepN rfl ?_ | refine genVC_stepG rfl (by with_unfolding_all rfl) ?_); intro K hK) | ((first | refine hK _ _ _ ?_ | refine hK _ _ ?_ | refine hK _ ?_); clear hK K) | refine seqVC_nil ?_ | refine parVC_nil ?_ | refine parEVC_nil ?_ | refine genVC_nil ?_ | refine AWP.block ?_ | (refine AWP.cond (by with_unfolding_all rfl) ?_ ?_ <;> intro h <;> (try simp only [zM, zN] at h) <;> try exact absurd h (by decide)) | refine AWP.skip ?_ | refine AWP.ret ?_ | refine AWP.exit ?_ | (refine ⟨fun h => ?_, fun h => ?_⟩ <;> (try simp only [zM, zN] at h) <;> try simp only [h]) | refine ⟨_, c1, ?_⟩ | refine ⟨_, c2, ?_⟩ | refine ⟨_, c3, ?_⟩ | refine ⟨by omega, b, hb, ?_⟩) | (refine ⟨1000000, _, _, _, hsg, rfl, ?_⟩) | (with_reducible first | refine AWP.parR mixed (by kernel_rfl) fun K hK => ?_ | refine ⟨(by kernel_rfl : depB _ _ _ = true), ?_⟩ | refine Or.inl ?_) | (clear hK K))
    all_goals (simp only [nextV, hl, hu, h95, hdg, h45, h34, h96, Bool.false_and, cond_true, cond_false, tok_eta])
    all_goals (refine ⟨by first | trivial | rfl, fun x hx => ?_⟩; simp only [List.mem_singleton] at hx; subst hx; simp)
end Go.Proofs.YtogponhonjiidaaDoor



set_option linter.unusedSimpArgs false
set_option linter.unusedVariables false
set_option maxRecDepth 20000
set_option maxHeartbeats 16000000
namespace Go.Proofs.YtogponhonjiidaaDoor
open Go Go.Sx
open Nat renaming reduceBEq → zA, reduceBNe → zB, reduceAdd → zC, reduceSub → zD, reduceMul → zE, reduceLeDiff → zF, reduceLT → zG, reduceEqDiff → zH
open Int renaming reduceToNat → zI, reduceLE → zJ, reduceLT → zK, reduceEq → zL
open Bool renaming not_eq_true' → zM, not_eq_false' → zN
/-- the tokens from k on, behind acc: tokens, place of a fault, code -/
def scanV (RQ RE : Nat → (Tok × Int) × Nat) (s : List UInt8) : Nat → Nat → List Tok → List Tok × Int × Int
  | 0, k, acc => (acc, 0, 0)
  | n + 1, k, acc => match s[k]? with
    | none => (acc, 0, 0)
    | some b => bif decide ((nextV s k b (RQ k) (RE k)).1.2 = 0)
        then scanV RQ RE s n (skipTo s (nextV s k b (RQ k) (RE k)).2) (acc ++ [{ (nextV s k b (RQ k) (RE k)).1.1 with at_ := k }])
        else ([], k, (nextV s k b (RQ k) (RE k)).1.2)
theorem findS_some {t x : List UInt8} : ∀ {l : List (List UInt8)}, findS t l = some x → x ∈ l ∧ Lib.hasPrefix t x = true
  | [], h => by cases h
  | y :: l, h => by
    rw [findS] at h
    cases hz : Lib.hasPrefix t y with
    | true => rw [hz, cond_true] at h; cases h; exact ⟨List.mem_cons_self, hz⟩
    | false => rw [hz, cond_false] at h; obtain ⟨h1, h2⟩ := findS_some h; exact ⟨List.mem_cons_of_mem _ h1, h2⟩
theorem signV_bd {t : List UInt8} (h : (signV t).1.2 = 0) : 0 < (signV t).2 ∧ (signV t).2 ≤ t.length := by
  unfold signV at h ⊢
  cases hf : findS t signL with
  | none => rw [hf] at h; exact absurd h (by decide)
  | some x =>
    obtain ⟨h1, h2⟩ := findS_some hf
    refine ⟨?_, prefix_len h2⟩
    have : ∀ y ∈ signL, 0 < y.length := by decide
    exact this x h1
/-- what quotes and backquotes begin ends behind its beginning -/
def Fwd (s : List UInt8) (RQ : Nat → (Tok × Int) × Nat) : Prop := ∀ k, k < s.length → (RQ k).1.2 = 0 → k < (RQ k).2 ∧ (RQ k).2 ≤ s.length
theorem nextV_bd {RQ RE : Nat → (Tok × Int) × Nat} {s : List UInt8} (hQ : Fwd s RQ) (hE : Fwd s RE) {k : Nat} {b : UInt8} (hk : k < s.length) (h : (nextV s k b (RQ k) (RE k)).1.2 = 0) :
    k < (nextV s k b (RQ k) (RE k)).2 ∧ (nextV s k b (RQ k) (RE k)).2 ≤ s.length := by
  have g : ∀ p, k < toW p s (k + 1) ∧ toW p s (k + 1) ≤ s.length := fun p => ⟨toW_ge (p := p) (s := s) (k := k + 1), toW_le (by omega)⟩
  revert h
  unfold nextV
  cases lowI b.toNat with
  | true => exact fun _ => g _
  | false =>
  cases uppI b.toNat with
  | true => exact fun _ => g _
  | false =>
  cases decide ((b.toNat : Int) = 95) with
  | true => intro _; simp only [cond_true, cond_false]; omega
  | false =>
  cases digI b.toNat with
  | true => exact fun _ => g _
  | false =>
  cases decide ((b.toNat : Int) = 45) && nextDig s k with
  | true => exact fun _ => g _
  | false =>
  cases decide ((b.toNat : Int) = 34) with
  | true => exact fun h => hQ k hk h
  | false =>
  cases decide ((b.toNat : Int) = 96) with
  | true => exact fun h => hE k hk h
  | false =>
    intro h
    have := signV_bd (t := s.drop k) h
    rw [List.length_drop] at this
    simp only [cond_false]
    omega
theorem scanV_step (RQ RE : Nat → (Tok × Int) × Nat) (s : List UInt8) (n k : Nat) (acc : List Tok) {b : UInt8} (hb : s[k]? = some b) {t : Tok} {e : Int} {k2 : Nat} (hr : nextV s k b (RQ k) (RE k) = ((t, e), k2)) :
    scanV RQ RE s (n + 1) k acc = bif decide (e = 0) then scanV RQ RE s n (skipTo s k2) (acc ++ [{ t with at_ := k }]) else ([], k, e) := by
  simp only [scanV, hb, hr]
theorem scanV_end (RQ RE : Nat → (Tok × Int) × Nat) (s : List UInt8) (n k : Nat) (acc : List Tok) (hk : s.length ≤ k) : scanV RQ RE s n k acc = (acc, 0, 0) := by
  cases n with
  | zero => rfl
  | succ n => simp only [scanV, List.getElem?_eq_none hk]
theorem tok_snoc (l : List Tok) (t : Tok) (k : Nat) : l.map encTok ++ [[.int .i64 t.kind, .str t.text, .int .i64 t.num, .int .i64 (k : Int)]] = (l ++ [{ t with at_ := (k : Int) }]).map encTok := by
  rw [List.map_append]; rfl
theorem wscan_c (s : List UInt8) (hs : s.length ≤ 1000000000) (RQ RE : Nat → (Tok × Int) × Nat) (hQ : Fwd s RQ) (hE : Fwd s RE)
    (hq : ∀ i b, s[i]? = some b → decide ((b.toNat : Int) = 34) = true → PCB Tryd.prog 65 [Scp pin] [(pin, scB s i)] (TkR (RQ i).1) [(pin, scB s (RQ i).2)])
    (he : ∀ i b, s[i]? = some b → decide ((b.toNat : Int) = 96) = true → PCB Tryd.prog 66 [Scp pin] [(pin, scB s i)] (TkR (RE i).1) [(pin, scB s (RE i).2)]) :
    PC Tryd.prog 25 [S s] (.tup [.one (.dat (.sl 4 ((scanV RQ RE s (s.length + 1) (skipTo s 0) []).1.map encTok))), I .i64 (scanV RQ RE s (s.length + 1) (skipTo s 0) []).2.1, I .i64 (scanV RQ RE s (s.length + 1) (skipTo s 0) []).2.2]) := by
  have h0 := PCBk.mk 12 (wskip_c s (by omega) 0 (Nat.zero_le _))
  have hk0 := skipTo_le (s := s) (k := 0) (Nat.zero_le _)
  generalize skipTo s 0 = k0 at h0 hk0 ⊢
  refine PCB.of_body Tryd.func25 rfl (by decide) Tryd.ntmps25 Tryd.results25 rfl rfl rfl ?_ rfl rfl
  repeat' (first | (simp only [go_sem, zA, zB, zC, zD, zE, zF, zG, reduceCtorEq, zH, zI, zJ, zK, zL]; all_goals fail_if_success guard_target =ₛ False) | (with_reducible first | ((first | refine seqVC_stepN rfl ?_ | refine AWP.seq ?_ | refine AWP.seqR (by kernel_rfl) ?_); intro K hK) | ((first | refine hK _ _ _ ?_ | refine hK _ _ ?_ | refine hK _ ?_); clear hK K) | refine seqVC_nil ?_ | refine AWP.block ?_ | (refine AWP.cond (by with_unfolding_all rfl) ?_ ?_ <;> intro h <;> (try simp only [zM, zN] at h) <;> try exact absurd h (by decide)) | refine AWP.skip ?_ | refine AWP.ret ?_ | refine AWP.exit ?_) | (refine ⟨12, _, _, _, h0, rfl, ?_⟩) | (with_reducible first | refine Or.inl ?_) | (clear hK K))
  refine AWP.gh (Gh.nilrow 6 900 rfl rfl rfl (by simp [Bx.fresh, Cell.freshs, Cell.fresh])) ?_
  refine AWP.loopF (X := Nat × Nat × List Tok) (fun x => [(6, .one (.own 900 x.2.2.length))]) (fun x => [(12, scB s x.2.1), (900, .row 4 (x.2.2.map encTok))]) [0, 5] [] (fun x => x.2.1 ≤ s.length ∧ s.length < x.1 + x.2.1 ∧ x.2.2.length ≤ x.2.1 ∧ scanV RQ RE s (s.length + 1) k0 [] = scanV RQ RE s x.1 x.2.1 x.2.2) (fun x => x.1) ((s.length + 1, k0, [])) (by simp only [go_sem, zA, zB, zC, zD, zE, zF, zG, reduceCtorEq, zH, zI, zJ, zK, zL]; exact Gh.to [] (by repeat (first | exact trivial | refine ⟨rfl, ?_⟩ | refine ⟨by (simp only [go_sem, zA, zB, zC, zD, zE, zF, zG, reduceCtorEq, zH, zI, zJ, zK, zL, List.length_append, List.length_map, List.length_cons, List.length_nil, Nat.zero_add]) <;> rfl, ?_⟩)) (by repeat (first | exact trivial | refine ⟨rfl, ?_⟩ | refine ⟨by (simp only [go_sem, zA, zB, zC, zD, zE, zF, zG, reduceCtorEq, zH, zI, zJ, zK, zL, List.length_append, List.length_map, List.length_cons, List.length_nil, Nat.zero_add]) <;> rfl, ?_⟩)) rfl rfl rfl) ?_ ?_
  · exact ⟨hk0, by simp only; omega, Nat.zero_le _, rfl⟩
  rintro ⟨n, k, acc⟩ ⟨hkl, hn, hal, hok⟩
  simp only at hkl hn hal hok
  simp only [go_sem, zA, zB, zC, zD, zE, zF, zG, reduceCtorEq, zH, zI, zJ, zK, zL]
  by_cases hlt : k < s.length
  · obtain ⟨b, hb⟩ := byte_at hlt
    have hd : decide ((k : Int) < (s.length : Int)) = true := by rw [decide_eq_true_eq]; omega
    have hnx := PCBk.mk 12 (next_c s hs k b hb (RQ k) (RE k) (hq k b hb) (he k b hb))
    obtain ⟨n, rfl⟩ : ∃ m, n = m + 1 := ⟨n - 1, by omega⟩
    have hbd := nextV_bd hQ hE (b := b) hlt
    have hst := fun t e k2 h => scanV_step RQ RE s n k acc hb (t := t) (e := e) (k2 := k2) h
    generalize nextV s k b (RQ k) (RE k) = r at hnx hst hbd
    obtain ⟨⟨t, e⟩, k2⟩ := r
    have hst := hst t e k2 rfl
    simp only at hnx hbd
    rw [hst] at hok
    cases hz : decide (e = 0) with
    | false =>
      rw [hz, cond_false] at hok
      repeat' (first | (simp only [go_sem, zA, zB, zC, zD, zE, zF, zG, reduceCtorEq, zH, zI, zJ, zK, zL, hd, hz, tok_eta, Bool.not_false]; all_goals fail_if_success guard_target =ₛ False) | (with_reducible first | ((first | refine seqVC_stepN rfl ?_ | refine AWP.seq ?_ | refine AWP.seqR (by kernel_rfl) ?_); intro K hK) | ((first | refine hK _ _ _ ?_ | refine hK _ _ ?_ | refine hK _ ?_); clear hK K) | refine seqVC_nil ?_ | refine AWP.block ?_ | (refine AWP.cond (by with_unfolding_all rfl) ?_ ?_ <;> intro h <;> (try simp only [zM, zN] at h) <;> try exact absurd h (by decide)) | refine AWP.skip ?_ | refine AWP.ret ?_ | refine AWP.exit ?_) | (refine ⟨12, _, _, _, hnx, rfl, ?_⟩) | (with_reducible first | refine Or.inl ?_) | (clear hK K))
      rw [hok]
      all_goals (first | exact fun _ h => absurd h List.not_mem_nil | refine fin0 ?_)
      all_goals rfl
    | true =>
      rw [hz, cond_true] at hok
      obtain ⟨hb1, hb2⟩ := hbd (by simpa using hz)
      have hsk := PCBk.mk 12 (wskip_c s (by omega) k2 hb2)
      have hk2 := skipTo_le hb2
      have hk3 := skipTo_ge (s := s) (k := k2)
      repeat' (first | (simp only [go_sem, zA, zB, zC, zD, zE, zF, zG, reduceCtorEq, zH, zI, zJ, zK, zL, hd, hz, tok_eta, tok_snoc, List.length_map, Bool.not_true]; all_goals fail_if_success guard_target =ₛ False) | (with_reducible first | ((first | refine seqVC_stepN rfl ?_ | refine AWP.seq ?_ | refine AWP.seqR (by kernel_rfl) ?_); intro K hK) | ((first | refine hK _ _ _ ?_ | refine hK _ _ ?_ | refine hK _ ?_); clear hK K) | refine seqVC_nil ?_ | refine AWP.block ?_ | (refine AWP.cond (by with_unfolding_all rfl) ?_ ?_ <;> intro h <;> (try simp only [zM, zN] at h) <;> try exact absurd h (by decide)) | refine AWP.skip ?_ | refine AWP.ret ?_ | refine AWP.exit ?_ | (refine ⟨(by first | omega | (simp only [List.length_append, List.length_map, List.length_take, List.length_drop, List.length_cons, List.length_nil, List.length_replicate]; omega) : _ ≤ _), ?_⟩) | refine ⟨by omega, by omega, ?_⟩) | (refine ⟨12, _, _, _, hnx, rfl, ?_⟩) | (refine ⟨12, _, _, _, hsk, rfl, ?_⟩) | (with_reducible first | refine Or.inl ?_) | (clear hK K))
      all_goals (refine ⟨(n, skipTo s k2, acc ++ [{ t with at_ := k }]), by simp only; omega, ⟨by simp only; omega, by simp only; omega, by simp only [List.length_append, List.length_cons, List.length_nil]; omega, hok⟩, Gh.to [(900, 42)] (by repeat (first | exact trivial | refine ⟨rfl, ?_⟩ | refine ⟨by (simp only [go_sem, zA, zB, zC, zD, zE, zF, zG, reduceCtorEq, zH, zI, zJ, zK, zL, List.length_append, List.length_map, List.length_cons, List.length_nil, Nat.zero_add]) <;> rfl, ?_⟩)) (by repeat (first | exact trivial | refine ⟨rfl, ?_⟩ | refine ⟨by (simp only [go_sem, zA, zB, zC, zD, zE, zF, zG, reduceCtorEq, zH, zI, zJ, zK, zL, List.length_append, List.length_map, List.length_cons, List.length_nil, Nat.zero_add]) <;> rfl, ?_⟩)) rfl rfl rfl⟩)
  · have hd : decide ((k : Int) < (s.length : Int)) = false := by rw [decide_eq_false_iff_not]; omega
    rw [scanV_end RQ RE s n k acc (by omega)] at hok
    refine AWP.gh (Gh.freeze 900 rfl rfl (by simp only [go_sem, zA, zB, zC, zD, zE, zF, zG, reduceCtorEq, zH, zI, zJ, zK, zL, List.length_map]) (by simp only [go_sem, zA, zB, zC, zD, zE, zF, zG, reduceCtorEq, zH, zI, zJ, zK, zL, List.length_map])) ?_
    simp only [go_sem, zA, zB, zC, zD, zE, zF, zG, reduceCtorEq, zH, zI, zJ, zK, zL, List.length_map]
    repeat' (first | (simp only [go_sem, zA, zB, zC, zD, zE, zF, zG, reduceCtorEq, zH, zI, zJ, zK, zL, hd]; all_goals fail_if_success guard_target =ₛ False) | (with_reducible first | ((first | refine seqVC_stepN rfl ?_ | refine AWP.seq ?_ | refine AWP.seqR (by kernel_rfl) ?_); intro K hK) | ((first | refine hK _ _ _ ?_ | refine hK _ _ ?_ | refine hK _ ?_); clear hK K) | refine seqVC_nil ?_ | refine AWP.block ?_ | (refine AWP.cond (by with_unfolding_all rfl) ?_ ?_ <;> intro h <;> (try simp only [zM, zN] at h) <;> try exact absurd h (by decide)) | refine AWP.skip ?_ | refine AWP.ret ?_ | refine AWP.exit ?_ | refine Or.inl ?_) | (clear hK K))
    rw [hok]
    all_goals (first | exact fun _ h => absurd h List.not_mem_nil | refine fin0 ?_)
    all_goals rfl
abbrev ScR (r : List Tok × Int × Int) : T := .tup [.one (.dat (.sl 4 (r.1.map encTok))), I .i64 r.2.1, I .i64 r.2.2]
def tscanV (RQ RE : Nat → (Tok × Int) × Nat) (s : List UInt8) : List Tok × Int × Int :=
  bif decide ((4000 : Int) < (s.length : Int)) then ([], 0, 2) else scanV RQ RE s (s.length + 1) (skipTo s 0) []
theorem tscan_c (s : List UInt8) (hs : s.length ≤ 1000000000) (RQ RE : Nat → (Tok × Int) × Nat) (hQ : Fwd s RQ) (hE : Fwd s RE)
    (hq : ∀ i b, s[i]? = some b → decide ((b.toNat : Int) = 34) = true → PCB Tryd.prog 65 [Scp pin] [(pin, scB s i)] (TkR (RQ i).1) [(pin, scB s (RQ i).2)])
    (he : ∀ i b, s[i]? = some b → decide ((b.toNat : Int) = 96) = true → PCB Tryd.prog 66 [Scp pin] [(pin, scB s i)] (TkR (RE i).1) [(pin, scB s (RE i).2)]) :
    PC Tryd.prog 13 [S s] (ScR (tscanV RQ RE s)) := by
  have h1 := wscan_c s hs RQ RE hQ hE hq he
  unfold tscanV
  generalize scanV RQ RE s (s.length + 1) (skipTo s 0) [] = r at h1 ⊢
  cases h0 : decide ((4000 : Int) < (s.length : Int))
  ·
    refine PCB.of_body Tryd.func13 rfl (by decide) Tryd.ntmps13 Tryd.results13 rfl rfl rfl ?_ rfl rfl
    repeat' (first | (simp only [go_sem, zA, zB, zC, zD, zE, zF, zG, reduceCtorEq, zH, zI, zJ, zK, zL, h0]; all_goals fail_if_success guard_target =ₛ False) | (with_reducible first | ((first | refine seqVC_stepN rfl ?_ | refine AWP.seq ?_ | refine AWP.seqR (by kernel_rfl) ?_); intro K hK) | ((first | refine hK _ _ _ ?_ | refine hK _ _ ?_ | refine hK _ ?_); clear hK K) | refine seqVC_nil ?_ | refine AWP.block ?_ | (refine AWP.cond (by with_unfolding_all rfl) ?_ ?_ <;> intro h <;> (try simp only [zM, zN] at h) <;> try exact absurd h (by decide)) | refine AWP.skip ?_ | refine AWP.ret ?_ | refine AWP.exit ?_ | refine ⟨_, h1, ?_⟩ | refine Or.inl ?_) | (clear hK K))
    all_goals (first | exact fun _ h => absurd h List.not_mem_nil | refine fin0 ?_)
    all_goals rfl
  ·
    refine PCB.of_body Tryd.func13 rfl (by decide) Tryd.ntmps13 Tryd.results13 rfl rfl rfl ?_ rfl rfl
    repeat' (first | (simp only [go_sem, zA, zB, zC, zD, zE, zF, zG, reduceCtorEq, zH, zI, zJ, zK, zL, h0]; all_goals fail_if_success guard_target =ₛ False) | (with_reducible first | ((first | refine seqVC_stepN rfl ?_ | refine AWP.seq ?_ | refine AWP.seqR (by kernel_rfl) ?_); intro K hK) | ((first | refine hK _ _ _ ?_ | refine hK _ _ ?_ | refine hK _ ?_); clear hK K) | refine seqVC_nil ?_ | refine AWP.block ?_ | (refine AWP.cond (by with_unfolding_all rfl) ?_ ?_ <;> intro h <;> (try simp only [zM, zN] at h) <;> try exact absurd h (by decide)) | refine AWP.skip ?_ | refine AWP.ret ?_ | refine AWP.exit ?_ | refine Or.inl ?_) | (clear hK K))
    all_goals (first | exact fun _ h => absurd h List.not_mem_nil | refine fin0 ?_)
    all_goals rfl
/-- the bytes of the sample -/
def sampS : List UInt8 := [102, 40, 88, 41, 32, 45, 62, 32, 45, 49, 46]
def noV : Nat → (Tok × Int) × Nat := fun _ => ((zeroTok, 5), 0)
def sampT : List Tok := [⟨1, [102], 0, 0⟩, ⟨6, [40], 0, 1⟩, ⟨2, [88], 0, 2⟩, ⟨6, [41], 0, 3⟩, ⟨6, [45, 62], 0, 5⟩, ⟨3, [], -1, 8⟩, ⟨6, [46], 0, 10⟩]
theorem samp_no : ∀ b ∈ sampS, decide ((b.toNat : Int) = 34) = false ∧ decide ((b.toNat : Int) = 96) = false := by decide
theorem sk (k m : Nat) (h : skipL (sampS.drop k) = m) : skipTo sampS k = k + m := by unfold skipTo; rw [h]
theorem samp_v : tscanV noV noV sampS = (sampT, 0, 0) := by
  have e0 : skipTo sampS 0 = 0 := sk 0 0 (by simp [sampS, skipL, sepI])
  have e1 : skipTo sampS 1 = 1 := sk 1 0 (by simp [sampS, skipL, sepI])
  have e2 : skipTo sampS 2 = 2 := sk 2 0 (by simp [sampS, skipL, sepI])
  have e3 : skipTo sampS 3 = 3 := sk 3 0 (by simp [sampS, skipL, sepI])
  have e4 : skipTo sampS 4 = 5 := sk 4 1 (by simp [sampS, skipL, sepI])
  have e7 : skipTo sampS 7 = 8 := sk 7 1 (by simp [sampS, skipL, sepI])
  have e10 : skipTo sampS 10 = 10 := sk 10 0 (by simp [sampS, skipL, sepI])
  have e11 : skipTo sampS 11 = 11 := sk 11 0 (by simp [sampS, skipL, sepI])
  have st : ∀ (n k : Nat) (acc : List Tok) (b : UInt8) (t : Tok) (k2 : Nat), sampS[k]? = some b → nextV sampS k b (noV k) (noV k) = ((t, 0), k2) → scanV noV noV sampS (n + 1) k acc = scanV noV noV sampS n (skipTo sampS k2) (acc ++ [{ t with at_ := k }]) := fun n k acc b t k2 hb hr => by
    rw [scanV_step noV noV sampS n k acc hb hr]; rfl
  show scanV noV noV sampS 12 (skipTo sampS 0) [] = _
  rw [e0, st 11 0 _ 102 ⟨1, [102], 0, 0⟩ 1 rfl (by decide +kernel), e1, st 10 1 _ 40 ⟨6, [40], 0, 0⟩ 2 rfl (by decide +kernel), e2, st 9 2 _ 88 ⟨2, [88], 0, 0⟩ 3 rfl (by decide +kernel), e3, st 8 3 _ 41 ⟨6, [41], 0, 0⟩ 4 rfl (by decide +kernel), e4,
    st 7 5 _ 45 ⟨6, [45, 62], 0, 0⟩ 7 rfl (by decide +kernel), e7, st 6 8 _ 45 ⟨3, [], -1, 0⟩ 10 rfl (by decide +kernel), e10, st 5 10 _ 46 ⟨6, [46], 0, 0⟩ 11 rfl (by decide +kernel), e11, scanV_end noV noV sampS 5 11 _ (by decide)]
  rfl
theorem fwd_no (s : List UInt8) : Fwd s noV := fun k _ h => absurd (show (5 : Int) = 0 from h) (by decide)
theorem samp_c : PC Tryd.prog 13 [S sampS] (ScR (sampT, 0, 0)) := by
  have h := tscan_c sampS (by decide) noV noV (fwd_no _) (fwd_no _)
    (fun i b hb h => by have := (samp_no b (List.mem_of_getElem? hb)).1; rw [h] at this; cases this)
    (fun i b hb h => by have := (samp_no b (List.mem_of_getElem? hb)).2; rw [h] at this; cases this)
  rwa [samp_v] at h
theorem awake_c : PC Tryd.prog 11 [] (Bo true) := by
  have h1 := samp_c
  have h2 := reserved_c [99, 97, 115, 101]
  rw [show (resW.any fun x => decide (x = [99, 97, 115, 101])) = true by decide] at h2
  have h3 := reserved_c [102]
  rw [show (resW.any fun x => decide (x = [102])) = false by decide] at h3
  unfold sampS sampT at h1
  refine PCB.of_body Tryd.func11 rfl (by decide) Tryd.ntmps11 Tryd.results11 rfl rfl rfl ?_ rfl rfl
  repeat' (first | (simp only [go_sem, zA, zB, zC, zD, zE, zF, zG, reduceCtorEq, zH, zI, zJ, zK, zL, List.map_cons, List.map_nil, encTok]; all_goals fail_if_success guard_target =ₛ False) | (with_reducible first | ((first | refine seqVC_stepN rfl ?_ | refine seqVC_stepG rfl (by with_unfolding_all rfl) ?_ | refine AWP.seq ?_ | refine AWP.seqR (by kernel_rfl) ?_); intro K hK) | ((first | refine hK _ _ _ ?_ | refine hK _ _ ?_ | refine hK _ ?_); clear hK K) | refine seqVC_nil ?_ | refine AWP.block ?_ | (refine AWP.cond (by with_unfolding_all rfl) ?_ ?_ <;> intro h <;> (try simp only [zM, zN] at h) <;> try exact absurd h (by decide)) | refine AWP.skip ?_ | refine AWP.ret ?_ | refine AWP.exit ?_ | (refine ⟨fun h => ?_, fun h => ?_⟩ <;> (try simp only [zM, zN] at h) <;> try simp only [h]) | refine ⟨_, h1, ?_⟩ | refine ⟨_, h2, ?_⟩ | refine ⟨_, h3, ?_⟩ | refine ⟨by omega, _, rfl, ?_⟩ | refine Or.inl ?_) | (clear hK K))
  all_goals (first | exact fun _ h => absurd h List.not_mem_nil | refine fin0 ?_)
  all_goals rfl
end Go.Proofs.YtogponhonjiidaaDoor

set_option linter.unusedSimpArgs false
set_option linter.unusedVariables false
set_option maxRecDepth 20000
set_option maxHeartbeats 16000000
namespace Go.Proofs.YtogponhonjiidaaDoor
open Go Go.Sx
open Nat renaming reduceBEq → zA, reduceBNe → zB, reduceAdd → zC, reduceSub → zD, reduceMul → zE, reduceLeDiff → zF, reduceLT → zG, reduceEqDiff → zH
open Int renaming reduceToNat → zI, reduceLE → zJ, reduceLT → zK, reduceEq → zL
open Bool renaming not_eq_true' → zM, not_eq_false' → zN
/-- a token, its position left out if so asked -/
def er (plain : Bool) (t : Tok) : Tok := bif plain then { t with at_ := 0 } else t
end Go.Proofs.YtogponhonjiidaaDoor


set_option maxRecDepth 100000
namespace Go.Proofs
open Go.Shelf
def Tryd.joinL_ren : Go.Shelf.Ren := ⟨fun | 156 => 28 | 165 => 40 | 166 => 41 | 169 => 42 | 240 => 72 | 241 => 73 | 276 => 93 | 277 => 94 | n => n, fun | 31 => 28 | 9 => 9 | 3 => 3 | 4 => 4 | 0 => 0 | 20 => 20 | 72 => 79 | 76 => 83 | 70 => 77 | 37 => 40 | 75 => 82 | 127 => 106 | 164 => 127 | 5 => 5 | 80 => 85 | n => n, fun | n => n⟩
theorem Tryd.joinL : Go.Proofs.Lays.n156 Tryd.prog Tryd.joinL_ren := {
  mixed := by kernel_rfl,
  f156 := Tryd.func28.trans (congrArg some (by kernel_rfl)),
  f165 := Tryd.func40.trans (congrArg some (by kernel_rfl)),
  f166 := Tryd.func41.trans (congrArg some (by kernel_rfl)),
  f169 := Tryd.func42.trans (congrArg some (by kernel_rfl)),
  f240 := Tryd.func72.trans (congrArg some (by kernel_rfl)),
  f241 := Tryd.func73.trans (congrArg some (by kernel_rfl)),
  f276 := Tryd.func93.trans (congrArg some (by kernel_rfl)),
  f277 := Tryd.func94.trans (congrArg some (by kernel_rfl)),
  t0 := Tryd.underlying0,
  a0 := Tryd.isAgg0,
  z0 := Tryd.sizeOf0,
  v0 := Tryd.zeroValue0,
  t3 := Tryd.underlying3,
  a3 := Tryd.isAgg3,
  z3 := Tryd.sizeOf3,
  v3 := Tryd.zeroValue3,
  t4 := Tryd.underlying4,
  a4 := Tryd.isAgg4,
  z4 := Tryd.sizeOf4,
  v4 := Tryd.zeroValue4,
  t9 := Tryd.underlying9,
  a9 := Tryd.isAgg9,
  z9 := Tryd.sizeOf9,
  v9 := Tryd.zeroValue9,
  t20 := Tryd.underlying20,
  a20 := Tryd.isAgg20,
  z20 := Tryd.sizeOf20,
  v20 := Tryd.zeroValue20,
  t31 := Tryd.underlying28,
  a31 := Tryd.isAgg28,
  z31 := Tryd.sizeOf28,
  v31 := Tryd.zeroValue28,
  t37 := Tryd.underlying40,
  a37 := Tryd.isAgg40,
  z37 := Tryd.sizeOf40,
  v37 := Tryd.zeroValue40,
  t70 := Tryd.underlying77,
  a70 := Tryd.isAgg77,
  z70 := Tryd.sizeOf77,
  v70 := Tryd.zeroValue77,
  t72 := Tryd.underlying79,
  a72 := Tryd.isAgg79,
  z72 := Tryd.sizeOf79,
  v72 := Tryd.zeroValue79,
  t75 := Tryd.underlying82,
  a75 := Tryd.isAgg82,
  z75 := Tryd.sizeOf82,
  v75 := Tryd.zeroValue82,
  t76 := Tryd.underlying83,
  a76 := Tryd.isAgg83,
  z76 := Tryd.sizeOf83,
  v76 := Tryd.zeroValue83,
  t127 := Tryd.underlying106,
  a127 := Tryd.isAgg106,
  z127 := Tryd.sizeOf106,
  v127 := Tryd.zeroValue106,
  t164 := Tryd.underlying127,
  a164 := Tryd.isAgg127,
  z164 := Tryd.sizeOf127,
  v164 := Tryd.zeroValue127 }
theorem Tryd.joinX : Builder.Extra Tryd.prog Tryd.joinL_ren := {
  sizeBuilder := by kernel_rfl,
  liesBuilder := by kernel_rfl,
  t5 := Tryd.underlying5,
  a5 := Tryd.isAgg5,
  z5 := Tryd.sizeOf5,
  v5 := Tryd.zeroValue5,
  infoByte := by kernel_rfl,
  cellsByte := by kernel_rfl,
  sizeByte := by kernel_rfl,
  neB5 := by decide }
end Go.Proofs
set_option linter.unusedSimpArgs false
set_option linter.unusedVariables false
set_option maxRecDepth 20000
set_option maxHeartbeats 16000000
namespace Go.Proofs.YtogponhonjiidaaDoor
open Go Go.Sx
open Nat renaming reduceBEq → zA, reduceBNe → zB, reduceAdd → zC, reduceSub → zD, reduceMul → zE, reduceLeDiff → zF, reduceLT → zG, reduceEqDiff → zH
open Int renaming reduceToNat → zI, reduceLE → zJ, reduceLT → zK, reduceEq → zL
open Bool renaming not_eq_true' → zM, not_eq_false' → zN
open Go.RowKit
theorem rows_str {M : Mem0} : ∀ {l : List (List UInt8)} {vs : List Value}, repRows M 1 (l.map encStr) vs → vs = l.map fun s => Value.string ⟨s.toArray⟩
  | [], vs, h => by simpa only [List.map_nil, repRows] using h
  | s :: l, vs, h => by
    simp only [List.map_cons, repRows] at h
    obtain ⟨v1, v2, rfl, _, h1, h2⟩ := h
    simp only [Sx.encStr, repRow, C.rep] at h1
    obtain ⟨v, vs', rfl, rfl, rfl⟩ := h1
    rw [rows_str h2]; rfl
theorem join_c (l : List (List UInt8)) (sep : List UInt8) (hl : l.length ≤ 1000000) (hj : (Lib.join l sep).length ≤ 1000000000000) :
    PC Tryd.prog 28 [.one (.dat (.sl 1 (l.map encStr))), S sep] (S (Lib.join l sep)) := by
  refine PC.native ⟨_, Tryd.func28, by decide, rfl⟩ fun M ν w vs hf hv => ?_
  obtain ⟨x, y, rfl, h1, h2⟩ := reps2 hv
  rw [rep_S] at h2
  subst h2
  simp only [T.rep, Cell.rep, C.rep] at h1
  obtain ⟨a, cap, mid, rfl, hc1, hc2, hr, hat⟩ := h1
  rw [rows_str hr] at hat
  rw [List.length_map] at hc1 ⊢
  rcases hat with h0 | ⟨b, off, rfl, hat⟩
  · have hl0 : l = [] := by simpa using h0
    subst hl0
    refine Calls.mono (Any.strings_Join_none Tryd.joinL Tryd.joinX a cap ⟨sep.toArray⟩ w) ?_
    rintro e w' ⟨rfl, hw⟩
    exact ⟨_, rfl, by simp only [T.rep, Cell.rep, C.rep]; rfl, by first | exact hw ▸ Below.refl _ _ | exact hw⟩
  · obtain ⟨c, et, fz, pre, post, h3, h4, h5⟩ := hat
    have h6 := hf _ _ h3
    have hm : (l.map fun s => (⟨s.toArray⟩ : ByteArray)).map (·.data.toList) = l := by simp [Function.comp_def]
    have hcall := Any.strings_Join Tryd.joinL Tryd.joinX b off cap (l.map fun s => ⟨s.toArray⟩) ⟨sep.toArray⟩ w (by
      intro j x hj
      rw [List.getElem?_map, Option.map_eq_some_iff] at hj
      obtain ⟨s, hs, rfl⟩ := hj
      unfold World.cell?
      simp only [h6, Option.isSome_none, Bool.false_eq_true, if_false]
      have e1 : c[off + j]? = c.toList[off + j]? := by simp
      rw [e1, h4, ← h5, List.getElem?_append_right (by omega), show pre.length + j - pre.length = j by omega, List.getElem?_append_left (by
        have := (List.getElem?_eq_some_iff.1 hs).1
        simpa using this), List.getElem?_map, hs]; rfl) (Array.getElem?_eq_some_iff.1 h6).1 (by rw [List.length_map]; omega) (by rw [List.length_map]; exact hc1) (by rw [hm]; show (Lib.join l sep).length ≤ _; omega)
    rw [List.length_map, hm] at hcall
    refine Calls.mono hcall ?_
    rintro e w' ⟨rfl, hw⟩
    exact ⟨_, rfl, by simp only [T.rep, Cell.rep, C.rep], hw⟩
theorem by1 (b : UInt8) : bytesOf [[C.int .u8 (b.toNat : Int)]] = some [b] := bytesOf_enc [b]
theorem itoa_neg {n : Int} (h : n < 0) : Lib.itoa n = 45 :: Lib.decDigits n.natAbs := by unfold Lib.itoa; rw [if_pos h]
theorem itoa_pos {n : Int} (h : ¬ n < 0) : Lib.itoa n = Lib.decDigits n.toNat := by unfold Lib.itoa; rw [if_neg h]
theorem dig_step {u : Nat} (h : ¬ u < 10) : Lib.decDigits u = Lib.decDigits (u / 10) ++ [UInt8.ofNat (48 + u % 10)] := by rw [Lib.decDigits, dif_neg h]
theorem digits_le : ∀ (k u : Nat), u < 10 ^ (k + 1) → (Lib.decDigits u).length ≤ k + 1
  | 0, u, h => by rw [Lib.decDigits, dif_pos (by simpa using h)]; simp
  | k + 1, u, h => by
    by_cases h1 : u < 10
    · rw [Lib.decDigits, dif_pos h1]; simp
    · rw [dig_step h1, List.length_append]
      have := digits_le k (u / 10) (by rw [Nat.pow_succ] at h; omega)
      simp only [List.length_cons, List.length_nil]; omega
theorem digB (r : Nat) (h : r < 10) : IntKind.u8.wrap (IntKind.i64.wrap (48 + (r : Int))) = ((UInt8.ofNat (48 + r)).toNat : Int) := by
  have : ∀ r : Nat, r < 10 → IntKind.u8.wrap (IntKind.i64.wrap (48 + (r : Int))) = ((UInt8.ofNat (48 + r)).toNat : Int) := by decide +kernel
  exact this r h
theorem itoa_len {n : Int} (h0 : -9223372036854775808 ≤ n) (h1 : n ≤ 9223372036854775807) : (Lib.itoa n).length ≤ 30 := by
  unfold Lib.itoa
  split
  · have := digits_le 19 n.natAbs (by omega)
    rw [List.length_cons]; omega
  · have := digits_le 19 n.toNat (by omega)
    omega
theorem wrapI (z : Int) (h0 : -9223372036854775808 ≤ z) (h1 : z ≤ 9223372036854775807) : IntKind.i64.wrap z = z := by rw [IntKind.wrap_i64]; omega
theorem decimal_c : ∀ (m : Nat) (n : Int), n.natAbs ≤ m → -9223372036854775808 ≤ n → n ≤ 9223372036854775807 → PC Tryd.prog 26 [I .i64 n] (S (Lib.itoa n)) := by
  intro m
  induction m with
  | zero =>
    intro n hm _ _
    obtain rfl : n = 0 := by omega
    have e : Lib.itoa 0 = [UInt8.ofNat (48 + 0)] := by rw [itoa_pos (by omega), show (0 : Int).toNat = 0 from rfl, Lib.decDigits, dif_pos (by omega)]
    rw [e]
    have hb : IntKind.u8.wrap (IntKind.i64.wrap 48) = ((UInt8.ofNat (48 + 0)).toNat : Int) := by decide
    have hlt : decide ((0 : Int) < 0) = false := by decide
    have hlt2 : decide ((0 : Int) < 10) = true := by decide
    have h0 : IntKind.i64.wrap (48 + Int.tmod 0 10) = IntKind.i64.wrap 48 := by decide
    have h1 := by1 (UInt8.ofNat (48 + 0))
    generalize UInt8.ofNat (48 + 0) = x at hb h1
    refine PCB.of_body Tryd.func26 rfl (by decide) Tryd.ntmps26 Tryd.results26 rfl rfl rfl ?_ rfl rfl
    repeat' (first | (simp only [go_sem, zA, zB, zC, zD, zE, zF, zG, reduceCtorEq, zH, zI, zJ, zK, zL, hlt, hlt2, h0, hb, h1]; all_goals fail_if_success guard_target =ₛ False) | (with_reducible first | ((first | refine seqVC_stepN rfl ?_ | refine AWP.seq ?_ | refine AWP.seqR (by kernel_rfl) ?_); intro K hK) | ((first | refine hK _ _ _ ?_ | refine hK _ _ ?_ | refine hK _ ?_); clear hK K) | refine seqVC_nil ?_ | refine AWP.block ?_ | (refine AWP.cond (by with_unfolding_all rfl) ?_ ?_ <;> intro h <;> (try simp only [zM, zN] at h) <;> try exact absurd h (by decide)) | refine AWP.skip ?_ | refine AWP.ret ?_ | refine AWP.exit ?_ | refine ⟨by decide, ?_⟩ | refine Or.inl ?_) | (clear hK K))
    all_goals (first | exact fun _ h => absurd h List.not_mem_nil | refine fin0 ?_)
    all_goals rfl
  | succ m ih =>
    intro n hm hn0 hn1
    by_cases hneg : n < 0
    · obtain ⟨u, hu⟩ : ∃ u : Nat, n = -(u : Int) := ⟨n.natAbs, by omega⟩
      have hlt : decide (n < 0) = true := by simpa using hneg
      have hnu : n.natAbs = u := by omega
      have hq : IntKind.i64.wrap (n.tdiv 10) = -((u / 10 : Nat) : Int) := by
        rw [show n.tdiv 10 = -((u / 10 : Nat) : Int) by rw [hu, Int.neg_tdiv]; rfl]
        exact wrapI _ (by omega) (by omega)
      have hr : IntKind.i64.wrap (0 - n.tmod 10) = ((u % 10 : Nat) : Int) := by
        rw [show n.tmod 10 = -((u % 10 : Nat) : Int) by rw [hu, Int.neg_tmod]; rfl]
        rw [show (0 : Int) - -((u % 10 : Nat) : Int) = ((u % 10 : Nat) : Int) by omega]
        exact wrapI _ (by omega) (by omega)
      have hb := digB (u % 10) (by omega)
      have h1 := by1 (UInt8.ofNat (48 + u % 10))
      have hI := itoa_neg hneg
      rw [hnu] at hI
      by_cases h10 : u < 10
      · have hz : decide (-((u / 10 : Nat) : Int) = 0) = true := by rw [decide_eq_true_eq]; omega
        rw [Lib.decDigits, dif_pos h10, show u = u % 10 by omega] at hI
        rw [hI]
        have hml : 1 + 1 ≤ maxLen := by unfold maxLen; omega
        generalize UInt8.ofNat (48 + u % 10) = x at hb h1
        refine PCB.of_body Tryd.func26 rfl (by decide) Tryd.ntmps26 Tryd.results26 rfl rfl rfl ?_ rfl rfl
        repeat' (first | (simp only [go_sem, zA, zB, zC, zD, zE, zF, zG, reduceCtorEq, zH, zI, zJ, zK, zL, hlt, hq, hr, hb, h1, hz, List.length_cons, List.length_nil, List.cons_append, List.nil_append]; all_goals fail_if_success guard_target =ₛ False) | (with_reducible first | ((first | refine seqVC_stepN rfl ?_ | refine AWP.seq ?_ | refine AWP.seqR (by kernel_rfl) ?_); intro K hK) | ((first | refine hK _ _ _ ?_ | refine hK _ _ ?_ | refine hK _ ?_); clear hK K) | refine seqVC_nil ?_ | refine AWP.block ?_ | (refine AWP.cond (by with_unfolding_all rfl) ?_ ?_ <;> intro h <;> (try simp only [zM, zN] at h) <;> try exact absurd h (by decide)) | refine AWP.skip ?_ | refine AWP.ret ?_ | refine AWP.exit ?_ | refine ⟨by decide, ?_⟩ | refine ⟨hml, ?_⟩ | refine Or.inl ?_) | (clear hK K))
        all_goals (first | exact fun _ h => absurd h List.not_mem_nil | refine fin0 ?_)
        all_goals rfl
      · have hz : decide (-((u / 10 : Nat) : Int) = 0) = false := by rw [decide_eq_false_iff_not]; omega
        have hrec := ih (-((u / 10 : Nat) : Int)) (by omega) (by omega) (by omega)
        have hlen := itoa_len (n := -((u / 10 : Nat) : Int)) (by omega) (by omega)
        have hIq : Lib.itoa (-((u / 10 : Nat) : Int)) = 45 :: Lib.decDigits (u / 10) := by rw [itoa_neg (by omega)]; congr 2; omega
        rw [dig_step h10] at hI
        have hfin : Lib.itoa n = Lib.itoa (-((u / 10 : Nat) : Int)) ++ [UInt8.ofNat (48 + u % 10)] := by rw [hI, hIq]; rfl
        rw [hfin]
        have hml : (Lib.itoa (-((u / 10 : Nat) : Int))).length + 1 ≤ maxLen := by unfold maxLen; omega
        generalize UInt8.ofNat (48 + u % 10) = x at hb h1
        refine PCB.of_body Tryd.func26 rfl (by decide) Tryd.ntmps26 Tryd.results26 rfl rfl rfl ?_ rfl rfl
        repeat' (first | (simp only [go_sem, zA, zB, zC, zD, zE, zF, zG, reduceCtorEq, zH, zI, zJ, zK, zL, hlt, hq, hr, hb, h1, hz, List.length_cons, List.length_nil]; all_goals fail_if_success guard_target =ₛ False) | (with_reducible first | ((first | refine seqVC_stepN rfl ?_ | refine AWP.seq ?_ | refine AWP.seqR (by kernel_rfl) ?_); intro K hK) | ((first | refine hK _ _ _ ?_ | refine hK _ _ ?_ | refine hK _ ?_); clear hK K) | refine seqVC_nil ?_ | refine AWP.block ?_ | (refine AWP.cond (by with_unfolding_all rfl) ?_ ?_ <;> intro h <;> (try simp only [zM, zN] at h) <;> try exact absurd h (by decide)) | refine AWP.skip ?_ | refine AWP.ret ?_ | refine AWP.exit ?_ | refine ⟨_, hrec, ?_⟩ | refine ⟨by decide, ?_⟩ | refine ⟨hml, ?_⟩ | refine Or.inl ?_) | (clear hK K))
        all_goals (first | exact fun _ h => absurd h List.not_mem_nil | refine fin0 ?_)
        all_goals rfl
    · obtain ⟨u, hu⟩ : ∃ u : Nat, n = (u : Int) := ⟨n.toNat, by omega⟩
      have hlt : decide (n < 0) = false := by simpa using hneg
      have hnu : n.toNat = u := by omega
      have hr : n.tmod 10 = ((u % 10 : Nat) : Int) := by rw [hu]; rfl
      have hq : IntKind.i64.wrap (n.tdiv 10) = ((u / 10 : Nat) : Int) := by
        rw [show n.tdiv 10 = ((u / 10 : Nat) : Int) by rw [hu]; rfl]
        exact wrapI _ (by omega) (by omega)
      have hb := digB (u % 10) (by omega)
      have h1 := by1 (UInt8.ofNat (48 + u % 10))
      have hI := itoa_pos hneg
      rw [hnu] at hI
      by_cases h10 : u < 10
      · have hz : decide (n < 10) = true := by rw [decide_eq_true_eq]; omega
        rw [Lib.decDigits, dif_pos h10, show u = u % 10 by omega] at hI
        rw [hI]
        generalize UInt8.ofNat (48 + u % 10) = x at hb h1
        refine PCB.of_body Tryd.func26 rfl (by decide) Tryd.ntmps26 Tryd.results26 rfl rfl rfl ?_ rfl rfl
        repeat' (first | (simp only [go_sem, zA, zB, zC, zD, zE, zF, zG, reduceCtorEq, zH, zI, zJ, zK, zL, hlt, hr, hb, h1, hz]; all_goals fail_if_success guard_target =ₛ False) | (with_reducible first | ((first | refine seqVC_stepN rfl ?_ | refine AWP.seq ?_ | refine AWP.seqR (by kernel_rfl) ?_); intro K hK) | ((first | refine hK _ _ _ ?_ | refine hK _ _ ?_ | refine hK _ ?_); clear hK K) | refine seqVC_nil ?_ | refine AWP.block ?_ | (refine AWP.cond (by with_unfolding_all rfl) ?_ ?_ <;> intro h <;> (try simp only [zM, zN] at h) <;> try exact absurd h (by decide)) | refine AWP.skip ?_ | refine AWP.ret ?_ | refine AWP.exit ?_ | refine ⟨by decide, ?_⟩ | refine Or.inl ?_) | (clear hK K))
        all_goals (first | exact fun _ h => absurd h List.not_mem_nil | refine fin0 ?_)
        all_goals rfl
      · have hz : decide (n < 10) = false := by rw [decide_eq_false_iff_not]; omega
        have hrec := ih ((u / 10 : Nat) : Int) (by omega) (by omega) (by omega)
        have hlen := itoa_len (n := ((u / 10 : Nat) : Int)) (by omega) (by omega)
        have hIq : Lib.itoa ((u / 10 : Nat) : Int) = Lib.decDigits (u / 10) := by rw [itoa_pos (by omega)]; congr 1
        rw [dig_step h10, ← hIq] at hI
        rw [hI]
        have hml : (Lib.itoa ((u / 10 : Nat) : Int)).length + 1 ≤ maxLen := by unfold maxLen; omega
        generalize UInt8.ofNat (48 + u % 10) = x at hb h1
        refine PCB.of_body Tryd.func26 rfl (by decide) Tryd.ntmps26 Tryd.results26 rfl rfl rfl ?_ rfl rfl
        repeat' (first | (simp only [go_sem, zA, zB, zC, zD, zE, zF, zG, reduceCtorEq, zH, zI, zJ, zK, zL, hlt, hr, hq, hb, h1, hz, List.length_cons, List.length_nil]; all_goals fail_if_success guard_target =ₛ False) | (with_reducible first | ((first | refine seqVC_stepN rfl ?_ | refine AWP.seq ?_ | refine AWP.seqR (by kernel_rfl) ?_); intro K hK) | ((first | refine hK _ _ _ ?_ | refine hK _ _ ?_ | refine hK _ ?_); clear hK K) | refine seqVC_nil ?_ | refine AWP.block ?_ | (refine AWP.cond (by with_unfolding_all rfl) ?_ ?_ <;> intro h <;> (try simp only [zM, zN] at h) <;> try exact absurd h (by decide)) | refine AWP.skip ?_ | refine AWP.ret ?_ | refine AWP.exit ?_ | refine ⟨_, hrec, ?_⟩ | refine ⟨by decide, ?_⟩ | refine ⟨hml, ?_⟩ | refine Or.inl ?_) | (clear hK K))
        all_goals (first | exact fun _ h => absurd h List.not_mem_nil | refine fin0 ?_)
        all_goals rfl
end Go.Proofs.YtogponhonjiidaaDoor
set_option linter.unusedSimpArgs false
set_option linter.unusedVariables false
set_option maxRecDepth 20000
set_option maxHeartbeats 16000000
namespace Go.Proofs.YtogponhonjiidaaDoor
open Go Go.Sx
open Nat renaming reduceBEq → zA, reduceBNe → zB, reduceAdd → zC, reduceSub → zD, reduceMul → zE, reduceLeDiff → zF, reduceLT → zG, reduceEqDiff → zH
open Int renaming reduceToNat → zI, reduceLE → zJ, reduceLT → zK, reduceEq → zL
open Bool renaming not_eq_true' → zM, not_eq_false' → zN
/-- a token's text -/
def txtV (t : Tok) : List UInt8 :=
  bif decide (t.kind = 1) || (decide (t.kind = 2) || decide (t.kind = 6)) then t.text
  else bif decide (t.kind = 3) then Lib.itoa t.num
  else bif decide (t.kind = 4) then Sx.quoteL t.text
  else bif decide (t.kind = 5) then 96 :: (t.text ++ [96])
  else []
/-- a token as an argument gives it -/
def TokOk (t : Tok) : Prop := -9223372036854775808 ≤ t.num ∧ t.num ≤ 9223372036854775807 ∧ t.text.length ≤ 10000000
theorem txt_len {t : Tok} (h : TokOk t) : (txtV t).length ≤ 50000000 := by
  obtain ⟨h1, h2, h3⟩ := h
  have hq := quoteB_le t.text
  have hi := itoa_len h1 h2
  have hl : (Sx.quoteL t.text).length = (Sx.quoteB t.text).length + 2 := by unfold Sx.quoteL; simp
  unfold txtV
  cases decide (t.kind = 1) || (decide (t.kind = 2) || decide (t.kind = 6)) with
  | true => simp only [cond_true]; omega
  | false =>
    cases decide (t.kind = 3) with
    | true => simp only [cond_true, cond_false]; omega
    | false =>
      cases decide (t.kind = 4) with
      | true => simp only [cond_true, cond_false]; omega
      | false =>
        cases decide (t.kind = 5) with
        | true => simp only [cond_true, cond_false, List.length_cons, List.length_append, List.length_nil]; omega
        | false => simp
theorem kinds6 (k : Int) : k = 1 ∨ k = 2 ∨ k = 3 ∨ k = 4 ∨ k = 5 ∨ k = 6 ∨ (decide (k = 1) = false ∧ decide (k = 2) = false ∧ decide (k = 3) = false ∧ decide (k = 4) = false ∧ decide (k = 5) = false ∧ decide (k = 6) = false) := by
  simp only [decide_eq_false_iff_not]; omega
theorem textOf_c (t : Tok) (ht : TokOk t) : PC Tryd.prog 14 [.st (encTok t)] (S (txtV t)) := by
  obtain ⟨h1, h2, h3⟩ := ht
  obtain ⟨kind, text, num, at_⟩ := t
  simp only at h1 h2 h3
  have hd := decimal_c num.natAbs num (Nat.le_refl _) h1 h2
  have hq := rquote_c text (by omega)
  have hm1 : 1 + text.length ≤ maxLen := by unfold maxLen; omega
  have hm2 : 1 + text.length + 1 ≤ maxLen := by unfold maxLen; omega
  have hm3 : text.length + 1 + 1 ≤ maxLen := by unfold maxLen; omega
  rcases kinds6 kind with rfl | rfl | rfl | rfl | rfl | rfl | ⟨g1, g2, g3, g4, g5, g6⟩
  iterate 6
    ·
      refine PCB.of_body Tryd.func14 rfl (by decide) Tryd.ntmps14 Tryd.results14 rfl rfl rfl ?_ rfl rfl
      repeat' (first | (simp only [go_sem, zA, zB, zC, zD, zE, zF, zG, reduceCtorEq, zH, zI, zJ, zK, zL, encTok, Int.reduceEq, List.length_cons, List.length_nil, List.length_append, List.cons_append, List.nil_append]; all_goals fail_if_success guard_target =ₛ False) | (with_reducible first | ((first | refine seqVC_stepN rfl ?_ | refine AWP.seq ?_ | refine AWP.seqR (by kernel_rfl) ?_); intro K hK) | ((first | refine hK _ _ _ ?_ | refine hK _ _ ?_ | refine hK _ ?_); clear hK K) | refine seqVC_nil ?_ | refine AWP.block ?_ | (refine AWP.cond (by with_unfolding_all rfl) ?_ ?_ <;> intro h <;> (try simp only [zM, zN] at h) <;> try exact absurd h (by decide)) | refine AWP.skip ?_ | refine AWP.ret ?_ | refine AWP.exit ?_ | refine ⟨_, hd, ?_⟩ | refine ⟨_, hq, ?_⟩ | refine ⟨hm1, ?_⟩ | refine ⟨hm2, ?_⟩ | refine ⟨hm3, ?_⟩ | refine Or.inl ?_) | (clear hK K))
      all_goals (simp only [txtV, Int.reduceEq, decide_true, decide_false, Bool.true_or, Bool.or_true, Bool.or_false, cond_true, cond_false])
      all_goals first | exact fun _ h => absurd h List.not_mem_nil | refine fin0 ?_ | trivial
      all_goals first | rfl | trivial
  refine PCB.of_body Tryd.func14 rfl (by decide) Tryd.ntmps14 Tryd.results14 rfl rfl rfl ?_ rfl rfl
  repeat' (first | (simp only [go_sem, zA, zB, zC, zD, zE, zF, zG, reduceCtorEq, zH, zI, zJ, zK, zL, encTok, g1, g2, g3, g4, g5, g6]; all_goals fail_if_success guard_target =ₛ False) | (with_reducible first | ((first | refine seqVC_stepN rfl ?_ | refine AWP.seq ?_ | refine AWP.seqR (by kernel_rfl) ?_); intro K hK) | ((first | refine hK _ _ _ ?_ | refine hK _ _ ?_ | refine hK _ ?_); clear hK K) | refine seqVC_nil ?_ | refine AWP.block ?_ | (refine AWP.cond (by with_unfolding_all rfl) ?_ ?_ <;> intro h <;> (try simp only [zM, zN] at h) <;> try exact absurd h (by decide)) | refine AWP.skip ?_ | refine AWP.ret ?_ | refine AWP.exit ?_ | refine Or.inl ?_) | (clear hK K))
  all_goals (simp only [txtV, g1, g2, g3, g4, g5, g6, Bool.or_false, cond_false])
  all_goals first | exact fun _ h => absurd h List.not_mem_nil | refine fin0 ?_ | trivial
  all_goals first | rfl | trivial
theorem ptext_c (t : Tok) (ht : TokOk t) : PC Tryd.prog 27 [.st (encTok t)] (S (txtV t)) := by
  obtain ⟨h1, h2, h3⟩ := ht
  obtain ⟨kind, text, num, at_⟩ := t
  simp only at h1 h2 h3
  have hd := formatInt_c num h1 h2
  have hq := quote_c text (by omega)
  have hm1 : 1 + text.length ≤ maxLen := by unfold maxLen; omega
  have hm2 : 1 + text.length + 1 ≤ maxLen := by unfold maxLen; omega
  have hm3 : text.length + 1 + 1 ≤ maxLen := by unfold maxLen; omega
  rcases kinds6 kind with rfl | rfl | rfl | rfl | rfl | rfl | ⟨g1, g2, g3, g4, g5, g6⟩
  iterate 6
    ·
      refine PCB.of_body Tryd.func27 rfl (by decide) Tryd.ntmps27 Tryd.results27 rfl rfl rfl ?_ rfl rfl
      repeat' (first | (simp only [go_sem, zA, zB, zC, zD, zE, zF, zG, reduceCtorEq, zH, zI, zJ, zK, zL, encTok, Int.reduceEq, List.length_cons, List.length_nil, List.length_append, List.cons_append, List.nil_append]; all_goals fail_if_success guard_target =ₛ False) | (with_reducible first | ((first | refine seqVC_stepN rfl ?_ | refine AWP.seq ?_ | refine AWP.seqR (by kernel_rfl) ?_); intro K hK) | ((first | refine hK _ _ _ ?_ | refine hK _ _ ?_ | refine hK _ ?_); clear hK K) | refine seqVC_nil ?_ | refine AWP.block ?_ | (refine AWP.cond (by with_unfolding_all rfl) ?_ ?_ <;> intro h <;> (try simp only [zM, zN] at h) <;> try exact absurd h (by decide)) | refine AWP.skip ?_ | refine AWP.ret ?_ | refine AWP.exit ?_ | refine ⟨_, hd, ?_⟩ | refine ⟨_, hq, ?_⟩ | refine ⟨hm1, ?_⟩ | refine ⟨hm2, ?_⟩ | refine ⟨hm3, ?_⟩ | refine Or.inl ?_) | (clear hK K))
      all_goals (simp only [txtV, Int.reduceEq, decide_true, decide_false, Bool.true_or, Bool.or_true, Bool.or_false, cond_true, cond_false])
      all_goals first | exact fun _ h => absurd h List.not_mem_nil | refine fin0 ?_ | trivial
      all_goals first | rfl | trivial
  refine PCB.of_body Tryd.func27 rfl (by decide) Tryd.ntmps27 Tryd.results27 rfl rfl rfl ?_ rfl rfl
  repeat' (first | (simp only [go_sem, zA, zB, zC, zD, zE, zF, zG, reduceCtorEq, zH, zI, zJ, zK, zL, encTok, g1, g2, g3, g4, g5, g6]; all_goals fail_if_success guard_target =ₛ False) | (with_reducible first | ((first | refine seqVC_stepN rfl ?_ | refine AWP.seq ?_ | refine AWP.seqR (by kernel_rfl) ?_); intro K hK) | ((first | refine hK _ _ _ ?_ | refine hK _ _ ?_ | refine hK _ ?_); clear hK K) | refine seqVC_nil ?_ | refine AWP.block ?_ | (refine AWP.cond (by with_unfolding_all rfl) ?_ ?_ <;> intro h <;> (try simp only [zM, zN] at h) <;> try exact absurd h (by decide)) | refine AWP.skip ?_ | refine AWP.ret ?_ | refine AWP.exit ?_ | refine Or.inl ?_) | (clear hK K))
  all_goals (simp only [txtV, g1, g2, g3, g4, g5, g6, Bool.or_false, cond_false])
  all_goals first | exact fun _ h => absurd h List.not_mem_nil | refine fin0 ?_ | trivial
  all_goals first | rfl | trivial
def joinV (l : List Tok) : List UInt8 := Lib.join (l.map txtV) [32]
theorem joinTail_snoc (sep x : List UInt8) (r : List (List UInt8)) : Lib.joinTail sep (r ++ [x]) = Lib.joinTail sep r ++ (sep ++ x) := by unfold Lib.joinTail; simp
theorem joinV_snoc (l : List Tok) (t : Tok) : joinV (l ++ [t]) = bif decide (0 < l.length) then (joinV l ++ [32]) ++ txtV t else joinV l ++ txtV t := by
  unfold joinV
  cases l with
  | nil => simp [Lib.join_nil, Lib.join_one]
  | cons a r =>
    rw [List.cons_append, List.map_cons, List.map_append, List.map_cons, List.map_nil, Lib.join_cons, joinTail_snoc, List.map_cons, Lib.join_cons, decide_eq_true (show 0 < (a :: r).length by simp), cond_true]
    simp
theorem joinV_len : ∀ {l : List Tok}, (∀ t ∈ l, TokOk t) → ∀ k, (joinV (l.take k)).length ≤ 50000001 * k
  | l, h, 0 => by simp [joinV, Lib.join_nil]
  | l, h, k + 1 => by
    have ih := joinV_len h k
    by_cases hk : k < l.length
    · rw [List.take_add_one, List.getElem?_eq_getElem hk]
      simp only [Option.toList_some]
      rw [joinV_snoc]
      have := txt_len (h _ (List.getElem_mem hk))
      cases decide (0 < (l.take k).length) <;> simp only [cond_true, cond_false, List.length_append, List.length_cons, List.length_nil] <;> omega
    · rw [List.take_of_length_le (by omega)] at ih ⊢
      omega
theorem str_snoc (l : List (List UInt8)) (s : List UInt8) : l.map encStr ++ [[C.str s]] = (l ++ [s]).map encStr := by rw [List.map_append]; rfl
theorem ptexts_c (l : List Tok) (hl : l.length ≤ 1000) (h : ∀ t ∈ l, TokOk t) : PC Tryd.prog 19 [.one (.dat (.sl 4 (l.map encTok)))] (S (joinV l)) := by
  refine PCB.of_body Tryd.func19 rfl (by decide) Tryd.ntmps19 Tryd.results19 rfl rfl rfl ?_ rfl rfl
  repeat' (first | (simp only [go_sem, zA, zB, zC, zD, zE, zF, zG, reduceCtorEq, zH, zI, zJ, zK, zL, List.length_map]; all_goals fail_if_success guard_target =ₛ False) | (with_reducible first | ((first | refine seqVC_stepN rfl ?_ | refine AWP.seq ?_ | refine AWP.seqR (by kernel_rfl) ?_); intro K hK) | ((first | refine hK _ _ _ ?_ | refine hK _ _ ?_ | refine hK _ ?_); clear hK K) | refine seqVC_nil ?_ | refine AWP.block ?_ | (refine AWP.cond (by with_unfolding_all rfl) ?_ ?_ <;> intro h <;> (try simp only [zM, zN] at h) <;> try exact absurd h (by decide)) | refine AWP.skip ?_ | refine AWP.ret ?_ | refine AWP.exit ?_ | refine Or.inl ?_) | (clear hK K))
  refine AWP.gh (Gh.nilrow 3 900 rfl rfl rfl (by simp [Bx.fresh, Cell.freshs, Cell.fresh])) ?_
  refine AWP.len 6 rfl fun hlen0 => ?_
  (try rw [List.length_map] at hlen0)
  refine AWP.range (S := List (List UInt8)) (l) encTok (fun k s => (8, I .i64 (k : Nat)) :: [(3, .one (.own 900 s.length))]) (fun k s => [(900, .row 1 (s.map encStr))]) [6, 7] [] (fun k s => s = (l.take k).map txtV) ([]) (by simp only [go_sem, zA, zB, zC, zD, zE, zF, zG, reduceCtorEq, zH, zI, zJ, zK, zL]; exact Gh.to [] (by repeat (first | exact trivial | refine ⟨rfl, ?_⟩ | refine ⟨by (simp only [go_sem, zA, zB, zC, zD, zE, zF, zG, reduceCtorEq, zH, zI, zJ, zK, zL, List.length_append, List.length_map, List.length_cons, List.length_nil, Nat.zero_add]) <;> rfl, ?_⟩)) (by repeat (first | exact trivial | refine ⟨rfl, ?_⟩ | refine ⟨by (simp only [go_sem, zA, zB, zC, zD, zE, zF, zG, reduceCtorEq, zH, zI, zJ, zK, zL, List.length_append, List.length_map, List.length_cons, List.length_nil, Nat.zero_add]) <;> rfl, ?_⟩)) rfl rfl rfl) ?_ ?_ ?_
  · rfl
  · intro k s t hlt hx hx' hbb hok
    simp only [go_sem, zA, zB, zC, zD, zE, zF, zG, reduceCtorEq, zH, zI, zJ, zK, zL]
    have hc := ptext_c t (h t (List.mem_of_getElem? hx))
    unfold encTok at hc
    have hsl : s.length ≤ 1000 := by rw [hok, List.length_map, List.length_take]; omega
    have hok' : s ++ [txtV t] = (l.take (k + 1)).map txtV := by rw [List.take_add_one, hx, hok]; simp
    repeat' (first | (simp only [go_sem, zA, zB, zC, zD, zE, zF, zG, reduceCtorEq, zH, zI, zJ, zK, zL, List.length_map, hbb, encTok, str_snoc]; all_goals fail_if_success guard_target =ₛ False) | (with_reducible first | ((first | refine seqVC_stepN rfl ?_ | refine AWP.seq ?_ | refine AWP.seqR (by kernel_rfl) ?_); intro K hK) | ((first | refine hK _ _ _ ?_ | refine hK _ _ ?_ | refine hK _ ?_); clear hK K) | refine seqVC_nil ?_ | refine AWP.block ?_ | (refine AWP.cond (by with_unfolding_all rfl) ?_ ?_ <;> intro h <;> (try simp only [zM, zN] at h) <;> try exact absurd h (by decide)) | refine AWP.skip ?_ | refine AWP.ret ?_ | refine AWP.exit ?_ | refine ⟨_, hc, ?_⟩ | refine ⟨(by omega : _ ≤ _), ?_⟩ | refine ⟨(by omega : _ ≤ _), (by omega : _ ≤ _), ?_⟩ | refine ⟨by omega, encTok t, hx', ?_⟩ | refine ⟨encTok t, hx', ?_⟩ | refine Or.inl ?_) | (clear hK K))
    have hlk : (l.take (k + 1)).length = (s ++ [txtV t]).length := by rw [hok', List.length_map]
    all_goals (rw [wrap_succ hlt hlen0, ← hok', hlk])
    all_goals exact Gh.to [(900, 16)] (by repeat (first | exact trivial | refine ⟨rfl, ?_⟩ | refine ⟨by (simp only [go_sem, zA, zB, zC, zD, zE, zF, zG, reduceCtorEq, zH, zI, zJ, zK, zL, List.length_append, List.length_map, List.length_cons, List.length_nil, Nat.zero_add]) <;> rfl, ?_⟩)) (by repeat (first | exact trivial | refine ⟨rfl, ?_⟩ | refine ⟨by (simp only [go_sem, zA, zB, zC, zD, zE, zF, zG, reduceCtorEq, zH, zI, zJ, zK, zL, List.length_append, List.length_map, List.length_cons, List.length_nil, Nat.zero_add]) <;> rfl, ?_⟩)) rfl rfl rfl
  · intro s hbb hok
    simp only [go_sem, zA, zB, zC, zD, zE, zF, zG, reduceCtorEq, zH, zI, zJ, zK, zL]
    rw [List.take_length] at hok
    subst hok
    have hj := joinV_len h l.length
    rw [List.take_length] at hj
    have hc := join_c (l.map txtV) [32] (by rw [List.length_map]; omega) (by show (joinV l).length ≤ _; omega)
    refine AWP.gh (Gh.freeze 900 rfl rfl (by simp only [go_sem, zA, zB, zC, zD, zE, zF, zG, reduceCtorEq, zH, zI, zJ, zK, zL, List.length_map]) (by simp only [go_sem, zA, zB, zC, zD, zE, zF, zG, reduceCtorEq, zH, zI, zJ, zK, zL, List.length_map])) ?_
    simp only [go_sem, zA, zB, zC, zD, zE, zF, zG, reduceCtorEq, zH, zI, zJ, zK, zL, List.length_map]
    repeat' (first | (simp only [go_sem, zA, zB, zC, zD, zE, zF, zG, reduceCtorEq, zH, zI, zJ, zK, zL, List.length_map, hbb]; all_goals fail_if_success guard_target =ₛ False) | (with_reducible first | ((first | refine seqVC_stepN rfl ?_ | refine AWP.seq ?_ | refine AWP.seqR (by kernel_rfl) ?_); intro K hK) | ((first | refine hK _ _ _ ?_ | refine hK _ _ ?_ | refine hK _ ?_); clear hK K) | refine seqVC_nil ?_ | refine AWP.block ?_ | (refine AWP.cond (by with_unfolding_all rfl) ?_ ?_ <;> intro h <;> (try simp only [zM, zN] at h) <;> try exact absurd h (by decide)) | refine AWP.skip ?_ | refine AWP.ret ?_ | refine AWP.exit ?_ | refine ⟨_, hc, ?_⟩ | refine Or.inl ?_) | (clear hK K))
    all_goals (first | exact fun _ h => absurd h List.not_mem_nil | refine fin0 ?_)
    all_goals rfl
theorem rtexts_c (l : List Tok) (hl : l.length ≤ 1000) (h : ∀ t ∈ l, TokOk t) : PC Tryd.prog 20 [.one (.dat (.sl 4 (l.map encTok)))] (S (joinV l)) := by
  have hj0 : joinV (l.take 0) = [] := by simp [joinV, Lib.join_nil]
  have hjl := joinV_len h
  have hjs : ∀ k t, l[k]? = some t → joinV (l.take (k + 1)) = bif decide (0 < k) then (joinV (l.take k) ++ [32]) ++ txtV t else joinV (l.take k) ++ txtV t := by
    intro k t ht
    have hk := (List.getElem?_eq_some_iff.1 ht).1
    rw [List.take_add_one, ht]
    simp only [Option.toList_some]
    rw [joinV_snoc, List.length_take, show min k l.length = k by omega]
  have hend : joinV l = joinV (l.take l.length) := by rw [List.take_length]
  rw [hend]
  generalize hJ : (fun k => joinV (l.take k)) = J at *
  have hJ' : ∀ k, joinV (l.take k) = J k := fun k => by rw [← hJ]
  rw [hJ'] at hj0 ⊢
  simp only [hJ'] at hjl hjs
  refine PCB.of_body Tryd.func20 rfl (by decide) Tryd.ntmps20 Tryd.results20 rfl rfl rfl ?_ rfl rfl
  repeat' (first | (simp only [go_sem, zA, zB, zC, zD, zE, zF, zG, reduceCtorEq, zH, zI, zJ, zK, zL, List.length_map]; all_goals fail_if_success guard_target =ₛ False) | (with_reducible first | ((first | refine seqVC_stepN rfl ?_ | refine AWP.seq ?_ | refine AWP.seqR (by kernel_rfl) ?_); intro K hK) | ((first | refine hK _ _ _ ?_ | refine hK _ _ ?_ | refine hK _ ?_); clear hK K) | refine seqVC_nil ?_ | refine AWP.block ?_ | (refine AWP.cond (by with_unfolding_all rfl) ?_ ?_ <;> intro h <;> (try simp only [zM, zN] at h) <;> try exact absurd h (by decide)) | refine AWP.skip ?_ | refine AWP.ret ?_ | refine AWP.exit ?_ | refine Or.inl ?_) | (clear hK K))
  refine AWP.len 6 rfl fun hlen0 => ?_
  (try rw [List.length_map] at hlen0)
  refine AWP.range (S := Unit) (l) encTok (fun k u => (8, I .i64 (k : Nat)) :: [(3, S (J k))]) (fun k u => []) [6, 7] [] (fun k u => True) (()) (by simp only [go_sem, zA, zB, zC, zD, zE, zF, zG, reduceCtorEq, zH, zI, zJ, zK, zL, hj0]; exact Gh.to [] (by repeat (first | exact trivial | refine ⟨rfl, ?_⟩ | refine ⟨by (simp only [go_sem, zA, zB, zC, zD, zE, zF, zG, reduceCtorEq, zH, zI, zJ, zK, zL, List.length_append, List.length_map, List.length_cons, List.length_nil, Nat.zero_add]) <;> rfl, ?_⟩)) (by repeat (first | exact trivial | refine ⟨rfl, ?_⟩ | refine ⟨by (simp only [go_sem, zA, zB, zC, zD, zE, zF, zG, reduceCtorEq, zH, zI, zJ, zK, zL, List.length_append, List.length_map, List.length_cons, List.length_nil, Nat.zero_add]) <;> rfl, ?_⟩)) rfl rfl rfl) ?_ ?_ ?_
  · trivial
  · intro k u t hlt hx hx' hbb hok
    simp only [go_sem, zA, zB, zC, zD, zE, zF, zG, reduceCtorEq, zH, zI, zJ, zK, zL]
    have hc := textOf_c t (h t (List.mem_of_getElem? hx))
    unfold encTok at hc
    have ht := txt_len (h t (List.mem_of_getElem? hx))
    have hn := hjs k t hx
    have hlk := hjl k
    have hm1 : (J k).length + 1 ≤ maxLen := by unfold maxLen; omega
    have hm2 : (J k ++ [32]).length + (txtV t).length ≤ maxLen := by unfold maxLen; simp only [List.length_append, List.length_cons, List.length_nil]; omega
    have hm3 : (J k).length + (txtV t).length ≤ maxLen := by unfold maxLen; omega
    have hm4 : (J k).length + 1 + (txtV t).length ≤ maxLen := by unfold maxLen; omega
    cases h0 : decide ((0 : Int) < (k : Int)) with
    | true =>
      rw [show decide (0 < k) = true by simp at h0 ⊢; omega, cond_true] at hn
      repeat' (first | (simp only [go_sem, zA, zB, zC, zD, zE, zF, zG, reduceCtorEq, zH, zI, zJ, zK, zL, List.length_map, hbb, h0, encTok, List.length_cons, List.length_nil, List.length_append]; all_goals fail_if_success guard_target =ₛ False) | (with_reducible first | ((first | refine seqVC_stepN rfl ?_ | refine AWP.seq ?_ | refine AWP.seqR (by kernel_rfl) ?_); intro K hK) | ((first | refine hK _ _ _ ?_ | refine hK _ _ ?_ | refine hK _ ?_); clear hK K) | refine seqVC_nil ?_ | refine AWP.block ?_ | (refine AWP.cond (by with_unfolding_all rfl) ?_ ?_ <;> intro h <;> (try simp only [zM, zN] at h) <;> try exact absurd h (by decide)) | refine AWP.skip ?_ | refine AWP.ret ?_ | refine AWP.exit ?_ | refine ⟨_, hc, ?_⟩ | refine ⟨by omega, encTok t, hx', ?_⟩ | refine ⟨encTok t, hx', ?_⟩ | refine ⟨hm1, ?_⟩ | refine ⟨hm2, ?_⟩ | refine ⟨hm4, ?_⟩ | refine Or.inl ?_) | (clear hK K))
      all_goals (rw [wrap_succ hlt hlen0, hn])
      all_goals first | exact ⟨(), trivial, Gh.to [] (by repeat (first | exact trivial | refine ⟨rfl, ?_⟩ | refine ⟨by (simp only [go_sem, zA, zB, zC, zD, zE, zF, zG, reduceCtorEq, zH, zI, zJ, zK, zL, List.length_append, List.length_map, List.length_cons, List.length_nil, Nat.zero_add]) <;> rfl, ?_⟩)) (by repeat (first | exact trivial | refine ⟨rfl, ?_⟩ | refine ⟨by (simp only [go_sem, zA, zB, zC, zD, zE, zF, zG, reduceCtorEq, zH, zI, zJ, zK, zL, List.length_append, List.length_map, List.length_cons, List.length_nil, Nat.zero_add]) <;> rfl, ?_⟩)) rfl rfl rfl⟩ | exact ⟨(), Gh.to [] (by repeat (first | exact trivial | refine ⟨rfl, ?_⟩ | refine ⟨by (simp only [go_sem, zA, zB, zC, zD, zE, zF, zG, reduceCtorEq, zH, zI, zJ, zK, zL, List.length_append, List.length_map, List.length_cons, List.length_nil, Nat.zero_add]) <;> rfl, ?_⟩)) (by repeat (first | exact trivial | refine ⟨rfl, ?_⟩ | refine ⟨by (simp only [go_sem, zA, zB, zC, zD, zE, zF, zG, reduceCtorEq, zH, zI, zJ, zK, zL, List.length_append, List.length_map, List.length_cons, List.length_nil, Nat.zero_add]) <;> rfl, ?_⟩)) rfl rfl rfl⟩ | exact Gh.to [] (by repeat (first | exact trivial | refine ⟨rfl, ?_⟩ | refine ⟨by (simp only [go_sem, zA, zB, zC, zD, zE, zF, zG, reduceCtorEq, zH, zI, zJ, zK, zL, List.length_append, List.length_map, List.length_cons, List.length_nil, Nat.zero_add]) <;> rfl, ?_⟩)) (by repeat (first | exact trivial | refine ⟨rfl, ?_⟩ | refine ⟨by (simp only [go_sem, zA, zB, zC, zD, zE, zF, zG, reduceCtorEq, zH, zI, zJ, zK, zL, List.length_append, List.length_map, List.length_cons, List.length_nil, Nat.zero_add]) <;> rfl, ?_⟩)) rfl rfl rfl
    | false =>
      rw [show decide (0 < k) = false by simp at h0 ⊢; omega, cond_false] at hn
      repeat' (first | (simp only [go_sem, zA, zB, zC, zD, zE, zF, zG, reduceCtorEq, zH, zI, zJ, zK, zL, List.length_map, hbb, h0, encTok, List.length_cons, List.length_nil]; all_goals fail_if_success guard_target =ₛ False) | (with_reducible first | ((first | refine seqVC_stepN rfl ?_ | refine AWP.seq ?_ | refine AWP.seqR (by kernel_rfl) ?_); intro K hK) | ((first | refine hK _ _ _ ?_ | refine hK _ _ ?_ | refine hK _ ?_); clear hK K) | refine seqVC_nil ?_ | refine AWP.block ?_ | (refine AWP.cond (by with_unfolding_all rfl) ?_ ?_ <;> intro h <;> (try simp only [zM, zN] at h) <;> try exact absurd h (by decide)) | refine AWP.skip ?_ | refine AWP.ret ?_ | refine AWP.exit ?_ | refine ⟨_, hc, ?_⟩ | refine ⟨by omega, encTok t, hx', ?_⟩ | refine ⟨encTok t, hx', ?_⟩ | refine ⟨hm3, ?_⟩ | refine Or.inl ?_) | (clear hK K))
      all_goals (rw [wrap_succ hlt hlen0, hn])
      all_goals first | exact ⟨(), trivial, Gh.to [] (by repeat (first | exact trivial | refine ⟨rfl, ?_⟩ | refine ⟨by (simp only [go_sem, zA, zB, zC, zD, zE, zF, zG, reduceCtorEq, zH, zI, zJ, zK, zL, List.length_append, List.length_map, List.length_cons, List.length_nil, Nat.zero_add]) <;> rfl, ?_⟩)) (by repeat (first | exact trivial | refine ⟨rfl, ?_⟩ | refine ⟨by (simp only [go_sem, zA, zB, zC, zD, zE, zF, zG, reduceCtorEq, zH, zI, zJ, zK, zL, List.length_append, List.length_map, List.length_cons, List.length_nil, Nat.zero_add]) <;> rfl, ?_⟩)) rfl rfl rfl⟩ | exact ⟨(), Gh.to [] (by repeat (first | exact trivial | refine ⟨rfl, ?_⟩ | refine ⟨by (simp only [go_sem, zA, zB, zC, zD, zE, zF, zG, reduceCtorEq, zH, zI, zJ, zK, zL, List.length_append, List.length_map, List.length_cons, List.length_nil, Nat.zero_add]) <;> rfl, ?_⟩)) (by repeat (first | exact trivial | refine ⟨rfl, ?_⟩ | refine ⟨by (simp only [go_sem, zA, zB, zC, zD, zE, zF, zG, reduceCtorEq, zH, zI, zJ, zK, zL, List.length_append, List.length_map, List.length_cons, List.length_nil, Nat.zero_add]) <;> rfl, ?_⟩)) rfl rfl rfl⟩ | exact Gh.to [] (by repeat (first | exact trivial | refine ⟨rfl, ?_⟩ | refine ⟨by (simp only [go_sem, zA, zB, zC, zD, zE, zF, zG, reduceCtorEq, zH, zI, zJ, zK, zL, List.length_append, List.length_map, List.length_cons, List.length_nil, Nat.zero_add]) <;> rfl, ?_⟩)) (by repeat (first | exact trivial | refine ⟨rfl, ?_⟩ | refine ⟨by (simp only [go_sem, zA, zB, zC, zD, zE, zF, zG, reduceCtorEq, zH, zI, zJ, zK, zL, List.length_append, List.length_map, List.length_cons, List.length_nil, Nat.zero_add]) <;> rfl, ?_⟩)) rfl rfl rfl
  · intro u hbb hok
    simp only [go_sem, zA, zB, zC, zD, zE, zF, zG, reduceCtorEq, zH, zI, zJ, zK, zL]
    repeat' (first | (simp only [go_sem, zA, zB, zC, zD, zE, zF, zG, reduceCtorEq, zH, zI, zJ, zK, zL, List.length_map, hbb]; all_goals fail_if_success guard_target =ₛ False) | (with_reducible first | ((first | refine seqVC_stepN rfl ?_ | refine AWP.seq ?_ | refine AWP.seqR (by kernel_rfl) ?_); intro K hK) | ((first | refine hK _ _ _ ?_ | refine hK _ _ ?_ | refine hK _ ?_); clear hK K) | refine seqVC_nil ?_ | refine AWP.block ?_ | (refine AWP.cond (by with_unfolding_all rfl) ?_ ?_ <;> intro h <;> (try simp only [zM, zN] at h) <;> try exact absurd h (by decide)) | refine AWP.skip ?_ | refine AWP.ret ?_ | refine AWP.exit ?_ | refine Or.inl ?_) | (clear hK K))
    all_goals (first | exact fun _ h => absurd h List.not_mem_nil | refine fin0 ?_)
    all_goals rfl
theorem tokenTexts_c (l : List Tok) (h : ∀ t ∈ l, TokOk t) (hl : l.length ≤ 100000000) : PC Tryd.prog 8 [.one (.dat (.sl 4 (l.map encTok)))] (Bo true) := by
  have h' : ∀ t ∈ l.take 30, TokOk t := fun t ht => h t (List.mem_of_mem_take ht)
  have h1 := ptexts_c (l.take 30) (by rw [List.length_take]; omega) h'
  have h2 := rtexts_c (l.take 30) (by rw [List.length_take]; omega) h'
  have h3 := awake_c
  have hmin : (if (30 : Int) < (l.length : Int) then (30 : Int) else (l.length : Int)) = ((min l.length 30 : Nat) : Int) := by split <;> omega
  have htk : l.take (min l.length 30) = l.take 30 := by
    by_cases hc : l.length ≤ 30
    · rw [show min l.length 30 = l.length by omega, List.take_length, List.take_of_length_le hc]
    · rw [show min l.length 30 = 30 by omega]
  have hmk : (l.map encTok).take (min l.length 30) = (l.take 30).map encTok := by rw [← List.map_take, htk]
  refine PCB.of_body Tryd.func8 rfl (by decide) Tryd.ntmps8 Tryd.results8 rfl rfl rfl ?_ rfl rfl
  repeat' (first | (simp only [go_sem, zA, zB, zC, zD, zE, zF, zG, reduceCtorEq, zH, zI, zJ, zK, zL, List.length_map, hmin, Int.toNat_natCast, List.drop_zero, hmk]; all_goals fail_if_success guard_target =ₛ False) | (with_reducible first | ((first | refine seqVC_stepN rfl ?_ | refine seqVC_stepG rfl (by with_unfolding_all rfl) ?_ | refine AWP.seq ?_ | refine AWP.seqR (by kernel_rfl) ?_); intro K hK) | ((first | refine hK _ _ _ ?_ | refine hK _ _ ?_ | refine hK _ ?_); clear hK K) | refine seqVC_nil ?_ | refine AWP.block ?_ | (refine AWP.cond (by with_unfolding_all rfl) ?_ ?_ <;> intro h <;> (try simp only [zM, zN] at h) <;> try exact absurd h (by decide)) | refine AWP.skip ?_ | refine AWP.ret ?_ | refine AWP.exit ?_ | (refine ⟨fun h => ?_, fun h => ?_⟩ <;> (try simp only [zM, zN] at h) <;> try simp only [h]) | refine ⟨_, h1, ?_⟩ | refine ⟨_, h2, ?_⟩ | refine ⟨_, h3, ?_⟩ | refine ⟨(by omega : _ ≤ _), ?_⟩ | refine ⟨(by omega : _ ≤ _), (by omega : _ ≤ _), ?_⟩ | refine ⟨(by omega : _ ≤ _), (by omega : _ ≤ _), (by omega : _ ≤ _), ?_⟩ | refine Or.inl ?_) | (clear hK K))
  trace_state
  all_goals (first | exact fun _ h => absurd h List.not_mem_nil | refine fin0 ?_)
  all_goals rfl
end Go.Proofs.YtogponhonjiidaaDoor
