/- A part of the proof: lemmas about the walk of the program and about plain integers and lists. No conditions beyond those that each lemma states. -/
import Derived.Test.YteobojeemflggaaGreatEv20
import Derived.Test.YteobojeemflggaaGreatEv4
import Derived.Test.YteobojeemflggaaGreatEv6
import Derived.Test.YteobojeemflggaaGreatEv19
import Derived.Test.YteobojeemflggaaGreatEv13
import Derived.Test.YteobojeemflggaaGreatEv8
set_option linter.unusedSimpArgs false
set_option linter.unusedVariables false
set_option maxRecDepth 20000
set_option maxHeartbeats 4000000
namespace Go.Proofs.YteobojeemflggaaGreat
open Go Go.Sx
open Nat renaming reduceBEq → zA, reduceBNe → zB, reduceAdd → zC, reduceSub → zD, reduceMul → zE, reduceLeDiff → zF, reduceLT → zG, reduceEqDiff → zH
open Int renaming reduceToNat → zI, reduceLE → zJ, reduceLT → zK, reduceEq → zL
open Bool renaming not_eq_true' → zM, not_eq_false' → zN
variable {f1 f0 : Src → Val × Src} {h : Nat}
theorem nil_lit : encVal nilVal = [.int .i64 5, .int .i64 0, .str [], .sl 7 [], .sl 2 [], .sl 9 [], .sl 1 []] := by rw [encVal_eq]; rfl
theorem cons_lit (a b : Val) : encVal (consVal a b) = [.int .i64 7, .int .i64 0, .str [], .sl 7 [encVal a, encVal b], .sl 2 [], .sl 9 [], .sl 1 []] := by rw [encVal_eq]; rfl
theorem nil_lab (ls : List (List UInt8)) : Vt { nilVal with labels := ls } = .st [.int .i64 5, .int .i64 0, .str [], .sl 7 [], .sl 2 [], .sl 9 [], .sl 1 (ls.map encStr)] := by rw [Vt, encVal_eq]; rfl
theorem cons_lab (a : Val) (ls : List (List UInt8)) : Vt { consVal a nilVal with labels := ls } = .st [.int .i64 7, .int .i64 0, .str [], .sl 7 [encVal a, [.int .i64 5, .int .i64 0, .str [], .sl 7 [], .sl 2 [], .sl 9 [], .sl 1 []]], .sl 2 [], .sl 9 [], .sl 1 (ls.map encStr)] := by
  rw [Vt, encVal_eq]; simp only [consVal, List.map_cons, List.map_nil, nil_lit]
theorem value_2 (H1 : ValueC f1 (h + 1)) (H0 : ValueC f0 h) (hf1 : ∀ s : Src, s.ok → (f1 s).2.ok) (hf0 : ∀ s : Src, s.ok → (f0 s).2.ok) (hh : h ≤ 1000) : ValK f1 f0 h 2 := by
  intro s hs hk
  have hb : decide (((h + 2 : Nat) : Int) ≤ 1) = false := by simp; omega
  have hs1 := ok_next hs 6
  have hw : IntKind.i64.wrap (((h + 2 : Nat) : Int) - 1) = ((h + 1 : Nat) : Int) := by rw [w64 (by omega)]; omega
  have hw0 : IntKind.i64.wrap (((h + 2 : Nat) : Int) - 2) = ((h : Nat) : Int) := by rw [w64 (by omega)]; omega
  have hbig : decide ((2 : Int) < ((h + 2 : Nat) : Int)) = decide (0 < h) := by rw [← Bool.coe_iff_coe]; simp only [decide_eq_true_eq]; omega
  cases hB : decide (0 < h) with
  | false =>
    rw [hB] at hbig
    rw [show valueK f1 f0 false 2 (nextS s 6) = (consVal (f1 (labelsV (nextS s 6)).2).1 { nilVal with labels := (labelsV (nextS s 6)).1 }, (f1 (labelsV (nextS s 6)).2).2) from rfl]
    have hc := refCons_c (f1 (labelsV (nextS s 6)).2).1 { nilVal with labels := (labelsV (nextS s 6)).1 }
    rw [nil_lab] at hc
    refine PCB.of_body Tryz.func31 rfl (by decide) Tryz.ntmps31 Tryz.results31 rfl rfl rfl ?_ rfl rfl
    repeat' (first | (simp only [go_sem, zA, zB, zC, zD, zE, zF, zG, reduceCtorEq, zH, zI, zJ, zK, zL, pin, hb, hk, hbig, nil_lit, hw]; all_goals fail_if_success guard_target =ₛ False) | (with_reducible first | ((first | refine seqVC_stepN rfl ?_ | refine seqVC_stepG rfl (by with_unfolding_all rfl) ?_ | refine AWP.seq ?_ | refine AWP.seqR (by kernel_rfl) ?_ | refine parVC_stepN rfl ?_ | refine parVC_stepG rfl (by with_unfolding_all rfl) ?_ | refine parEVC_stepN rfl ?_ | refine parEVC_stepG rfl (by with_unfolding_all rfl) ?_ | refine genVC_stepN rfl ?_ | refine genVC_stepG rfl (by with_unfolding_all rfl) ?_); intro K hK) | ((first | refine hK _ _ _ ?_ | refine hK _ _ ?_ | refine hK _ ?_); clear hK K) | refine seqVC_nil ?_ | refine parVC_nil ?_ | refine parEVC_nil ?_ | refine genVC_nil ?_ | refine AWP.block ?_ | (refine AWP.cond (by with_unfolding_all rfl) ?_ ?_ <;> intro h <;> (try simp only [zM, zN] at h) <;> try exact absurd h (by decide)) | refine AWP.skip ?_ | refine AWP.ret ?_ | refine AWP.exit ?_ | (refine ⟨fun h => ?_, fun h => ?_⟩ <;> (try simp only [zM, zN] at h) <;> try simp only [h]) | refine ⟨_, refNil_c, ?_⟩ | refine ⟨_, hc, ?_⟩) | (refine ⟨1000000, _, _, _, next_k 1000000 s hs 6 (by omega), rfl, ?_⟩) | (refine ⟨1000000, _, _, _, labels_k 1000000 _ hs1, rfl, ?_⟩) | (refine ⟨1000000, _, _, _, H1.k 1000000 _ (ok_labels hs1), rfl, ?_⟩) | (with_reducible first | (refine AWP.genR (id := 16) [3,6] [1000000,4] mixed (by kernel_rfl) fun K hK => ?_; simp only [Bx.outs, Bx.drop, cond_true, cond_false, Nat.reduceBEq, go_sem]) | refine AWP.parR mixed (by kernel_rfl) fun K hK => ?_ | refine ⟨(by kernel_rfl : depB _ _ _ = true), ?_⟩ | refine Or.inl ?_) | (clear hK K))
    all_goals (first | refine ⟨rfl, fun x hx => ?_⟩ | refine ⟨trivial, fun x hx => ?_⟩ | refine fun x hx => ?_)
    all_goals (simp only [List.mem_singleton] at hx; subst hx; simp [pin])
  | true =>
    rw [hB] at hbig
    have hs2 := ok_next hs1 2
    cases hN : decide (nextV (nextS s 6) 2 = 1) with
    | false =>
      rw [show valueK f1 f0 true 2 (nextS s 6) = (consVal (f1 (labelsV (nextS (nextS s 6) 2)).2).1 { nilVal with labels := (labelsV (nextS (nextS s 6) 2)).1 }, (f1 (labelsV (nextS (nextS s 6) 2)).2).2) from by unfold valueK tailV lab; rw [hN]; rfl]
      have hc := refCons_c (f1 (labelsV (nextS (nextS s 6) 2)).2).1 { nilVal with labels := (labelsV (nextS (nextS s 6) 2)).1 }
      rw [nil_lab] at hc
      refine PCB.of_body Tryz.func31 rfl (by decide) Tryz.ntmps31 Tryz.results31 rfl rfl rfl ?_ rfl rfl
      repeat' (first | (simp only [go_sem, zA, zB, zC, zD, zE, zF, zG, reduceCtorEq, zH, zI, zJ, zK, zL, pin, hb, hk, hbig, hN, nil_lit, hw]; all_goals fail_if_success guard_target =ₛ False) | (with_reducible first | ((first | refine seqVC_stepN rfl ?_ | refine seqVC_stepG rfl (by with_unfolding_all rfl) ?_ | refine AWP.seq ?_ | refine AWP.seqR (by kernel_rfl) ?_ | refine parVC_stepN rfl ?_ | refine parVC_stepG rfl (by with_unfolding_all rfl) ?_ | refine parEVC_stepN rfl ?_ | refine parEVC_stepG rfl (by with_unfolding_all rfl) ?_ | refine genVC_stepN rfl ?_ | refine genVC_stepG rfl (by with_unfolding_all rfl) ?_); intro K hK) | ((first | refine hK _ _ _ ?_ | refine hK _ _ ?_ | refine hK _ ?_); clear hK K) | refine seqVC_nil ?_ | refine parVC_nil ?_ | refine parEVC_nil ?_ | refine genVC_nil ?_ | refine AWP.block ?_ | (refine AWP.cond (by with_unfolding_all rfl) ?_ ?_ <;> intro h <;> (try simp only [zM, zN] at h) <;> try exact absurd h (by decide)) | refine AWP.skip ?_ | refine AWP.ret ?_ | refine AWP.exit ?_ | (refine ⟨fun h => ?_, fun h => ?_⟩ <;> (try simp only [zM, zN] at h) <;> try simp only [h]) | refine ⟨_, refNil_c, ?_⟩ | refine ⟨_, hc, ?_⟩) | (refine ⟨1000000, _, _, _, next_k 1000000 s hs 6 (by omega), rfl, ?_⟩) | (refine ⟨1000000, _, _, _, next_k 1000000 _ hs1 2 (by omega), rfl, ?_⟩) | (refine ⟨1000000, _, _, _, labels_k 1000000 _ hs2, rfl, ?_⟩) | (refine ⟨1000000, _, _, _, H1.k 1000000 _ (ok_labels hs2), rfl, ?_⟩) | (with_reducible first | (refine AWP.genR (id := 16) [3,6] [1000000,4] mixed (by kernel_rfl) fun K hK => ?_; simp only [Bx.outs, Bx.drop, cond_true, cond_false, Nat.reduceBEq, go_sem]) | refine AWP.parR mixed (by kernel_rfl) fun K hK => ?_ | refine ⟨(by kernel_rfl : depB _ _ _ = true), ?_⟩ | refine Or.inl ?_) | (clear hK K))
      all_goals (first | refine ⟨rfl, fun x hx => ?_⟩ | refine ⟨trivial, fun x hx => ?_⟩ | refine fun x hx => ?_)
      all_goals (simp only [List.mem_singleton] at hx; subst hx; simp [pin])
    | true =>
      have hs3 := hf0 _ hs2
      rw [show valueK f1 f0 true 2 (nextS s 6) = (consVal (f1 (labelsV (f0 (nextS (nextS s 6) 2)).2).2).1 { consVal (f0 (nextS (nextS s 6) 2)).1 nilVal with labels := (labelsV (f0 (nextS (nextS s 6) 2)).2).1 }, (f1 (labelsV (f0 (nextS (nextS s 6) 2)).2).2).2) from by unfold valueK tailV lab; rw [hN]; rfl]
      have hc := refCons_c (f1 (labelsV (f0 (nextS (nextS s 6) 2)).2).2).1 { consVal (f0 (nextS (nextS s 6) 2)).1 nilVal with labels := (labelsV (f0 (nextS (nextS s 6) 2)).2).1 }
      rw [cons_lab] at hc
      have hc0 := refCons_c (f0 (nextS (nextS s 6) 2)).1 nilVal
      rw [Vt, Vt, Vt, nil_lit] at hc0
      refine PCB.of_body Tryz.func31 rfl (by decide) Tryz.ntmps31 Tryz.results31 rfl rfl rfl ?_ rfl rfl
      repeat' (first | (simp only [go_sem, zA, zB, zC, zD, zE, zF, zG, reduceCtorEq, zH, zI, zJ, zK, zL, pin, hb, hk, hbig, hN, nil_lit, cons_lit (f0 (nextS (nextS s 6) 2)).1 nilVal, hw, hw0]; all_goals fail_if_success guard_target =ₛ False) | (with_reducible first | ((first | refine seqVC_stepN rfl ?_ | refine seqVC_stepG rfl (by with_unfolding_all rfl) ?_ | refine AWP.seq ?_ | refine AWP.seqR (by kernel_rfl) ?_ | refine parVC_stepN rfl ?_ | refine parVC_stepG rfl (by with_unfolding_all rfl) ?_ | refine parEVC_stepN rfl ?_ | refine parEVC_stepG rfl (by with_unfolding_all rfl) ?_ | refine genVC_stepN rfl ?_ | refine genVC_stepG rfl (by with_unfolding_all rfl) ?_); intro K hK) | ((first | refine hK _ _ _ ?_ | refine hK _ _ ?_ | refine hK _ ?_); clear hK K) | refine seqVC_nil ?_ | refine parVC_nil ?_ | refine parEVC_nil ?_ | refine genVC_nil ?_ | refine AWP.block ?_ | (refine AWP.cond (by with_unfolding_all rfl) ?_ ?_ <;> intro h <;> (try simp only [zM, zN] at h) <;> try exact absurd h (by decide)) | refine AWP.skip ?_ | refine AWP.ret ?_ | refine AWP.exit ?_ | (refine ⟨fun h => ?_, fun h => ?_⟩ <;> (try simp only [zM, zN] at h) <;> try simp only [h]) | refine ⟨_, refNil_c, ?_⟩ | refine ⟨_, hc, ?_⟩ | refine ⟨_, hc0, ?_⟩) | (refine ⟨1000000, _, _, _, next_k 1000000 s hs 6 (by omega), rfl, ?_⟩) | (refine ⟨1000000, _, _, _, next_k 1000000 _ hs1 2 (by omega), rfl, ?_⟩) | (refine ⟨1000000, _, _, _, H0.k 1000000 _ hs2, rfl, ?_⟩) | (refine ⟨1000000, _, _, _, labels_k 1000000 _ hs3, rfl, ?_⟩) | (refine ⟨1000000, _, _, _, H1.k 1000000 _ (ok_labels hs3), rfl, ?_⟩) | (with_reducible first | (refine AWP.genR (id := 16) [3,6] [1000000,4] mixed (by kernel_rfl) fun K hK => ?_; simp only [Bx.outs, Bx.drop, cond_true, cond_false, Nat.reduceBEq, go_sem]) | refine AWP.parR mixed (by kernel_rfl) fun K hK => ?_ | refine ⟨(by kernel_rfl : depB _ _ _ = true), ?_⟩ | refine Or.inl ?_) | (clear hK K))
      all_goals (first | refine ⟨rfl, fun x hx => ?_⟩ | refine ⟨trivial, fun x hx => ?_⟩ | refine fun x hx => ?_)
      all_goals (simp only [List.mem_singleton] at hx; subst hx; simp [pin])
theorem value_3 (H1 : ValueC f1 (h + 1)) (hf1 : ∀ s : Src, s.ok → (f1 s).2.ok) (hh : h ≤ 1000) : ValK f1 f0 h 3 := by
  intro s hs hk
  have hb : decide (((h + 2 : Nat) : Int) ≤ 1) = false := by simp; omega
  have hs1 := ok_next hs 6
  have hw : IntKind.i64.wrap (((h + 2 : Nat) : Int) - 1) = ((h + 1 : Nat) : Int) := by rw [w64 (by omega)]; omega
  have hv := nextV_in (nextS s 6) (n := 3) (by omega)
  obtain ⟨n, hn⟩ := Int.eq_ofNat_of_zero_le hv.1
  rw [show valueK f1 f0 (decide (0 < h)) 3 (nextS s 6) = (bif decide ((mapV (pairM f1 n (nextS (nextS s 6) 3)).1.1 (pairM f1 n (nextS (nextS s 6) 3)).1.2).2 = 0) then ((mapV (pairM f1 n (nextS (nextS s 6) 3)).1.1 (pairM f1 n (nextS (nextS s 6) 3)).1.2).1, (pairM f1 n (nextS (nextS s 6) 3)).2) else leafV (pairM f1 n (nextS (nextS s 6) 3)).2) from by unfold valueK; rw [hn]; rfl]
  refine PCB.of_body Tryz.func31 rfl (by decide) Tryz.ntmps31 Tryz.results31 rfl rfl rfl ?_ rfl rfl
  repeat' (first | (simp only [go_sem, zA, zB, zC, zD, zE, zF, zG, reduceCtorEq, zH, zI, zJ, zK, zL, pin, hb, hk, hn]; all_goals fail_if_success guard_target =ₛ False) | (with_reducible first | ((first | refine seqVC_stepN rfl ?_ | refine seqVC_stepG rfl (by with_unfolding_all rfl) ?_ | refine AWP.seq ?_ | refine AWP.seqR (by kernel_rfl) ?_ | refine parVC_stepN rfl ?_ | refine parVC_stepG rfl (by with_unfolding_all rfl) ?_ | refine parEVC_stepN rfl ?_ | refine parEVC_stepG rfl (by with_unfolding_all rfl) ?_ | refine genVC_stepN rfl ?_ | refine genVC_stepG rfl (by with_unfolding_all rfl) ?_); intro K hK) | ((first | refine hK _ _ _ ?_ | refine hK _ _ ?_ | refine hK _ ?_); clear hK K) | refine seqVC_nil ?_ | refine parVC_nil ?_ | refine parEVC_nil ?_ | refine genVC_nil ?_ | refine AWP.block ?_ | (refine AWP.cond (by with_unfolding_all rfl) ?_ ?_ <;> intro h <;> (try simp only [zM, zN] at h) <;> try exact absurd h (by decide)) | refine AWP.skip ?_ | refine AWP.ret ?_ | refine AWP.exit ?_ | (refine ⟨fun h => ?_, fun h => ?_⟩ <;> (try simp only [zM, zN] at h) <;> try simp only [h])) | (refine ⟨1000000, _, _, _, next_k 1000000 s hs 6 (by omega), rfl, ?_⟩) | (refine ⟨1000000, _, _, _, next_k 1000000 _ hs1 3 (by omega), rfl, ?_⟩) | (with_reducible first | (refine AWP.segP (id := 16) 6 mixed (by kernel_rfl) fun K hK => ?_; simp only [List.take_succ_cons, List.take_zero, List.drop_succ_cons, List.drop_zero]) | refine AWP.parR mixed (by kernel_rfl) fun K hK => ?_ | refine ⟨(by kernel_rfl : depB _ _ _ = true), ?_⟩ | refine Or.inl ?_) | (clear hK K))
  refine AWP.gh (Gh.nilrow 8 901 rfl rfl rfl rfl) ?_
  refine AWP.gh (Gh.nilrow 9 902 rfl rfl rfl rfl) ?_
  refine AWP.loopF (X := Nat × Src × List KeyD × List Val) (fun x => [(0, Sp 1000000), (8, .one (.own 901 x.2.2.1.length)), (9, .one (.own 902 x.2.2.2.length)), (10, I .i64 x.1)]) (fun x => [(1000000, srcB x.2.1), (901, .row 2 (x.2.2.1.map encKey)), (902, .row 7 (x.2.2.2.map encVal))]) [1, 4] [4] (fun x => x.1 + x.2.2.1.length ≤ 1000 ∧ x.2.2.1.length = x.2.2.2.length ∧ x.2.1.ok ∧ pairM f1 n (nextS (nextS s 6) 3) = ((x.2.2.1 ++ (pairM f1 x.1 x.2.1).1.1, x.2.2.2 ++ (pairM f1 x.1 x.2.1).1.2), (pairM f1 x.1 x.2.1).2)) (fun x => x.1) ((n, nextS (nextS s 6) 3, [], [])) (by simp only [go_sem, zA, zB, zC, zD, zE, zF, zG, reduceCtorEq, zH, zI, zJ, zK, zL]; exact Gh.to [] (by repeat (first | exact trivial | refine ⟨rfl, ?_⟩ | refine ⟨by (simp only [go_sem, zA, zB, zC, zD, zE, zF, zG, reduceCtorEq, zH, zI, zJ, zK, zL, List.length_append, List.length_map, List.length_cons, List.length_nil, Nat.zero_add]) <;> rfl, ?_⟩)) (by repeat (first | exact trivial | refine ⟨rfl, ?_⟩ | refine ⟨by (simp only [go_sem, zA, zB, zC, zD, zE, zF, zG, reduceCtorEq, zH, zI, zJ, zK, zL, List.length_append, List.length_map, List.length_cons, List.length_nil, Nat.zero_add]) <;> rfl, ?_⟩)) rfl rfl rfl) ?_ ?_
  · exact ⟨by simp; omega, rfl, ok_next hs1 3, by simp⟩
  rintro ⟨m, t, ak, av⟩ ⟨hl, hkv, ht, hp⟩
  simp only at hl hkv ht hp
  simp only [go_sem, zA, zB, zC, zD, zE, zF, zG, reduceCtorEq, zH, zI, zJ, zK, zL]
  cases m with
  | succ m =>
    rw [pairM_step] at hp
    have hw2 : IntKind.i64.wrap (((m + 1 : Nat) : Int) - 1) = (m : Int) := wrap_pred_nat (by omega)
    repeat' (first | (simp only [go_sem, zA, zB, zC, zD, zE, zF, zG, reduceCtorEq, zH, zI, zJ, zK, zL, pin, List.length_map, dec_pos, hw, hw2, val_snoc, key_snoc]; all_goals fail_if_success guard_target =ₛ False) | (with_reducible first | ((first | refine seqVC_stepN rfl ?_ | refine seqVC_stepG rfl (by with_unfolding_all rfl) ?_ | refine AWP.seq ?_ | refine AWP.seqR (by kernel_rfl) ?_ | refine parVC_stepN rfl ?_ | refine parVC_stepG rfl (by with_unfolding_all rfl) ?_ | refine parEVC_stepN rfl ?_ | refine parEVC_stepG rfl (by with_unfolding_all rfl) ?_ | refine genVC_stepN rfl ?_ | refine genVC_stepG rfl (by with_unfolding_all rfl) ?_); intro K hK) | ((first | refine hK _ _ _ ?_ | refine hK _ _ ?_ | refine hK _ ?_); clear hK K) | refine seqVC_nil ?_ | refine parVC_nil ?_ | refine parEVC_nil ?_ | refine genVC_nil ?_ | refine AWP.block ?_ | (refine AWP.cond (by with_unfolding_all rfl) ?_ ?_ <;> intro h <;> (try simp only [zM, zN] at h) <;> try exact absurd h (by decide)) | refine AWP.skip ?_ | refine AWP.ret ?_ | refine AWP.exit ?_ | (refine ⟨fun h => ?_, fun h => ?_⟩ <;> (try simp only [zM, zN] at h) <;> try simp only [h]) | (refine ⟨(by first | omega | (simp only [List.length_append, List.length_map, List.length_take, List.length_drop, List.length_cons, List.length_nil, List.length_replicate]; omega) : _ ≤ _), ?_⟩) | refine ⟨by omega, by omega, ?_⟩) | (refine ⟨1000000, _, _, _, key_k 1000000 t ht, rfl, ?_⟩) | (refine ⟨1000000, _, _, _, H1.k 1000000 _ (ok_key ht), rfl, ?_⟩) | (with_reducible first | (refine AWP.segP (id := 16) 6 mixed (by kernel_rfl) fun K hK => ?_; simp only [List.take_succ_cons, List.take_zero, List.drop_succ_cons, List.drop_zero]) | refine AWP.parR mixed (by kernel_rfl) fun K hK => ?_ | refine ⟨(by kernel_rfl : depB _ _ _ = true), ?_⟩ | refine Or.inl ?_) | (clear hK K))
    all_goals (refine ⟨(m, (f1 (keyV t).2).2, ak ++ [(keyV t).1], av ++ [(f1 (keyV t).2).1]), by simp only; omega, ⟨by simp; omega, by simp; omega, hf1 _ (ok_key ht), hp⟩, Gh.to [(901, 78), (902, 85)] (by repeat (first | exact trivial | refine ⟨rfl, ?_⟩ | refine ⟨by (simp only [go_sem, zA, zB, zC, zD, zE, zF, zG, reduceCtorEq, zH, zI, zJ, zK, zL, List.length_append, List.length_map, List.length_cons, List.length_nil, Nat.zero_add]) <;> rfl, ?_⟩)) (by repeat (first | exact trivial | refine ⟨rfl, ?_⟩ | refine ⟨by (simp only [go_sem, zA, zB, zC, zD, zE, zF, zG, reduceCtorEq, zH, zI, zJ, zK, zL, List.length_append, List.length_map, List.length_cons, List.length_nil, Nat.zero_add]) <;> rfl, ?_⟩)) rfl rfl rfl⟩)
  | zero =>
    rw [pairM, List.append_nil, List.append_nil] at hp
    have h0 : decide ((0 : Int) < ((0 : Nat) : Int)) = false := by simp
    have hlen : ak.length ≤ 1000000 := by omega
    cases hm : decide ((mapV ak av).2 = 0)
    all_goals
      repeat' (first | (simp only [go_sem, zA, zB, zC, zD, zE, zF, zG, reduceCtorEq, zH, zI, zJ, zK, zL, pin, h0, hm, List.length_map]; all_goals fail_if_success guard_target =ₛ False) | (with_reducible first | ((first | refine seqVC_stepN rfl ?_ | refine seqVC_stepG rfl (by with_unfolding_all rfl) ?_ | refine AWP.seq ?_ | refine AWP.seqR (by kernel_rfl) ?_ | refine parVC_stepN rfl ?_ | refine parVC_stepG rfl (by with_unfolding_all rfl) ?_ | refine parEVC_stepN rfl ?_ | refine parEVC_stepG rfl (by with_unfolding_all rfl) ?_ | refine genVC_stepN rfl ?_ | refine genVC_stepG rfl (by with_unfolding_all rfl) ?_); intro K hK) | ((first | refine hK _ _ _ ?_ | refine hK _ _ ?_ | refine hK _ ?_); clear hK K) | refine seqVC_nil ?_ | refine parVC_nil ?_ | refine parEVC_nil ?_ | refine genVC_nil ?_ | refine AWP.block ?_ | (refine AWP.cond (by with_unfolding_all rfl) ?_ ?_ <;> intro h <;> (try simp only [zM, zN] at h) <;> try exact absurd h (by decide)) | refine AWP.skip ?_ | refine AWP.ret ?_ | refine AWP.exit ?_ | (refine ⟨fun h => ?_, fun h => ?_⟩ <;> (try simp only [zM, zN] at h) <;> try simp only [h]) | refine ⟨_, refMap_c ak av hlen, ?_⟩) | (refine ⟨1000000, _, _, _, leaf_k 1000000 t ht, rfl, ?_⟩) | (with_reducible first | (refine AWP.segP (id := 16) 6 mixed (by kernel_rfl) fun K hK => ?_; simp only [List.take_succ_cons, List.take_zero, List.drop_succ_cons, List.drop_zero]) | refine AWP.parR mixed (by kernel_rfl) fun K hK => ?_ | refine ⟨(by kernel_rfl : depB _ _ _ = true), ?_⟩ | refine Or.inl ?_) | (clear hK K))
    all_goals (simp only [hp, hm, cond_true, cond_false])
    all_goals (first | refine ⟨rfl, fun x hx => ?_⟩ | refine ⟨trivial, fun x hx => ?_⟩ | refine fun x hx => ?_)
    all_goals (simp only [List.mem_singleton] at hx; subst hx; simp [pin])
theorem ent_snoc (l : List Ent) (x : Ent) : l.map encEnt ++ [encEnt x] = (l ++ [x]).map encEnt := by simp
theorem entry_k (H : ValueC f1 h) (hf : ∀ s : Src, s.ok → (f1 s).2.ok) (n : Nat) (hn : n ≤ 1000) (k : Nat) (s : Src) (hs : s.ok) : PCBk Tryz.prog 57 [Sp k, I .i64 n, I .i64 h] k (srcB s) (.st (encEnt (entryV f1 n s).1)) (srcB (entryV f1 n s).2) := PCBk.mk k (entry_c H hf n hn s hs)
theorem value_4 (H1 : ValueC f1 (h + 1)) (hf1 : ∀ s : Src, s.ok → (f1 s).2.ok) (hh : h ≤ 1000) : ValK f1 f0 h 4 := by
  intro s hs hk
  have hb : decide (((h + 2 : Nat) : Int) ≤ 1) = false := by simp; omega
  have hs1 := ok_next hs 6
  have hw : IntKind.i64.wrap (((h + 2 : Nat) : Int) - 1) = ((h + 1 : Nat) : Int) := by rw [w64 (by omega)]; omega
  have hv := nextV_in (nextS s 6) (n := 3) (by omega)
  have hv2 := nextV_in (nextS (nextS s 6) 3) (n := 3) (by omega)
  obtain ⟨n, hn⟩ := Int.eq_ofNat_of_zero_le hv.1
  obtain ⟨c, hc⟩ := Int.eq_ofNat_of_zero_le hv2.1
  rw [show valueK f1 f0 (decide (0 < h)) 4 (nextS s 6) = (bif decide ((fnV n (listM (entryV f1 n) c (nextS (nextS (nextS s 6) 3) 3)).1).2 = 0) then ((fnV n (listM (entryV f1 n) c (nextS (nextS (nextS s 6) 3) 3)).1).1, (listM (entryV f1 n) c (nextS (nextS (nextS s 6) 3) 3)).2) else leafV (listM (entryV f1 n) c (nextS (nextS (nextS s 6) 3) 3)).2) from by unfold valueK; rw [hn, hc]; rfl]
  have hn3 : n ≤ 1000 := by omega
  refine PCB.of_body Tryz.func31 rfl (by decide) Tryz.ntmps31 Tryz.results31 rfl rfl rfl ?_ rfl rfl
  repeat' (first | (simp only [go_sem, zA, zB, zC, zD, zE, zF, zG, reduceCtorEq, zH, zI, zJ, zK, zL, pin, hb, hk, hn, hc]; all_goals fail_if_success guard_target =ₛ False) | (with_reducible first | ((first | refine seqVC_stepN rfl ?_ | refine seqVC_stepG rfl (by with_unfolding_all rfl) ?_ | refine AWP.seq ?_ | refine AWP.seqR (by kernel_rfl) ?_ | refine parVC_stepN rfl ?_ | refine parVC_stepG rfl (by with_unfolding_all rfl) ?_ | refine parEVC_stepN rfl ?_ | refine parEVC_stepG rfl (by with_unfolding_all rfl) ?_ | refine genVC_stepN rfl ?_ | refine genVC_stepG rfl (by with_unfolding_all rfl) ?_); intro K hK) | ((first | refine hK _ _ _ ?_ | refine hK _ _ ?_ | refine hK _ ?_); clear hK K) | refine seqVC_nil ?_ | refine parVC_nil ?_ | refine parEVC_nil ?_ | refine genVC_nil ?_ | refine AWP.block ?_ | (refine AWP.cond (by with_unfolding_all rfl) ?_ ?_ <;> intro h <;> (try simp only [zM, zN] at h) <;> try exact absurd h (by decide)) | refine AWP.skip ?_ | refine AWP.ret ?_ | refine AWP.exit ?_ | (refine ⟨fun h => ?_, fun h => ?_⟩ <;> (try simp only [zM, zN] at h) <;> try simp only [h])) | (refine ⟨1000000, _, _, _, next_k 1000000 s hs 6 (by omega), rfl, ?_⟩) | (refine ⟨1000000, _, _, _, next_k 1000000 _ hs1 3 (by omega), rfl, ?_⟩) | (refine ⟨1000000, _, _, _, next_k 1000000 _ (ok_next hs1 3) 3 (by omega), rfl, ?_⟩) | (with_reducible first | (refine AWP.segP (id := 16) 6 mixed (by kernel_rfl) fun K hK => ?_; simp only [List.take_succ_cons, List.take_zero, List.drop_succ_cons, List.drop_zero]) | refine AWP.parR mixed (by kernel_rfl) fun K hK => ?_ | refine ⟨(by kernel_rfl : depB _ _ _ = true), ?_⟩ | refine Or.inl ?_) | (clear hK K))
  refine AWP.gh (Gh.nilrow 14 903 rfl rfl rfl rfl) ?_
  refine AWP.loopF (X := Nat × Src × List Ent) (fun x => [(0, Sp 1000000), (14, .one (.own 903 x.2.2.length)), (15, I .i64 x.1)]) (fun x => [(1000000, srcB x.2.1), (903, .row 9 (x.2.2.map encEnt))]) [1, 4, 13] [4] (fun x => x.1 + x.2.2.length ≤ 1000 ∧ x.2.1.ok ∧ listM (entryV f1 n) c (nextS (nextS (nextS s 6) 3) 3) = (x.2.2 ++ (listM (entryV f1 n) x.1 x.2.1).1, (listM (entryV f1 n) x.1 x.2.1).2)) (fun x => x.1) ((c, nextS (nextS (nextS s 6) 3) 3, [])) (by simp only [go_sem, zA, zB, zC, zD, zE, zF, zG, reduceCtorEq, zH, zI, zJ, zK, zL]; exact Gh.to [] (by repeat (first | exact trivial | refine ⟨rfl, ?_⟩ | refine ⟨by (simp only [go_sem, zA, zB, zC, zD, zE, zF, zG, reduceCtorEq, zH, zI, zJ, zK, zL, List.length_append, List.length_map, List.length_cons, List.length_nil, Nat.zero_add]) <;> rfl, ?_⟩)) (by repeat (first | exact trivial | refine ⟨rfl, ?_⟩ | refine ⟨by (simp only [go_sem, zA, zB, zC, zD, zE, zF, zG, reduceCtorEq, zH, zI, zJ, zK, zL, List.length_append, List.length_map, List.length_cons, List.length_nil, Nat.zero_add]) <;> rfl, ?_⟩)) rfl rfl rfl) ?_ ?_
  · exact ⟨by simp; omega, ok_next (ok_next hs1 3) 3, by simp⟩
  rintro ⟨m, t, acc⟩ ⟨hl, ht, hp⟩
  simp only at hl ht hp
  simp only [go_sem, zA, zB, zC, zD, zE, zF, zG, reduceCtorEq, zH, zI, zJ, zK, zL]
  cases m with
  | succ m =>
    rw [listM_step] at hp
    have hw2 : IntKind.i64.wrap (((m + 1 : Nat) : Int) - 1) = (m : Int) := wrap_pred_nat (by omega)
    repeat' (first | (simp only [go_sem, zA, zB, zC, zD, zE, zF, zG, reduceCtorEq, zH, zI, zJ, zK, zL, pin, List.length_map, dec_pos, hw, hw2, ent_snoc]; all_goals fail_if_success guard_target =ₛ False) | (with_reducible first | ((first | refine seqVC_stepN rfl ?_ | refine seqVC_stepG rfl (by with_unfolding_all rfl) ?_ | refine AWP.seq ?_ | refine AWP.seqR (by kernel_rfl) ?_ | refine parVC_stepN rfl ?_ | refine parVC_stepG rfl (by with_unfolding_all rfl) ?_ | refine parEVC_stepN rfl ?_ | refine parEVC_stepG rfl (by with_unfolding_all rfl) ?_ | refine genVC_stepN rfl ?_ | refine genVC_stepG rfl (by with_unfolding_all rfl) ?_); intro K hK) | ((first | refine hK _ _ _ ?_ | refine hK _ _ ?_ | refine hK _ ?_); clear hK K) | refine seqVC_nil ?_ | refine parVC_nil ?_ | refine parEVC_nil ?_ | refine genVC_nil ?_ | refine AWP.block ?_ | (refine AWP.cond (by with_unfolding_all rfl) ?_ ?_ <;> intro h <;> (try simp only [zM, zN] at h) <;> try exact absurd h (by decide)) | refine AWP.skip ?_ | refine AWP.ret ?_ | refine AWP.exit ?_ | (refine ⟨fun h => ?_, fun h => ?_⟩ <;> (try simp only [zM, zN] at h) <;> try simp only [h]) | (refine ⟨(by first | omega | (simp only [List.length_append, List.length_map, List.length_take, List.length_drop, List.length_cons, List.length_nil, List.length_replicate]; omega) : _ ≤ _), ?_⟩) | refine ⟨by omega, by omega, ?_⟩) | (refine ⟨1000000, _, _, _, entry_k H1 hf1 n hn3 1000000 t ht, rfl, ?_⟩) | (with_reducible first | (refine AWP.segP (id := 16) 6 mixed (by kernel_rfl) fun K hK => ?_; simp only [List.take_succ_cons, List.take_zero, List.drop_succ_cons, List.drop_zero]) | refine AWP.parR mixed (by kernel_rfl) fun K hK => ?_ | refine ⟨(by kernel_rfl : depB _ _ _ = true), ?_⟩ | refine Or.inl ?_) | (clear hK K))
    all_goals (refine ⟨(m, (entryV f1 n t).2, acc ++ [(entryV f1 n t).1]), by simp only; omega, ⟨by simp; omega, entry_ok hf1 n ht, hp⟩, Gh.to [(903, 112)] (by repeat (first | exact trivial | refine ⟨rfl, ?_⟩ | refine ⟨by (simp only [go_sem, zA, zB, zC, zD, zE, zF, zG, reduceCtorEq, zH, zI, zJ, zK, zL, List.length_append, List.length_map, List.length_cons, List.length_nil, Nat.zero_add]) <;> rfl, ?_⟩)) (by repeat (first | exact trivial | refine ⟨rfl, ?_⟩ | refine ⟨by (simp only [go_sem, zA, zB, zC, zD, zE, zF, zG, reduceCtorEq, zH, zI, zJ, zK, zL, List.length_append, List.length_map, List.length_cons, List.length_nil, Nat.zero_add]) <;> rfl, ?_⟩)) rfl rfl rfl⟩)
  | zero =>
    rw [listM, List.append_nil] at hp
    have h0 : decide ((0 : Int) < ((0 : Nat) : Int)) = false := by simp
    have hlen : acc.length ≤ 1000000 := by omega
    cases hm : decide ((fnV n acc).2 = 0)
    all_goals
      repeat' (first | (simp only [go_sem, zA, zB, zC, zD, zE, zF, zG, reduceCtorEq, zH, zI, zJ, zK, zL, pin, h0, hm, List.length_map]; all_goals fail_if_success guard_target =ₛ False) | (with_reducible first | ((first | refine seqVC_stepN rfl ?_ | refine seqVC_stepG rfl (by with_unfolding_all rfl) ?_ | refine AWP.seq ?_ | refine AWP.seqR (by kernel_rfl) ?_ | refine parVC_stepN rfl ?_ | refine parVC_stepG rfl (by with_unfolding_all rfl) ?_ | refine parEVC_stepN rfl ?_ | refine parEVC_stepG rfl (by with_unfolding_all rfl) ?_ | refine genVC_stepN rfl ?_ | refine genVC_stepG rfl (by with_unfolding_all rfl) ?_); intro K hK) | ((first | refine hK _ _ _ ?_ | refine hK _ _ ?_ | refine hK _ ?_); clear hK K) | refine seqVC_nil ?_ | refine parVC_nil ?_ | refine parEVC_nil ?_ | refine genVC_nil ?_ | refine AWP.block ?_ | (refine AWP.cond (by with_unfolding_all rfl) ?_ ?_ <;> intro h <;> (try simp only [zM, zN] at h) <;> try exact absurd h (by decide)) | refine AWP.skip ?_ | refine AWP.ret ?_ | refine AWP.exit ?_ | (refine ⟨fun h => ?_, fun h => ?_⟩ <;> (try simp only [zM, zN] at h) <;> try simp only [h]) | refine ⟨_, refFunction_c n acc hlen, ?_⟩) | (refine ⟨1000000, _, _, _, leaf_k 1000000 t ht, rfl, ?_⟩) | (with_reducible first | (refine AWP.segP (id := 16) 6 mixed (by kernel_rfl) fun K hK => ?_; simp only [List.take_succ_cons, List.take_zero, List.drop_succ_cons, List.drop_zero]) | refine AWP.parR mixed (by kernel_rfl) fun K hK => ?_ | refine ⟨(by kernel_rfl : depB _ _ _ = true), ?_⟩ | refine Or.inl ?_) | (clear hK K))
    all_goals (simp only [hp, hm, cond_true, cond_false])
    all_goals (first | refine ⟨rfl, fun x hx => ?_⟩ | refine ⟨trivial, fun x hx => ?_⟩ | refine fun x hx => ?_)
    all_goals (simp only [List.mem_singleton] at hx; subst hx; simp [pin])
theorem value_K (H1 : ValueC f1 (h + 1)) (H0 : ValueC f0 h) (hf1 : ∀ s : Src, s.ok → (f1 s).2.ok) (hf0 : ∀ s : Src, s.ok → (f0 s).2.ok) (hh : h ≤ 1000) : ValC (fun s => valueK f1 f0 (decide (0 < h)) (nextV s 6) (nextS s 6)) (h + 2) := by
  intro s hs
  have hv := nextV_in s (n := 6) (by omega)
  have hk : nextV s 6 = 0 ∨ nextV s 6 = 1 ∨ nextV s 6 = 2 ∨ nextV s 6 = 3 ∨ nextV s 6 = 4 ∨ nextV s 6 = 5 := by omega
  simp only
  rcases hk with hk | hk | hk | hk | hk | hk <;> rw [hk]
  · exact value_5 0 (.inl rfl) hh s hs hk
  · exact value_1 H1 hf1 hh s hs hk
  · exact value_2 H1 H0 hf1 hf0 hh s hs hk
  · exact value_3 H1 hf1 hh s hs hk
  · exact value_4 H1 hf1 hh s hs hk
  · exact value_5 5 (.inr rfl) hh s hs hk
theorem value_c : ∀ h : Nat, h ≤ 1000 → ValC (valueF h) h
  | 0, _ => value_leaf 0 (by omega)
  | 1, _ => value_leaf 1 (by omega)
  | h + 2, hh => value_K (full_c (value_c (h + 1) (by omega)) (ok_value (h + 1))) (full_c (value_c h (by omega)) (ok_value h)) (fun s hs => ok_full (h + 1) s hs) (fun s hs => ok_full h s hs) (by omega)
/-- the contract of Value -/
theorem sourceValue_c (h : Nat) (hh : h ≤ 1000) : ValueC (fullV h) h := full_c (value_c h hh) (ok_value h)
end Go.Proofs.YteobojeemflggaaGreat
set_option linter.unusedVariables false
set_option linter.unusedSimpArgs false
namespace Go.Sx
variable {P : Program} {n : Nat} {σ : AS} {Q : Exit → AS → Prop}
def lastVC (P : Program) : List Oper → Env → Bx → (Env → Bx → Prop) → Prop
  | [o], env, B, K => (match o.op with
    | .store t x y => vStore P t (ev P env 0 x) (ev P env t y) B (fun B' => K (putE env o.dst undefT) B')
    | _ => False)
  | _, _, _, _ => False
attribute [go_sem] lastVC
end Go.Sx
namespace Go.Proofs.YteobojeemflggaaGreat
open Go Go.Sx
abbrev In64 (a : Int) : Prop := -9223372036854775808 ≤ a ∧ a ≤ 9223372036854775807
theorem wrap64 (x : Int) : ∃ k : Int, IntKind.i64.wrap x = x + k * 18446744073709551616 ∧ In64 (IntKind.i64.wrap x) := by
  have h : IntKind.i64.wrap x = Int.bmod x 18446744073709551616 := by
    unfold IntKind.wrap
    simp [IntKind.signed, IntKind.bits]
    rw [Int.bmod_def]
    split <;> split <;> omega
  rw [h]
  refine ⟨-((x + 9223372036854775808) / 18446744073709551616), ?_, ?_⟩
  · rw [Int.bmod_def]; split <;> omega
  · rw [Int.bmod_def]; split <;> (constructor <;> omega)
theorem wrap_mod (x : Int) (a k : Int) (h : In64 a) (hx : x = a + k * 18446744073709551616) : IntKind.i64.wrap x = a := by
  obtain ⟨j, h1, h2⟩ := wrap64 x
  omega
theorem back (a b : Int) (ha : In64 a) : IntKind.i64.wrap (IntKind.i64.wrap (a.tdiv b * b) + a.tmod b) = a := by
  obtain ⟨j, h1, h2⟩ := wrap64 (a.tdiv b * b)
  refine wrap_mod _ a j ha ?_
  have := Int.mul_tdiv_add_tmod a b
  rw [Int.mul_comm] at this
  omega
theorem bound (a b : Int) (h0 : b ≠ 0) : a.tmod b < (if b < 0 then -b else b) ∧ -(if b < 0 then -b else b) < a.tmod b := by
  have h := Int.natAbs_tmod a b
  have : (a.tmod b).natAbs < b.natAbs := by
    rw [h]; exact Nat.mod_lt _ (by omega)
  split <;> omega
end Go.Proofs.YteobojeemflggaaGreat

set_option linter.unusedSimpArgs false
set_option linter.unusedVariables false
set_option maxRecDepth 20000
namespace Go.Proofs.YteobojeemflggaaGreat
open Go Go.Sx
/-- what a datum without code shows -/
def Bare (d : Dat) : Prop := d.mod = [] ∧ d.version = 0 ∧ d.routine = 0 ∧ d.wrapped = false ∧ d.nodes = [] ∧ d.root = 0 ∧ d.inner = [] ∧ d.outer = []
inductive Good : Dat → Prop
  | mk (d : Dat) (hn : In64 d.num) (h1 : d.kids.length ≤ 1000) (h2 : d.keys.length ≤ 1000) (hf : d.kind ≠ 9 → Bare d) (hk : ∀ k ∈ d.kids, Good k) : Good d
theorem Good.num {d : Dat} (h : Good d) : In64 d.num := by cases h; assumption
theorem Good.kids {d : Dat} (h : Good d) : d.kids.length ≤ 1000 := by cases h; assumption
theorem Good.keys {d : Dat} (h : Good d) : d.keys.length ≤ 1000 := by cases h; assumption
theorem Good.kid {d : Dat} (h : Good d) : ∀ k ∈ d.kids, Good k := by cases h; assumption
structure GoodA (n : Nat) (a : PutA) : Prop where
  k : a.keys.length ≤ n
  d : a.kids.length ≤ n
  g : ∀ d ∈ a.kids, Good d
theorem GoodA.le {n m : Nat} {a : PutA} (h : GoodA n a) (hm : n ≤ m) : GoodA m a := ⟨by have := h.k; omega, by have := h.d; omega, h.g⟩
end Go.Proofs.YteobojeemflggaaGreat

set_option linter.unusedSimpArgs false
set_option linter.unusedVariables false
set_option maxRecDepth 20000
set_option maxHeartbeats 1000000
namespace Go.Proofs.YteobojeemflggaaGreat
open Go Go.Sx
open Nat renaming reduceBEq → zA, reduceBNe → zB, reduceAdd → zC, reduceSub → zD, reduceMul → zE, reduceLeDiff → zF, reduceLT → zG, reduceEqDiff → zH
open Int renaming reduceToNat → zI, reduceLE → zJ, reduceLT → zK, reduceEq → zL
open Bool renaming not_eq_true' → zM, not_eq_false' → zN
theorem bulkEs_append : ∀ a b : List Ent, bulkEs (a ++ b) = bulkEs a + bulkEs b
  | [], b => by simp [bulkEs]
  | v :: a, b => by simp only [List.cons_append, bulkEs, bulkEs_append a b]; omega
theorem bulkVs_put (k : Nat) (v : Val) (l : List Val) : bulkVs (putAt k v l) = bulkVs l + bulkV v := by
  have h := bulkVs_append (l.take k) (l.drop k)
  rw [List.take_append_drop] at h
  unfold putAt
  simp only [bulkVs_append, bulkVs]
  omega
theorem bulkEs_put (k : Nat) (v : Ent) (l : List Ent) : bulkEs (putAt k v l) = bulkEs l + bulkE v := by
  have h := bulkEs_append (l.take k) (l.drop k)
  rw [List.take_append_drop] at h
  unfold putAt
  simp only [bulkEs_append, bulkEs]
  omega
theorem bulkVs_le {B : Nat} : ∀ {l : List Val}, (∀ x ∈ l, bulkV x ≤ B) → bulkVs l ≤ l.length * B
  | [], _ => by simp [bulkVs]
  | x :: l, h => by
    have h1 := h x (by simp)
    have h2 := bulkVs_le (B := B) (fun y hy => h y (List.mem_cons_of_mem _ hy))
    simp only [bulkVs, List.length_cons, Nat.add_mul]
    omega
theorem bulkEs_le {B : Nat} : ∀ {l : List Ent}, (∀ x ∈ l, bulkE x ≤ B) → bulkEs l ≤ l.length * B
  | [], _ => by simp [bulkEs]
  | x :: l, h => by
    have h1 := h x (by simp)
    have h2 := bulkEs_le (B := B) (fun y hy => h y (List.mem_cons_of_mem _ hy))
    simp only [bulkEs, List.length_cons, Nat.add_mul]
    omega
theorem sorted_len (l : List (List UInt8)) : (sortedV l).length ≤ l.length := by
  have h : ∀ (l acc : List (List UInt8)), (l.foldl insS acc).length ≤ acc.length + l.length := by
    intro l
    induction l with
    | nil => intro acc; simp
    | cons x l ih =>
      intro acc
      have h1 := ih (insS acc x)
      have h2 := insS_len acc x
      simp only [List.foldl_cons, List.length_cons]
      omega
  have := h l []
  simpa [sortedV] using this
theorem labels_len (s : Src) : (labelsV s).1.length ≤ 2 := by
  unfold labelsV
  cases decide (nextV s 3 = 1) <;> simp only [cond_true, cond_false]
  · simp
  · cases decide (nextV (nextS (nextS s 3) 3) 2 = 1) <;> simp only [cond_true, cond_false]
    · have := sorted_len [labelV (nextS s 3)]; simp at this; omega
    · have := sorted_len [labelV (nextS s 3), labelV (nextS (nextS (nextS s 3) 3) 2)]; simp at this; omega
theorem bulk_lab (r : Val × Src) : bulkV (lab r).1 ≤ bulkV r.1 + 2 := by
  have := labels_len r.2
  rw [bulkV_eq, bulkV_eq r.1]
  simp only [lab]
  omega
theorem bulk_zero : bulkV zeroVal = 1 := by rw [bulkV_eq]; simp [zeroVal, bulkVs, bulkEs]
theorem bulk_leafK (k : Int) (s : Src) : bulkV (leafK k s).1 ≤ 1 := by
  unfold leafK
  cases decide (k = 0) <;> cases decide (k = 1) <;> cases decide (k = 2) <;> cases decide (k = 3) <;> cases decide (k = 4) <;>
    (simp only [cond_true, cond_false]; rw [bulkV_eq]; simp [intVal, atomVal, strVal, pidVal, nilVal, tupVal, bulkVs, bulkEs])
theorem bulk_mapGo : ∀ (r : List (KeyD × Val)) (ks : List KeyD) (vs : List Val), bulkV (mapGo r ks vs).1 ≤ 1 + bulkVs vs + ks.length + bulkVs (r.map (·.2)) + r.length
  | [], ks, vs => by rw [mapGo, bulkV_eq]; simp [mapVal, bulkVs, bulkEs]
  | (x, v) :: r, ks, vs => by
    rw [mapGo]
    cases decide (ks[kPos ks x]? = some x) <;> simp only [cond_true, cond_false]
    · have := bulk_mapGo r (putAt (kPos ks x) x ks) (putAt (kPos ks x) v vs)
      rw [bulkVs_put, putAt_len] at this
      simp only [List.map_cons, bulkVs, List.length_cons]
      omega
    · rw [bulk_zero]; omega
theorem bulk_mapV (ks : List KeyD) (l : List Val) : bulkV (mapV ks l).1 ≤ 1 + bulkVs l + l.length := by
  unfold mapV
  cases hl : decide ((ks.length : Int) = (l.length : Int)) <;> simp only [cond_true, cond_false]
  · rw [bulk_zero]; omega
  · have hl2 : ks.length = l.length := by have := of_decide_eq_true hl; omega
    cases ks.all validKeyB <;> simp only [cond_true, cond_false]
    · rw [bulk_zero]; omega
    · have := bulk_mapGo (ks.zip l) [] []
      have e : (ks.zip l).map (·.2) = l := by rw [List.map_snd_zip]; omega
      rw [e] at this
      simp only [bulkVs, List.length_nil, List.length_zip] at this
      omega
theorem bulk_entries (l : List Ent) : bulkEs (entriesV l) ≤ bulkEs l := by
  have h : ∀ (l acc : List Ent), bulkEs (l.foldl insE acc) ≤ bulkEs acc + bulkEs l := by
    intro l
    induction l with
    | nil => intro acc; simp [bulkEs]
    | cons x l ih =>
      intro acc
      have h1 := ih (insE acc x)
      have h2 : bulkEs (insE acc x) ≤ bulkEs acc + bulkE x := by
        unfold insE
        generalize eqAtE _ _ _ = b
        cases b <;> simp only [cond_true, cond_false]
        · rw [bulkEs_put]; omega
        · omega
      simp only [List.foldl_cons, bulkEs]
      omega
  have := h l []
  simpa [entriesV, bulkEs] using this
theorem bulk_fnV (n : Int) (l : List Ent) : bulkV (fnV n l).1 ≤ 1 + bulkEs l := by
  unfold fnV
  have := bulk_entries l
  generalize (decide (n < 0) || decide (4 < n)) = b
  cases b <;> simp only [cond_true, cond_false]
  · generalize (l.all fun e => entB e n) = c
    cases c <;> simp only [cond_true, cond_false]
    · rw [bulk_zero]; omega
    · rw [bulkV_eq]; simp only [funVal, bulkVs, List.length_nil]; omega
  · rw [bulk_zero]; omega
theorem listM_bulk {f : Src → Val × Src} {B : Nat} (hf : ∀ s : Src, bulkV (f s).1 ≤ B) (n : Nat) (s : Src) : bulkVs (listM f n s).1 ≤ n * B := by
  have h := bulkVs_le (l := (listM f n s).1) (fun x hx => listM_mem (p := fun v => bulkV v ≤ B) hf n s x hx)
  rwa [listM_len] at h
theorem pairM_mem {f : Src → Val × Src} {p : Val → Prop} (hf : ∀ s : Src, p (f s).1) : ∀ (n : Nat) (s : Src), ∀ x ∈ (pairM f n s).1.2, p x
  | 0, s, x, h => by simp [pairM] at h
  | n + 1, s, x, h => by
    simp only [pairM, List.mem_cons] at h
    rcases h with rfl | h
    · exact hf _
    · exact pairM_mem hf n _ x h
theorem pairM_bulk {f : Src → Val × Src} {B : Nat} (hf : ∀ s : Src, bulkV (f s).1 ≤ B) (n : Nat) (s : Src) : bulkVs (pairM f n s).1.2 ≤ n * B := by
  have h := bulkVs_le (l := (pairM f n s).1.2) (fun x hx => pairM_mem (p := fun v => bulkV v ≤ B) hf n s x hx)
  rwa [(pairM_len f n s).2] at h
theorem entry_bulk {f : Src → Val × Src} {B : Nat} (hB : 1 ≤ B) (hf : ∀ s : Src, bulkV (f s).1 ≤ B) (n : Nat) (s : Src) : bulkE (entryV f n s).1 ≤ 1 + n * B + B := by
  have h := listM_bulk hf n s
  unfold entryV
  cases decide (nextV (listM f n s).2 4 = 1) <;> simp only [cond_true, cond_false] <;> rw [bulkE_eq]
  · have := hf (nextS (listM f n s).2 4); simp only; omega
  · simp only; rw [bulk_zero]; omega
theorem tail_bulk {f0 : Src → Val × Src} {B : Nat} (hf : ∀ s : Src, bulkV (f0 s).1 ≤ B) (big : Bool) (s : Src) : bulkV (tailV f0 big s).1 ≤ B + 2 := by
  have hn : bulkV nilVal = 1 := by rw [bulkV_eq]; simp [nilVal, bulkVs, bulkEs]
  unfold tailV
  cases big <;> cases decide (nextV s 2 = 1) <;> simp only [cond_true, cond_false]
  · omega
  · omega
  · omega
  · have := hf (nextS s 2)
    rw [bulkV_eq]; simp only [consVal, bulkVs, bulkEs, List.length_nil, hn]; omega
theorem bulk_valueK {f1 f0 : Src → Val × Src} {B1 B0 : Nat} (h1B : 1 ≤ B1) (h1 : ∀ s : Src, bulkV (f1 s).1 ≤ B1) (h0 : ∀ s : Src, bulkV (f0 s).1 ≤ B0) (big : Bool) (k : Int) (s : Src) : bulkV (valueK f1 f0 big k s).1 ≤ 8 * B1 + 8 * B0 + 20 := by
  have v4 := nextV_in s (n := 4) (by omega)
  have v3 := nextV_in s (n := 3) (by omega)
  have v33 := nextV_in (nextS s 3) (n := 3) (by omega)
  have hleaf : ∀ t, bulkV (leafV t).1 ≤ 1 := fun t => bulk_leafK _ _
  have m4 : ∀ m : Nat, m ≤ 3 → m * B1 ≤ 3 * B1 := fun m hm => Nat.mul_le_mul_right _ hm
  unfold valueK
  cases decide (k = 1) <;> simp only [cond_true, cond_false]
  · cases decide (k = 2) <;> simp only [cond_true, cond_false]
    · cases decide (k = 3) <;> simp only [cond_true, cond_false]
      · cases decide (k = 4) <;> simp only [cond_true, cond_false]
        · have := hleaf s; omega
        · generalize hn : (nextV s 3).toNat = n
          generalize hc : (nextV (nextS s 3) 3).toNat = c
          have hE : bulkEs (listM (entryV f1 n) c (nextS (nextS s 3) 3)).1 ≤ 2 * (1 + 3 * B1) := by
            have hb := bulkEs_le (l := (listM (entryV f1 n) c (nextS (nextS s 3) 3)).1) (B := 1 + 3 * B1) (fun x hx => listM_mem (p := fun e => bulkE e ≤ 1 + 3 * B1) (fun t => by
              have := entry_bulk h1B h1 n t
              have := Nat.mul_le_mul_right B1 (show n ≤ 2 by omega)
              omega) c _ x hx)
            rw [listM_len] at hb
            exact Nat.le_trans hb (Nat.mul_le_mul_right _ (by omega))
          have hF := bulk_fnV (nextV s 3) (listM (entryV f1 n) c (nextS (nextS s 3) 3)).1
          generalize decide ((fnV _ _).2 = 0) = b
          cases b <;> simp only [cond_true, cond_false]
          · have := hleaf (listM (entryV f1 n) c (nextS (nextS s 3) 3)).2; omega
          · omega
      · generalize hn : (nextV s 3).toNat = n
        have hP := pairM_bulk h1 n (nextS s 3)
        have hPl := pairM_len f1 n (nextS s 3)
        have hM := bulk_mapV (pairM f1 n (nextS s 3)).1.1 (pairM f1 n (nextS s 3)).1.2
        have := m4 n (by omega)
        generalize decide ((mapV _ _).2 = 0) = b
        cases b <;> simp only [cond_true, cond_false]
        · have := hleaf (pairM f1 n (nextS s 3)).2; omega
        · omega
    · have ht := tail_bulk h0 big s
      have hl := bulk_lab (tailV f0 big s)
      have hh := h1 (lab (tailV f0 big s)).2
      rw [bulkV_eq]; simp only [consVal, bulkVs, bulkEs, List.length_nil]
      omega
  · generalize hn : (nextV s 4).toNat = n
    have hP := listM_bulk h1 n (nextS s 4)
    have := m4 n (by omega)
    rw [bulkV_eq]; simp only [tupVal, bulkEs, List.length_nil]
    omega
def bnd : Nat → Nat
  | 0 => 1
  | 1 => 1
  | h + 2 => 8 * (bnd (h + 1) + 2) + 8 * (bnd h + 2) + 20
theorem bulk_valueF : ∀ (h : Nat) (s : Src), bulkV (valueF h s).1 ≤ bnd h
  | 0, s => bulk_leafK _ _
  | 1, s => bulk_leafK _ _
  | h + 2, s => bulk_valueK (by omega) (fun s => Nat.le_trans (bulk_lab _) (by have := bulk_valueF (h + 1) s; omega)) (fun s => Nat.le_trans (bulk_lab _) (by have := bulk_valueF h s; omega)) _ _ _
theorem bulk_full (h : Nat) (s : Src) : bulkV (fullV h s).1 ≤ bnd h + 2 := by
  have h1 := bulk_lab (valueF h s)
  have h2 := bulk_valueF h s
  unfold fullV
  omega
end Go.Proofs.YteobojeemflggaaGreat
set_option linter.unusedSimpArgs false
set_option linter.unusedVariables false
set_option maxRecDepth 20000
set_option maxHeartbeats 4000000
namespace Go.Proofs.YteobojeemflggaaGreat
open Go Go.Sx
open Nat renaming reduceBEq → zA, reduceBNe → zB, reduceAdd → zC, reduceSub → zD, reduceMul → zE, reduceLeDiff → zF, reduceLT → zG, reduceEqDiff → zH
open Int renaming reduceToNat → zI, reduceLE → zJ, reduceLT → zK, reduceEq → zL
open Bool renaming not_eq_true' → zM, not_eq_false' → zN
theorem cells_key {n : Nat} {row : List C} (h : hasT Tryz.prog n 33 row) : ∃ k : KeyD, row = encKey k := by
  obtain ⟨m, parts, rfl, rfl, hl, hf⟩ := cells_st Tryz.underlying33 h
  match parts, hl with
  | [p0, p1], _ =>
    obtain ⟨a, rfl⟩ := cells_i64 Tryz.underlying3 (hf 0 _ p0 rfl rfl)
    obtain ⟨b, rfl⟩ := cells_text Tryz.underlying9 (hf 1 _ p1 rfl rfl)
    exact ⟨⟨a, b⟩, rfl⟩
theorem cells_val : ∀ (n : Nat) (row : List C), hasT Tryz.prog n 31 row → ∃ v : Val, row = encVal v := by
  intro n
  induction n using Nat.strongRecOn with
  | _ n ih =>
    intro row h
    obtain ⟨m, parts, rfl, rfl, hl, hf⟩ := cells_st Tryz.underlying31 h
    match parts, hl with
    | [p0, p1, p2, p3, p4, p5, p6], _ =>
      obtain ⟨a0, rfl⟩ := cells_i64 Tryz.underlying3 (hf 0 _ p0 rfl rfl)
      obtain ⟨a1, rfl⟩ := cells_i64 Tryz.underlying2 (hf 1 _ p1 rfl rfl)
      obtain ⟨a2, rfl⟩ := cells_text Tryz.underlying9 (hf 2 _ p2 rfl rfl)
      obtain ⟨a3, rfl⟩ := cells_row (enc := encVal) (sz := 7) Tryz.underlying24 (by kernel_rfl) (fun r hr => ih (m - 1) (by omega) r hr) (hf 3 _ p3 rfl rfl)
      obtain ⟨a4, rfl⟩ := cells_row (enc := encKey) (sz := 2) Tryz.underlying28 (by kernel_rfl) (fun r hr => cells_key hr) (hf 4 _ p4 rfl rfl)
      obtain ⟨a5, rfl⟩ := cells_row (enc := encEnt) (sz := 9) Tryz.underlying29 (by kernel_rfl) (fun r hr => by
        obtain ⟨m', parts, hm', rfl, hl, hf⟩ := cells_st Tryz.underlying64 hr
        match parts, hl with
        | [q0, q1, q2], _ =>
          obtain ⟨b0, rfl⟩ := cells_row (enc := encVal) (sz := 7) Tryz.underlying24 (by kernel_rfl) (fun r hr => ih (m' - 1) (by omega) r hr) (hf 0 _ q0 rfl rfl)
          obtain ⟨b1, rfl⟩ := cells_bool Tryz.underlying4 (hf 1 _ q1 rfl rfl)
          obtain ⟨b2, rfl⟩ := ih m' (by omega) q2 (hf 2 _ q2 rfl rfl)
          exact ⟨(b0, b1, b2), by simp [encEnt_eq, encVal_eq b2]⟩) (hf 5 _ p5 rfl rfl)
      obtain ⟨a6, rfl⟩ := cells_row (enc := encStr) (sz := 1) Tryz.underlying23 (by kernel_rfl) (fun r hr => cells_text Tryz.underlying9 hr) (hf 6 _ p6 rfl rfl)
      exact ⟨⟨a0, a1, a2, a3, a4, a5, a6⟩, by rw [encVal_eq]; rfl⟩
theorem cbRs_len {α : Type} (f : α → List C) (l : List α) (h : ∀ x ∈ l, 1 ≤ cbL (f x)) : l.length ≤ cbRs (l.map f) := by
  induction l with
  | nil => simp
  | cons x l ih => have := h x (by simp); have := ih (fun y hy => h y (by simp [hy])); simp only [List.map_cons, cbRs, List.length_cons]; omega
mutual
theorem bulk_le : ∀ v : Val, bulkV v ≤ cbL (encVal v)
  | ⟨kind, num, text, kids, keys, ents, labels⟩ => by
    have h1 := bulks_le kids
    have h2 := bulkE_le ents
    have h3 := cbRs_len encKey keys (fun k _ => by simp only [encKey, cbL, cbC]; omega)
    have h4 := cbRs_len encStr labels (fun k _ => by simp only [encStr, cbL, cbC]; omega)
    simp only [bulkV, encVal, cbL, cbC]; omega
theorem bulks_le : ∀ l : List Val, bulkVs l ≤ cbRs (encVals l)
  | [] => by simp [bulkVs]
  | v :: l => by have h1 := bulk_le v; have h2 := bulks_le l; simp only [bulkVs, encVals, cbRs]; omega
theorem bulk1_le : ∀ e : List Val × Bool × Val, bulkE e ≤ cbL (encEnt e)
  | (a, f, r) => by
    have h1 := bulks_le a
    have h2 := bulk_le r
    simp only [bulkE, encEnt, cbL, cbC]; omega
theorem bulkE_le : ∀ l : List (List Val × Bool × Val), bulkEs l ≤ cbRs (encEnts l)
  | [] => by simp [bulkEs]
  | e :: l => by
    have h1 := bulk1_le e; have h2 := bulkE_le l
    simp only [bulkEs, encEnts, cbRs]; omega
end
mutual
def cntV : Val → Nat
  | ⟨_, _, _, kids, _, ents, _⟩ => 1 + cntVs kids + cntEs ents
def cntVs : List Val → Nat
  | [] => 0
  | v :: l => cntV v + cntVs l
def cntE : List Val × Bool × Val → Nat
  | (a, f, r) => cntVs a + bif f then 0 else cntV r
def cntEs : List (List Val × Bool × Val) → Nat
  | [] => 0
  | e :: l => cntE e + cntEs l
end
theorem cntV_eq (v : Val) : cntV v = 1 + cntVs v.kids + cntEs v.ents := by cases v; simp only [cntV]
theorem cntE_eq (e : List Val × Bool × Val) : cntE e = cntVs e.1 + bif e.2.1 then 0 else cntV e.2.2 := by obtain ⟨a, f, r⟩ := e; simp only [cntE]
mutual
theorem cnt_bulk : ∀ v : Val, cntV v ≤ bulkV v
  | ⟨_, _, _, kids, keys, ents, labels⟩ => by
    have h1 := cnts_bulk kids; have h2 := cntEs_bulk ents
    simp only [cntV, bulkV]; omega
theorem cnts_bulk : ∀ l : List Val, cntVs l ≤ bulkVs l
  | [] => by simp [cntVs]
  | v :: l => by have h1 := cnt_bulk v; have h2 := cnts_bulk l; simp only [cntVs, bulkVs]; omega
theorem cntE_bulk : ∀ e : List Val × Bool × Val, cntE e ≤ bulkE e
  | (a, f, r) => by
    have h1 := cnts_bulk a; have h2 := cnt_bulk r
    simp only [cntE, bulkE]; cases f <;> simp only [cond_true, cond_false] <;> omega
theorem cntEs_bulk : ∀ l : List (List Val × Bool × Val), cntEs l ≤ bulkEs l
  | [] => by simp [cntEs]
  | e :: l => by have h1 := cntE_bulk e; have h2 := cntEs_bulk l; simp only [cntEs, bulkEs]; omega
end
theorem cntVs_take {l : List Val} {k : Nat} {x : Val} (hx : l[k]? = some x) : cntVs (l.take (k + 1)) = cntVs (l.take k) + cntV x := by
  induction l generalizing k with
  | nil => simp at hx
  | cons y l ih =>
    cases k with
    | zero => simp at hx; subst hx; simp [cntVs]
    | succ k => have := ih (k := k) (by simpa using hx); simp only [List.take_succ_cons, cntVs, this]; omega
theorem cntEs_take {l : List (List Val × Bool × Val)} {k : Nat} {x : List Val × Bool × Val} (hx : l[k]? = some x) : cntEs (l.take (k + 1)) = cntEs (l.take k) + cntE x := by
  induction l generalizing k with
  | nil => simp at hx
  | cons y l ih =>
    cases k with
    | zero => simp at hx; subst hx; simp [cntEs]
    | succ k => have := ih (k := k) (by simpa using hx); simp only [List.take_succ_cons, cntEs, this]; omega
theorem cntVs_le (l : List Val) (k : Nat) : cntVs (l.take k) ≤ cntVs l := by
  induction l generalizing k with
  | nil => simp
  | cons y l ih => cases k with
    | zero => simp [cntVs]
    | succ k => have := ih k; simp only [List.take_succ_cons, cntVs]; omega
theorem cntEs_le (l : List (List Val × Bool × Val)) (k : Nat) : cntEs (l.take k) ≤ cntEs l := by
  induction l generalizing k with
  | nil => simp
  | cons y l ih => cases k with
    | zero => simp [cntEs]
    | succ k => have := ih k; simp only [List.take_succ_cons, cntEs]; omega
theorem wrap_add {a b : Nat} (h : a + b ≤ 1000000000) : IntKind.i64.wrap ((a : Int) + (b : Int)) = ((a + b : Nat) : Int) := by rw [w64 (by omega)]; omega
theorem nodes_c (v : Val) (hv : Sm v) : PC Tryz.prog 9 [.st (encVal v)] (I .i64 (cntV v)) := by
  have hcb := cnt_bulk v
  have ihk : ∀ p ∈ v.kids, PC Tryz.prog 9 [.st (encVal p)] (I .i64 (cntV p)) := fun p hp => nodes_c p (hv.kid p hp)
  have iha : ∀ e ∈ v.ents, ∀ p ∈ e.1, PC Tryz.prog 9 [.st (encVal p)] (I .i64 (cntV p)) := fun e he p hp => nodes_c p (by have := bulk_arg he hp; unfold Sm at *; omega)
  have ihr : ∀ e ∈ v.ents, PC Tryz.prog 9 [.st (encVal e.2.2)] (I .i64 (cntV e.2.2)) := fun e he => nodes_c e.2.2 (by have := bulk_res he; unfold Sm at *; omega)
  unfold Sm at hv
  have hce := cntV_eq v
  refine PCB.of_body Tryz.func9 rfl (by decide) Tryz.ntmps9 Tryz.results9 rfl rfl rfl ?_ rfl rfl
  repeat' (first | (simp only [go_sem, zA, zB, zC, zD, zE, zF, zG, reduceCtorEq, zH, zI, zJ, zK, zL, encVal_eq v, List.length_map]; all_goals fail_if_success guard_target =ₛ False) | (with_reducible first | ((first | refine seqVC_stepN rfl ?_ | refine AWP.seq ?_ | refine AWP.seqR (by kernel_rfl) ?_); intro K hK) | ((first | refine hK _ _ _ ?_ | refine hK _ _ ?_ | refine hK _ ?_); clear hK K) | refine seqVC_nil ?_ | refine AWP.block ?_ | (refine AWP.cond (by with_unfolding_all rfl) ?_ ?_ <;> intro h <;> (try simp only [zM, zN] at h) <;> try exact absurd h (by decide)) | refine AWP.skip ?_ | refine AWP.ret ?_ | refine AWP.exit ?_ | refine Or.inl ?_) | (clear hK K))
  refine AWP.lenB 1 3 rfl rfl fun hlen0 => ?_
  (try rw [List.length_map] at hlen0)
  refine AWP.range (S := Nat) (v.kids) encVal (fun k s => (4, I .i64 (k : Nat)) :: [(3, I .i64 (s : Nat))]) (fun k s => []) [1] [1] (fun k s => Is s (1 + cntVs (v.kids.take k))) (1) (by simp only [go_sem, zA, zB, zC, zD, zE, zF, zG, reduceCtorEq, zH, zI, zJ, zK, zL, encVal_eq]; exact Gh.to [] (by repeat (first | exact trivial | refine ⟨rfl, ?_⟩ | refine ⟨by (simp only [go_sem, zA, zB, zC, zD, zE, zF, zG, reduceCtorEq, zH, zI, zJ, zK, zL, List.length_append, List.length_map, List.length_cons, List.length_nil, Nat.zero_add]) <;> rfl, ?_⟩)) (by repeat (first | exact trivial | refine ⟨rfl, ?_⟩ | refine ⟨by (simp only [go_sem, zA, zB, zC, zD, zE, zF, zG, reduceCtorEq, zH, zI, zJ, zK, zL, List.length_append, List.length_map, List.length_cons, List.length_nil, Nat.zero_add]) <;> rfl, ?_⟩)) rfl rfl rfl) ?_ ?_ ?_
  · simp [Is, cntVs]
  · intro k s x hlt hx hx' hb hok
    unfold Is at hok
    simp only [go_sem, zA, zB, zC, zD, zE, zF, zG, reduceCtorEq, zH, zI, zJ, zK, zL]
    have hix := ihk x (List.mem_of_getElem? hx)
    have hct := cntVs_take hx
    have hcl := cntVs_le v.kids (k + 1)
    have hw := wrap_add (a := s) (b := cntV x) (by omega)
    repeat' (first | (simp only [go_sem, zA, zB, zC, zD, zE, zF, zG, reduceCtorEq, zH, zI, zJ, zK, zL, encVal_eq v, List.length_map, hb, hw]; all_goals fail_if_success guard_target =ₛ False) | (with_reducible first | ((first | refine seqVC_stepN rfl ?_ | refine AWP.seq ?_ | refine AWP.seqR (by kernel_rfl) ?_); intro K hK) | ((first | refine hK _ _ _ ?_ | refine hK _ _ ?_ | refine hK _ ?_); clear hK K) | refine seqVC_nil ?_ | refine AWP.block ?_ | (refine AWP.cond (by with_unfolding_all rfl) ?_ ?_ <;> intro h <;> (try simp only [zM, zN] at h) <;> try exact absurd h (by decide)) | refine AWP.skip ?_ | refine AWP.ret ?_ | refine AWP.exit ?_ | refine ⟨_, hix, ?_⟩ | refine ⟨by omega, encVal x, hx', ?_⟩ | refine Or.inl ?_) | (clear hK K))
    all_goals (rw [wrap_succ hlt hlen0])
    all_goals (refine ⟨s + cntV x, ?_, Gh.to [] (by repeat (first | exact trivial | refine ⟨rfl, ?_⟩ | refine ⟨by (simp only [go_sem, zA, zB, zC, zD, zE, zF, zG, reduceCtorEq, zH, zI, zJ, zK, zL, List.length_append, List.length_map, List.length_cons, List.length_nil, Nat.zero_add]) <;> rfl, ?_⟩)) (by repeat (first | exact trivial | refine ⟨rfl, ?_⟩ | refine ⟨by (simp only [go_sem, zA, zB, zC, zD, zE, zF, zG, reduceCtorEq, zH, zI, zJ, zK, zL, List.length_append, List.length_map, List.length_cons, List.length_nil, Nat.zero_add]) <;> rfl, ?_⟩)) rfl rfl rfl⟩)
    all_goals (show _ = _; omega)
  intro s0 hb0 hok0
  simp only [go_sem, zA, zB, zC, zD, zE, zF, zG, reduceCtorEq, zH, zI, zJ, zK, zL]
  rw [Is, List.take_length] at hok0
  repeat' (first | (simp only [go_sem, zA, zB, zC, zD, zE, zF, zG, reduceCtorEq, zH, zI, zJ, zK, zL, encVal_eq v, List.length_map, hb0]; all_goals fail_if_success guard_target =ₛ False) | (with_reducible first | ((first | refine seqVC_stepN rfl ?_ | refine AWP.seq ?_ | refine AWP.seqR (by kernel_rfl) ?_); intro K hK) | ((first | refine hK _ _ _ ?_ | refine hK _ _ ?_ | refine hK _ ?_); clear hK K) | refine seqVC_nil ?_ | refine AWP.block ?_ | (refine AWP.cond (by with_unfolding_all rfl) ?_ ?_ <;> intro h <;> (try simp only [zM, zN] at h) <;> try exact absurd h (by decide)) | refine AWP.skip ?_ | refine AWP.ret ?_ | refine AWP.exit ?_ | refine Or.inl ?_) | (clear hK K))
  refine AWP.lenB 1 5 rfl rfl fun hlen1 => ?_
  (try rw [List.length_map] at hlen1)
  refine AWP.range (S := Nat) (v.ents) encEnt (fun k s => (5, I .i64 (k : Nat)) :: [(3, I .i64 (s : Nat))]) (fun k s => []) [1] [1] (fun k s => Is s (s0 + cntEs (v.ents.take k))) (s0) (by simp only [go_sem, zA, zB, zC, zD, zE, zF, zG, reduceCtorEq, zH, zI, zJ, zK, zL, encVal_eq]; exact Gh.to [] (by repeat (first | exact trivial | refine ⟨rfl, ?_⟩ | refine ⟨by (simp only [go_sem, zA, zB, zC, zD, zE, zF, zG, reduceCtorEq, zH, zI, zJ, zK, zL, List.length_append, List.length_map, List.length_cons, List.length_nil, Nat.zero_add]) <;> rfl, ?_⟩)) (by repeat (first | exact trivial | refine ⟨rfl, ?_⟩ | refine ⟨by (simp only [go_sem, zA, zB, zC, zD, zE, zF, zG, reduceCtorEq, zH, zI, zJ, zK, zL, List.length_append, List.length_map, List.length_cons, List.length_nil, Nat.zero_add]) <;> rfl, ?_⟩)) rfl rfl rfl) ?_ ?_ ?_
  · simp [Is, cntEs]
  · intro k s x hlt hx hx' hb hok
    unfold Is at hok
    simp only [go_sem, zA, zB, zC, zD, zE, zF, zG, reduceCtorEq, zH, zI, zJ, zK, zL]
    have hem := List.mem_of_getElem? hx
    have hia := iha x hem
    have hir := ihr x hem
    have hct := cntEs_take hx
    have hcl := cntEs_le v.ents (k + 1)
    have hxe := cntE_eq x
    rw [encVal_eq] at hir
    repeat' (first | (simp only [go_sem, zA, zB, zC, zD, zE, zF, zG, reduceCtorEq, zH, zI, zJ, zK, zL, encVal_eq v, encEnt_eq, List.length_map, hb]; all_goals fail_if_success guard_target =ₛ False) | (with_reducible first | ((first | refine seqVC_stepN rfl ?_ | refine AWP.seq ?_ | refine AWP.seqR (by kernel_rfl) ?_); intro K hK) | ((first | refine hK _ _ _ ?_ | refine hK _ _ ?_ | refine hK _ ?_); clear hK K) | refine seqVC_nil ?_ | refine AWP.block ?_ | (refine AWP.cond (by with_unfolding_all rfl) ?_ ?_ <;> intro h <;> (try simp only [zM, zN] at h) <;> try exact absurd h (by decide)) | refine AWP.skip ?_ | refine AWP.ret ?_ | refine AWP.exit ?_ | refine ⟨by omega, encEnt x, hx', ?_⟩ | refine Or.inl ?_) | (clear hK K))
    refine AWP.lenB 6 0 rfl rfl fun hlen2 => ?_
    (try rw [List.length_map] at hlen2)
    refine AWP.range (S := Nat) (x.1) encVal (fun k s => (7, I .i64 (k : Nat)) :: [(3, I .i64 (s : Nat))]) (fun k s => []) [1, 5, 6] [1, 6] (fun j r => Is r (s + cntVs (x.1.take j))) (s) (by simp only [go_sem, zA, zB, zC, zD, zE, zF, zG, reduceCtorEq, zH, zI, zJ, zK, zL, encVal_eq, encEnt_eq]; exact Gh.to [] (by repeat (first | exact trivial | refine ⟨rfl, ?_⟩ | refine ⟨by (simp only [go_sem, zA, zB, zC, zD, zE, zF, zG, reduceCtorEq, zH, zI, zJ, zK, zL, List.length_append, List.length_map, List.length_cons, List.length_nil, Nat.zero_add]) <;> rfl, ?_⟩)) (by repeat (first | exact trivial | refine ⟨rfl, ?_⟩ | refine ⟨by (simp only [go_sem, zA, zB, zC, zD, zE, zF, zG, reduceCtorEq, zH, zI, zJ, zK, zL, List.length_append, List.length_map, List.length_cons, List.length_nil, Nat.zero_add]) <;> rfl, ?_⟩)) rfl rfl rfl) ?_ ?_ ?_
    · simp [Is, cntVs]
    · intro i r y hlti hy hy' hbi hoki
      unfold Is at hoki
      simp only [go_sem, zA, zB, zC, zD, zE, zF, zG, reduceCtorEq, zH, zI, zJ, zK, zL]
      have hiy := hia y (List.mem_of_getElem? hy)
      have hct2 := cntVs_take hy
      have hcl2 := cntVs_le x.1 (i + 1)
      have hw := wrap_add (a := r) (b := cntV y) (by omega)
      repeat' (first | (simp only [go_sem, zA, zB, zC, zD, zE, zF, zG, reduceCtorEq, zH, zI, zJ, zK, zL, encVal_eq v, encEnt_eq, List.length_map, hbi, hw]; all_goals fail_if_success guard_target =ₛ False) | (with_reducible first | ((first | refine seqVC_stepN rfl ?_ | refine AWP.seq ?_ | refine AWP.seqR (by kernel_rfl) ?_); intro K hK) | ((first | refine hK _ _ _ ?_ | refine hK _ _ ?_ | refine hK _ ?_); clear hK K) | refine seqVC_nil ?_ | refine AWP.block ?_ | (refine AWP.cond (by with_unfolding_all rfl) ?_ ?_ <;> intro h <;> (try simp only [zM, zN] at h) <;> try exact absurd h (by decide)) | refine AWP.skip ?_ | refine AWP.ret ?_ | refine AWP.exit ?_ | refine ⟨_, hiy, ?_⟩ | refine ⟨by omega, encVal y, hy', ?_⟩ | refine Or.inl ?_) | (clear hK K))
      all_goals (rw [wrap_succ hlti hlen2])
      all_goals (refine ⟨r + cntV y, ?_, Gh.to [] (by repeat (first | exact trivial | refine ⟨rfl, ?_⟩ | refine ⟨by (simp only [go_sem, zA, zB, zC, zD, zE, zF, zG, reduceCtorEq, zH, zI, zJ, zK, zL, List.length_append, List.length_map, List.length_cons, List.length_nil, Nat.zero_add]) <;> rfl, ?_⟩)) (by repeat (first | exact trivial | refine ⟨rfl, ?_⟩ | refine ⟨by (simp only [go_sem, zA, zB, zC, zD, zE, zF, zG, reduceCtorEq, zH, zI, zJ, zK, zL, List.length_append, List.length_map, List.length_cons, List.length_nil, Nat.zero_add]) <;> rfl, ?_⟩)) rfl rfl rfl⟩)
      all_goals (show _ = _; omega)
    intro r hb2 hok2
    simp only [go_sem, zA, zB, zC, zD, zE, zF, zG, reduceCtorEq, zH, zI, zJ, zK, zL]
    rw [Is, List.take_length] at hok2
    cases hf : x.2.1 <;> simp only [hf, cond_true, cond_false] at hxe
    · have hw := wrap_add (a := r) (b := cntV x.2.2) (by omega)
      repeat' (first | (simp only [go_sem, zA, zB, zC, zD, zE, zF, zG, reduceCtorEq, zH, zI, zJ, zK, zL, encVal_eq, encEnt_eq, List.length_map, hb2, hf, hw]; all_goals fail_if_success guard_target =ₛ False) | (with_reducible first | ((first | refine seqVC_stepN rfl ?_ | refine AWP.seq ?_ | refine AWP.seqR (by kernel_rfl) ?_); intro K hK) | ((first | refine hK _ _ _ ?_ | refine hK _ _ ?_ | refine hK _ ?_); clear hK K) | refine seqVC_nil ?_ | refine AWP.block ?_ | (refine AWP.cond (by with_unfolding_all rfl) ?_ ?_ <;> intro h <;> (try simp only [zM, zN] at h) <;> try exact absurd h (by decide)) | refine AWP.skip ?_ | refine AWP.ret ?_ | refine AWP.exit ?_ | refine ⟨_, hir, ?_⟩ | refine Or.inl ?_) | (clear hK K))
      all_goals (rw [wrap_succ hlt hlen1])
      all_goals (refine ⟨r + cntV x.2.2, ?_, Gh.to [] (by repeat (first | exact trivial | refine ⟨rfl, ?_⟩ | refine ⟨by (simp only [go_sem, zA, zB, zC, zD, zE, zF, zG, reduceCtorEq, zH, zI, zJ, zK, zL, List.length_append, List.length_map, List.length_cons, List.length_nil, Nat.zero_add]) <;> rfl, ?_⟩)) (by repeat (first | exact trivial | refine ⟨rfl, ?_⟩ | refine ⟨by (simp only [go_sem, zA, zB, zC, zD, zE, zF, zG, reduceCtorEq, zH, zI, zJ, zK, zL, List.length_append, List.length_map, List.length_cons, List.length_nil, Nat.zero_add]) <;> rfl, ?_⟩)) rfl rfl rfl⟩)
      all_goals (show _ = _; omega)
    ·
      repeat' (first | (simp only [go_sem, zA, zB, zC, zD, zE, zF, zG, reduceCtorEq, zH, zI, zJ, zK, zL, encVal_eq, encEnt_eq, List.length_map, hb2, hf]; all_goals fail_if_success guard_target =ₛ False) | (with_reducible first | ((first | refine seqVC_stepN rfl ?_ | refine AWP.seq ?_ | refine AWP.seqR (by kernel_rfl) ?_); intro K hK) | ((first | refine hK _ _ _ ?_ | refine hK _ _ ?_ | refine hK _ ?_); clear hK K) | refine seqVC_nil ?_ | refine AWP.block ?_ | (refine AWP.cond (by with_unfolding_all rfl) ?_ ?_ <;> intro h <;> (try simp only [zM, zN] at h) <;> try exact absurd h (by decide)) | refine AWP.skip ?_ | refine AWP.ret ?_ | refine AWP.exit ?_ | refine Or.inl ?_) | (clear hK K))
      all_goals (rw [wrap_succ hlt hlen1])
      all_goals (refine ⟨r, ?_, Gh.to [] (by repeat (first | exact trivial | refine ⟨rfl, ?_⟩ | refine ⟨by (simp only [go_sem, zA, zB, zC, zD, zE, zF, zG, reduceCtorEq, zH, zI, zJ, zK, zL, List.length_append, List.length_map, List.length_cons, List.length_nil, Nat.zero_add]) <;> rfl, ?_⟩)) (by repeat (first | exact trivial | refine ⟨rfl, ?_⟩ | refine ⟨by (simp only [go_sem, zA, zB, zC, zD, zE, zF, zG, reduceCtorEq, zH, zI, zJ, zK, zL, List.length_append, List.length_map, List.length_cons, List.length_nil, Nat.zero_add]) <;> rfl, ?_⟩)) rfl rfl rfl⟩)
      all_goals (show _ = _; omega)
  intro s1 hb1 hok1
  simp only [go_sem, zA, zB, zC, zD, zE, zF, zG, reduceCtorEq, zH, zI, zJ, zK, zL]
  rw [Is, List.take_length] at hok1
  repeat' (first | (simp only [go_sem, zA, zB, zC, zD, zE, zF, zG, reduceCtorEq, zH, zI, zJ, zK, zL, encVal_eq v, List.length_map, hb1]; all_goals fail_if_success guard_target =ₛ False) | (with_reducible first | ((first | refine seqVC_stepN rfl ?_ | refine AWP.seq ?_ | refine AWP.seqR (by kernel_rfl) ?_); intro K hK) | ((first | refine hK _ _ _ ?_ | refine hK _ _ ?_ | refine hK _ ?_); clear hK K) | refine seqVC_nil ?_ | refine AWP.block ?_ | (refine AWP.cond (by with_unfolding_all rfl) ?_ ?_ <;> intro h <;> (try simp only [zM, zN] at h) <;> try exact absurd h (by decide)) | refine AWP.skip ?_ | refine AWP.ret ?_ | refine AWP.exit ?_ | refine Or.inl ?_) | (clear hK K))
  all_goals (refine fin0 ?_; rw [show cntV v = s1 by omega])
termination_by bulkV v
decreasing_by
  · exact bulk_kid hp
  · exact bulk_arg he hp
  · exact bulk_res he
end Go.Proofs.YteobojeemflggaaGreat
set_option linter.unusedSimpArgs false
set_option linter.unusedVariables false
set_option maxRecDepth 20000
set_option maxHeartbeats 16000000
namespace Go.Proofs.YteobojeemflggaaGreat
open Go Go.Sx
open Nat renaming reduceBEq → zA, reduceBNe → zB, reduceAdd → zC, reduceSub → zD, reduceMul → zE, reduceLeDiff → zF, reduceLT → zG, reduceEqDiff → zH
open Int renaming reduceToNat → zI, reduceLE → zJ, reduceLT → zK, reduceEq → zL
open Bool renaming not_eq_true' → zM, not_eq_false' → zN
def encLL (l : List Int) : List C := [.sl 1 (l.map encInt)]
theorem short_c (ll : List (List Int)) : PC Tryz.prog 7 [.one (.dat (.sl 1 (ll.map encLL)))] (Bo (ll.all fun l => !decide ((80 : Int) < (l.length : Int)))) := by
  refine PCB.of_body Tryz.func7 rfl (by decide) Tryz.ntmps7 Tryz.results7 rfl rfl rfl ?_ rfl rfl
  repeat' (first | (simp only [go_sem, zA, zB, zC, zD, zE, zF, zG, reduceCtorEq, zH, zI, zJ, zK, zL, List.length_map]; all_goals fail_if_success guard_target =ₛ False) | (with_reducible first | ((first | refine seqVC_stepN rfl ?_ | refine AWP.seq ?_ | refine AWP.seqR (by kernel_rfl) ?_); intro K hK) | ((first | refine hK _ _ _ ?_ | refine hK _ _ ?_ | refine hK _ ?_); clear hK K) | refine seqVC_nil ?_ | refine AWP.block ?_ | (refine AWP.cond (by with_unfolding_all rfl) ?_ ?_ <;> intro h <;> (try simp only [zM, zN] at h) <;> try exact absurd h (by decide)) | refine AWP.skip ?_ | refine AWP.ret ?_ | refine AWP.exit ?_ | refine Or.inl ?_) | (clear hK K))
  refine AWP.len 0 rfl fun hlen0 => ?_
  (try rw [List.length_map] at hlen0)
  refine AWP.range (S := Unit) (ll) encLL (fun k s => (3, I .i64 (k : Nat)) :: []) (fun k s => []) [0] [] (fun k s => (ll.all fun l => !decide ((80 : Int) < (l.length : Int))) = ((ll.drop k).all fun l => !decide ((80 : Int) < (l.length : Int)))) (()) (by simp only [go_sem, zA, zB, zC, zD, zE, zF, zG, reduceCtorEq, zH, zI, zJ, zK, zL]; exact Gh.to [] (by repeat (first | exact trivial | refine ⟨rfl, ?_⟩ | refine ⟨by (simp only [go_sem, zA, zB, zC, zD, zE, zF, zG, reduceCtorEq, zH, zI, zJ, zK, zL, List.length_append, List.length_map, List.length_cons, List.length_nil, Nat.zero_add]) <;> rfl, ?_⟩)) (by repeat (first | exact trivial | refine ⟨rfl, ?_⟩ | refine ⟨by (simp only [go_sem, zA, zB, zC, zD, zE, zF, zG, reduceCtorEq, zH, zI, zJ, zK, zL, List.length_append, List.length_map, List.length_cons, List.length_nil, Nat.zero_add]) <;> rfl, ?_⟩)) rfl rfl rfl) ?_ ?_ ?_
  · rfl
  · intro k s x hlt hx hx' hb hok
    simp only [go_sem, zA, zB, zC, zD, zE, zF, zG, reduceCtorEq, zH, zI, zJ, zK, zL]
    rw [all_step hx] at hok
    cases hz : decide ((80 : Int) < (x.length : Int)) <;> simp only [hz, Bool.not_true, Bool.not_false, Bool.true_and, Bool.false_and] at hok
    ·
      repeat' (first | (simp only [go_sem, zA, zB, zC, zD, zE, zF, zG, reduceCtorEq, zH, zI, zJ, zK, zL, encLL, List.length_map, hb, hz]; all_goals fail_if_success guard_target =ₛ False) | (with_reducible first | ((first | refine seqVC_stepN rfl ?_ | refine AWP.seq ?_ | refine AWP.seqR (by kernel_rfl) ?_); intro K hK) | ((first | refine hK _ _ _ ?_ | refine hK _ _ ?_ | refine hK _ ?_); clear hK K) | refine seqVC_nil ?_ | refine AWP.block ?_ | (refine AWP.cond (by with_unfolding_all rfl) ?_ ?_ <;> intro h <;> (try simp only [zM, zN] at h) <;> try exact absurd h (by decide)) | refine AWP.skip ?_ | refine AWP.ret ?_ | refine AWP.exit ?_ | refine ⟨by omega, encLL x, hx', ?_⟩ | refine Or.inl ?_) | (clear hK K))
      all_goals (rw [wrap_succ hlt hlen0])
      all_goals (refine ⟨(), ?_, Gh.to [] (by repeat (first | exact trivial | refine ⟨rfl, ?_⟩ | refine ⟨by (simp only [go_sem, zA, zB, zC, zD, zE, zF, zG, reduceCtorEq, zH, zI, zJ, zK, zL, List.length_append, List.length_map, List.length_cons, List.length_nil, Nat.zero_add]) <;> rfl, ?_⟩)) (by repeat (first | exact trivial | refine ⟨rfl, ?_⟩ | refine ⟨by (simp only [go_sem, zA, zB, zC, zD, zE, zF, zG, reduceCtorEq, zH, zI, zJ, zK, zL, List.length_append, List.length_map, List.length_cons, List.length_nil, Nat.zero_add]) <;> rfl, ?_⟩)) rfl rfl rfl⟩)
      all_goals exact hok
    ·
      repeat' (first | (simp only [go_sem, zA, zB, zC, zD, zE, zF, zG, reduceCtorEq, zH, zI, zJ, zK, zL, encLL, List.length_map, hb, hz]; all_goals fail_if_success guard_target =ₛ False) | (with_reducible first | ((first | refine seqVC_stepN rfl ?_ | refine AWP.seq ?_ | refine AWP.seqR (by kernel_rfl) ?_); intro K hK) | ((first | refine hK _ _ _ ?_ | refine hK _ _ ?_ | refine hK _ ?_); clear hK K) | refine seqVC_nil ?_ | refine AWP.block ?_ | (refine AWP.cond (by with_unfolding_all rfl) ?_ ?_ <;> intro h <;> (try simp only [zM, zN] at h) <;> try exact absurd h (by decide)) | refine AWP.skip ?_ | refine AWP.ret ?_ | refine AWP.exit ?_ | refine ⟨by omega, encLL x, hx', ?_⟩ | refine Or.inl ?_) | (clear hK K))
      all_goals (first | exact fun _ h => (by cases h) | (refine fin0 ?_; first | rfl | (simp only [hok, zb, cond_true, cond_false, decide_true, decide_false] <;> rfl)))
  · intro s hb hok
    simp only [go_sem, zA, zB, zC, zD, zE, zF, zG, reduceCtorEq, zH, zI, zJ, zK, zL]
    rw [all_end] at hok
    repeat' (first | (simp only [go_sem, zA, zB, zC, zD, zE, zF, zG, reduceCtorEq, zH, zI, zJ, zK, zL, List.length_map, hb]; all_goals fail_if_success guard_target =ₛ False) | (with_reducible first | ((first | refine seqVC_stepN rfl ?_ | refine AWP.seq ?_ | refine AWP.seqR (by kernel_rfl) ?_); intro K hK) | ((first | refine hK _ _ _ ?_ | refine hK _ _ ?_ | refine hK _ ?_); clear hK K) | refine seqVC_nil ?_ | refine AWP.block ?_ | (refine AWP.cond (by with_unfolding_all rfl) ?_ ?_ <;> intro h <;> (try simp only [zM, zN] at h) <;> try exact absurd h (by decide)) | refine AWP.skip ?_ | refine AWP.ret ?_ | refine AWP.exit ?_ | refine Or.inl ?_) | (clear hK K))
    all_goals (first | exact fun _ h => (by cases h) | (refine fin0 ?_; first | rfl | (simp only [hok, zb, cond_true, cond_false, decide_true, decide_false] <;> rfl)))
theorem tree_leaf (v : Val) (hk : v.kids = []) (he : v.ents = []) : treeB v = nodeB v := by
  rw [treeB_kids, hk, he]; simp
def gX : Grd := ⟨5, [88], 0, [], ⟨0, []⟩, []⟩
theorem gX_ok : okG gX = true := by
  unfold okG
  rw [treeG_eq, cntG_eq]
  decide
theorem awake25_c : PC Tryz.prog 8 [] (Bo true) := by
  have hn : PC Tryz.prog 25 [I .i64 1] (Vt (intVal 1)) := refInt_c 1
  have hs1 : Sm (intVal 1) := by unfold Sm; rw [bulkV_eq]; decide
  have hs2 : Sm nilVal := by unfold Sm; rw [bulkV_eq]; decide
  have hgs : GSm gX := by unfold GSm; rw [cntG_eq]; decide
  have hgt : GSm (kidsG 2 []) := by unfold GSm; rw [cntG_eq]; decide
  have t1 : treeB (intVal 1) = true := by rw [tree_leaf _ rfl rfl]; rfl
  have t2 : treeB nilVal = true := by rw [tree_leaf _ rfl rfl]; rfl
  have v1 : PC Tryz.prog 24 [.st [.int .i64 5, .str [88], .int .i64 0, .str [], .int .i64 0, .str [], .sl 7 []]] (I .i64 0) := by
    have h := validate_g gX hgs
    have hc : codeG gX = 0 := of_decide_eq_true (by rw [code_ok, gX_ok])
    rw [hc, show Gt gX = T.st (encG gX) from rfl, encG_eq] at h
    exact h
  have v2 : PC Tryz.prog 24 [.st [.int .i64 2, .str [], .int .i64 0, .str [], .int .i64 0, .str [], .sl 7 []]] (I .i64 1) := by
    have h := validate_g (kidsG 2 []) hgt
    have hc : codeG (kidsG 2 []) = 1 := by unfold codeG; rw [treeG_eq, cntG_eq]; decide
    rw [hc, kidsG_lit] at h
    exact h
  have e1 : PC Tryz.prog 12 [.st [.int .i64 5, .str [88], .int .i64 0, .str [], .int .i64 0, .str [], .sl 7 []], .one (.dat (.sl 1 [[.str [88]]])), .one (.dat (.sl 7 [encVal (intVal 1)]))] (Bo true) := by
    have h := Evaluate_c [[88]] [intVal 1] (by simpa using hs1) gX hgs
    have hc : evW [[88]] [intVal 1] gX = true := by
      unfold evW; rw [gX_ok, cond_true, evG_eq]
      show (decide (0 ≤ (0 : Int)) && (decide ((0 : Int) < 1) && (treeB (intVal 1) && testV gX (intVal 1)))) = true
      rw [t1]; rfl
    rw [hc, show Gt gX = T.st (encG gX) from rfl, encG_eq] at h
    exact h
  have e2 : PC Tryz.prog 12 [.st [.int .i64 5, .str [88], .int .i64 0, .str [], .int .i64 0, .str [], .sl 7 []], .one (.dat (.sl 1 [[.str [88]]])), .one (.dat (.sl 7 [encVal nilVal]))] (Bo false) := by
    have h := Evaluate_c [[88]] [nilVal] (by simpa using hs2) gX hgs
    have hc : evW [[88]] [nilVal] gX = false := by
      unfold evW; rw [gX_ok, cond_true, evG_eq]
      show (decide (0 ≤ (0 : Int)) && (decide ((0 : Int) < 1) && (treeB nilVal && testV gX nilVal))) = false
      rw [t2]; rfl
    rw [hc, show Gt gX = T.st (encG gX) from rfl, encG_eq] at h
    exact h
  refine PCB.of_body Tryz.func8 rfl (by decide) Tryz.ntmps8 Tryz.results8 rfl rfl rfl ?_ rfl rfl
  repeat' (first | (simp only [go_sem, zA, zB, zC, zD, zE, zF, zG, reduceCtorEq, zH, zI, zJ, zK, zL]; all_goals fail_if_success guard_target =ₛ False) | (with_reducible first | ((first | refine seqVC_stepN rfl ?_ | refine seqVC_stepG rfl (by with_unfolding_all rfl) ?_ | refine AWP.seq ?_ | refine AWP.seqR (by kernel_rfl) ?_ | refine parVC_stepN rfl ?_ | refine parVC_stepG rfl (by with_unfolding_all rfl) ?_ | refine parEVC_stepN rfl ?_ | refine parEVC_stepG rfl (by with_unfolding_all rfl) ?_ | refine genVC_stepN rfl ?_ | refine genVC_stepG rfl (by with_unfolding_all rfl) ?_); intro K hK) | ((first | refine hK _ _ _ ?_ | refine hK _ _ ?_ | refine hK _ ?_); clear hK K) | refine seqVC_nil ?_ | refine parVC_nil ?_ | refine parEVC_nil ?_ | refine genVC_nil ?_ | refine AWP.block ?_ | (refine AWP.cond (by with_unfolding_all rfl) ?_ ?_ <;> intro h <;> (try simp only [zM, zN] at h) <;> try exact absurd h (by decide)) | refine AWP.skip ?_ | refine AWP.ret ?_ | refine AWP.exit ?_ | (refine ⟨fun h => ?_, fun h => ?_⟩ <;> (try simp only [zM, zN] at h) <;> try simp only [h]) | refine ⟨_, v1, ?_⟩ | refine ⟨_, v2, ?_⟩ | refine ⟨_, hn, ?_⟩ | refine ⟨_, refNil_c, ?_⟩ | refine ⟨_, e1, ?_⟩ | refine ⟨_, e2, ?_⟩ | refine AWP.parR mixed (by kernel_rfl) fun K hK => ?_ | refine ⟨(by kernel_rfl : depB _ _ _ = true), ?_⟩ | refine Or.inl ?_) | (clear hK K))
  all_goals (first | exact fun _ h => (by cases h) | (refine fin0 ?_; first | rfl | (simp only [zb, cond_true, cond_false, decide_true, decide_false] <;> rfl)))
theorem ev_not (ns : List (List UInt8)) (vs : List Val) (g : Grd) (ht : treeG g = true) (h : decide ((cntG (kidsG 4 [g]) : Int) ≤ 20) = true) : evW ns vs (kidsG 4 [g]) = !evW ns vs g := by
  have hc : cntG (kidsG 4 [g]) = 1 + cntG g := by rw [cnt_kids]; simp [cntGs]
  have h1 := of_decide_eq_true h
  have k1 : okG (kidsG 4 [g]) = true := by
    unfold okG
    rw [tree_kids 4 [g] (vG_kids 4 [g] (by simp)) (by simpa using ht), Bool.and_true, Bool.not_eq_true', decide_eq_false_iff_not]
    omega
  have k2 : okG g = true := by
    unfold okG
    rw [ht, Bool.and_true, Bool.not_eq_true', decide_eq_false_iff_not]
    omega
  unfold evW
  rw [k1, k2, cond_true, cond_true, evG_eq]
  rfl
theorem evaluates_law (l m : List Int) (hl : ∀ x ∈ l, -9223372036854775808 ≤ x ∧ x ≤ 9223372036854775807) (hm : ∀ x ∈ m, -9223372036854775808 ≤ x ∧ x ≤ 9223372036854775807) (ns : List (List UInt8)) (vs : List Val) (hvs : ∀ v ∈ vs, Sm v) :
    PC Tryz.prog 3 [.one (.dat (.sl 1 (l.map encInt))), .one (.dat (.sl 1 (m.map encInt))), Ns ns, Vs vs] (Bo true) := by
  have hsh : PC Tryz.prog 7 [.one (.dat (.sl 1 [[.sl 1 (l.map encInt)], [.sl 1 (m.map encInt)]]))] (Bo (!decide ((80 : Int) < (l.length : Int)) && !decide ((80 : Int) < (m.length : Int)))) := by
    have h := short_c [l, m]
    simpa only [List.all_cons, List.all_nil, Bool.and_true, List.map_cons, List.map_nil, encLL] using h
  generalize hq : (!decide ((80 : Int) < (l.length : Int)) && !decide ((80 : Int) < (m.length : Int))) = q at hsh
  cases h5 : (q && (!decide ((5 : Int) < (ns.length : Int)) && !decide ((5 : Int) < (vs.length : Int))))
  ·
    cases q <;> cases hb1 : decide ((5 : Int) < (ns.length : Int)) <;> cases hb2 : decide ((5 : Int) < (vs.length : Int)) <;> (try (rw [hb1, hb2] at h5; exact absurd h5 (by decide)))
    all_goals
      refine PCB.of_body Tryz.func3 rfl (by decide) Tryz.ntmps3 Tryz.results3 rfl rfl rfl ?_ rfl rfl
      repeat' (first | (simp only [go_sem, zA, zB, zC, zD, zE, zF, zG, reduceCtorEq, zH, zI, zJ, zK, zL, List.length_map, hb1, hb2]; all_goals fail_if_success guard_target =ₛ False) | (with_reducible first | ((first | refine seqVC_stepN rfl ?_ | refine seqVC_stepG rfl (by with_unfolding_all rfl) ?_ | refine AWP.seq ?_ | refine AWP.seqR (by kernel_rfl) ?_ | refine parVC_stepN rfl ?_ | refine parVC_stepG rfl (by with_unfolding_all rfl) ?_ | refine parEVC_stepN rfl ?_ | refine parEVC_stepG rfl (by with_unfolding_all rfl) ?_ | refine genVC_stepN rfl ?_ | refine genVC_stepG rfl (by with_unfolding_all rfl) ?_); intro K hK) | ((first | refine hK _ _ _ ?_ | refine hK _ _ ?_ | refine hK _ ?_); clear hK K) | refine seqVC_nil ?_ | refine parVC_nil ?_ | refine parEVC_nil ?_ | refine genVC_nil ?_ | refine AWP.block ?_ | (refine AWP.cond (by with_unfolding_all rfl) ?_ ?_ <;> intro h <;> (try simp only [zM, zN] at h) <;> try exact absurd h (by decide)) | refine AWP.skip ?_ | refine AWP.ret ?_ | refine AWP.exit ?_ | (refine ⟨fun h => ?_, fun h => ?_⟩ <;> (try simp only [zM, zN] at h) <;> try simp only [h]) | refine ⟨_, hsh, ?_⟩ | refine ⟨_, awake25_c, ?_⟩ | refine AWP.parR mixed (by kernel_rfl) fun K hK => ?_ | refine ⟨(by kernel_rfl : depB _ _ _ = true), ?_⟩ | refine Or.inl ?_) | (clear hK K))
    all_goals (first | exact fun _ h => (by cases h) | (refine fin0 ?_; first | rfl | (simp only [zb, cond_true, cond_false, decide_true, decide_false] <;> rfl)))
  obtain ⟨hq1, h56⟩ := (Bool.and_eq_true _ _).mp h5
  subst hq1
  obtain ⟨hb1, hb2⟩ := (Bool.and_eq_true _ _).mp h56
  rw [Bool.not_eq_true'] at hb1 hb2
  obtain ⟨hl8, hm8⟩ := (Bool.and_eq_true _ _).mp hq
  simp only [Bool.not_eq_true', decide_eq_false_iff_not] at hl8 hm8
  have hs0 : (Src.mk l 0).ok := ⟨hl, by simp only; omega⟩
  have hs1 : (Src.mk m 0).ok := ⟨hm, by simp only; omega⟩
  have hg := (made_g 3 (by omega)).k 47 ⟨l, 0⟩ hs0
  have htm := tree_made 3 ⟨l, 0⟩
  generalize (madeG 3 ⟨l, 0⟩).1 = g at hg htm
  generalize (madeG 3 ⟨l, 0⟩).2 = s9 at hg
  obtain ⟨htg, hcg⟩ := htm
  have hcg : cntG g ≤ 15 := hcg
  have hgs : GSm g := by unfold GSm; omega
  have hs2 := ok_full 2 _ hs1
  have hs3 := ok_full 2 _ hs2
  have b1 := bulk_full 2 ⟨m, 0⟩
  have b2 := bulk_full 2 (fullV 2 ⟨m, 0⟩).2
  have b3 := bulk_full 2 (fullV 2 (fullV 2 ⟨m, 0⟩).2).2
  have hbn : bnd 2 ≤ 5428 := by decide
  have c1 : PCBk Tryz.prog 11 [Sp 51, I .i64 (2 : Nat)] 51 (srcB ⟨m, 0⟩) (Vt (fullV 2 ⟨m, 0⟩).1) (srcB (fullV 2 ⟨m, 0⟩).2) := PCBk.mk 51 (sourceValue_c 2 (by omega) _ hs1)
  have c2 : PCBk Tryz.prog 11 [Sp 51, I .i64 (2 : Nat)] 51 (srcB (fullV 2 ⟨m, 0⟩).2) (Vt (fullV 2 (fullV 2 ⟨m, 0⟩).2).1) (srcB (fullV 2 (fullV 2 ⟨m, 0⟩).2).2) := PCBk.mk 51 (sourceValue_c 2 (by omega) _ hs2)
  have c3 : PCBk Tryz.prog 11 [Sp 51, I .i64 (2 : Nat)] 51 (srcB (fullV 2 (fullV 2 ⟨m, 0⟩).2).2) (Vt (fullV 2 (fullV 2 (fullV 2 ⟨m, 0⟩).2).2).1) (srcB (fullV 2 (fullV 2 (fullV 2 ⟨m, 0⟩).2).2).2) := PCBk.mk 51 (sourceValue_c 2 (by omega) _ hs3)
  generalize (fullV 2 (fullV 2 (fullV 2 ⟨m, 0⟩).2).2).1 = v3 at *
  generalize (fullV 2 (fullV 2 (fullV 2 ⟨m, 0⟩).2).2).2 = t3 at *
  generalize (fullV 2 (fullV 2 ⟨m, 0⟩).2).1 = v2 at *
  generalize (fullV 2 (fullV 2 ⟨m, 0⟩).2).2 = t2 at *
  generalize (fullV 2 ⟨m, 0⟩).1 = v1 at *
  generalize (fullV 2 ⟨m, 0⟩).2 = t1 at *
  have hsm : ∀ v ∈ [v1, v2, v3], Sm v := by
    intro v hv
    simp only [List.mem_cons, List.not_mem_nil, or_false] at hv
    unfold Sm
    rcases hv with rfl | rfl | rfl <;> omega
  have hno : GSm (kidsG 4 [g]) := by unfold GSm; rw [cnt_kids]; simp only [cntGs]; omega
  have ez : PC Tryz.prog 13 [.st [.int .i64 4, .str [], .int .i64 0, .str [], .int .i64 0, .str [], .sl 7 [encG g]]] (I .i64 (cntG (kidsG 4 [g]))) := by
    have h := sizeG_c (kidsG 4 [g]) hno
    rw [kidsG_lit] at h; exact h
  have en : PC Tryz.prog 12 [.st [.int .i64 4, .str [], .int .i64 0, .str [], .int .i64 0, .str [], .sl 7 [encG g]], .one (.dat (.sl 1 [[.str [88]], [.str [89]], [.str [88]]])), .one (.dat (.sl 7 [encVal v1, encVal v2, encVal v3]))] (Bo (evW [[88], [89], [88]] [v1, v2, v3] (kidsG 4 [g]))) := by
    have h := Evaluate_c [[88], [89], [88]] [v1, v2, v3] hsm (kidsG 4 [g]) hno
    rw [kidsG_lit] at h; exact h
  have e1 : PC Tryz.prog 12 [Gt g, .one (.dat (.sl 1 [[.str [88]], [.str [89]], [.str [88]]])), .one (.dat (.sl 7 [encVal v1, encVal v2, encVal v3]))] (Bo (evW [[88], [89], [88]] [v1, v2, v3] g)) := Evaluate_c [[88], [89], [88]] [v1, v2, v3] hsm g hgs
  have r1 : PC Tryz.prog 14 [Gt g, .one (.dat (.sl 1 [[.str [88]], [.str [89]], [.str [88]]])), .one (.dat (.sl 7 [encVal v1, encVal v2, encVal v3]))] (Bo (evW [[88], [89], [88]] [v1, v2, v3] g)) := EvaluateGuard_c [[88], [89], [88]] [v1, v2, v3] g hgs
  have e2 := Evaluate_c ns vs hvs g hgs
  have r2 := EvaluateGuard_c ns vs g hgs
  have e3 : PC Tryz.prog 12 [Gt g, .one (.dat (.sl 1 [[.str [89]]])), .one (.dat (.sl 7 [encVal v1, encVal v2, encVal v3]))] (Bo (evW [[89]] [v1, v2, v3] g)) := Evaluate_c [[89]] [v1, v2, v3] hsm g hgs
  have r3 : PC Tryz.prog 14 [Gt g, .one (.dat (.sl 1 [[.str [89]]])), .one (.dat (.sl 7 [encVal v1, encVal v2, encVal v3]))] (Bo (evW [[89]] [v1, v2, v3] g)) := EvaluateGuard_c [[89]] [v1, v2, v3] g hgs
  have hnot := ev_not [[88], [89], [88]] [v1, v2, v3] g htg
  generalize evW [[88], [89], [88]] [v1, v2, v3] (kidsG 4 [g]) = x0 at *
  generalize evW [[88], [89], [88]] [v1, v2, v3] g = x1 at *
  generalize evW ns vs g = x2 at *
  generalize evW [[89]] [v1, v2, v3] g = x3 at *
  generalize cntG (kidsG 4 [g]) = cn at *
  refine PCB.of_body Tryz.func3 rfl (by decide) Tryz.ntmps3 Tryz.results3 rfl rfl rfl ?_ rfl rfl
  repeat' (first | (simp only [go_sem, zA, zB, zC, zD, zE, zF, zG, reduceCtorEq, zH, zI, zJ, zK, zL, List.length_map, hb1, hb2]; all_goals fail_if_success guard_target =ₛ False) | (with_reducible first | ((first | refine seqVC_stepN rfl ?_ | refine seqVC_stepG rfl (by with_unfolding_all rfl) ?_ | refine AWP.seq ?_ | refine AWP.seqR (by kernel_rfl) ?_ | refine parVC_stepN rfl ?_ | refine parVC_stepG rfl (by with_unfolding_all rfl) ?_ | refine parEVC_stepN rfl ?_ | refine parEVC_stepG rfl (by with_unfolding_all rfl) ?_ | refine genVC_stepN rfl ?_ | refine genVC_stepG rfl (by with_unfolding_all rfl) ?_); intro K hK) | ((first | refine hK _ _ _ ?_ | refine hK _ _ ?_ | refine hK _ ?_); clear hK K) | refine seqVC_nil ?_ | refine parVC_nil ?_ | refine parEVC_nil ?_ | refine genVC_nil ?_ | refine AWP.block ?_ | (refine AWP.cond (by with_unfolding_all rfl) ?_ ?_ <;> intro h <;> (try simp only [zM, zN] at h) <;> try exact absurd h (by decide)) | refine AWP.skip ?_ | refine AWP.ret ?_ | refine AWP.exit ?_ | (refine ⟨fun h => ?_, fun h => ?_⟩ <;> (try simp only [zM, zN] at h) <;> try simp only [h]) | refine ⟨_, hsh, ?_⟩ | refine AWP.parR mixed (by kernel_rfl) fun K hK => ?_ | refine ⟨(by kernel_rfl : depB _ _ _ = true), ?_⟩ | refine Or.inl ?_) | (clear hK K))
  refine AWP.len 3 rfl fun hlen0 => ?_
  (try rw [List.length_map] at hlen0)
  refine AWP.range (S := Unit) (vs) encVal (fun k s => (9, I .i64 (k : Nat)) :: []) (fun k s => []) [0, 1, 2, 3] [] (fun k s => Is () s) (()) (by simp only [go_sem, zA, zB, zC, zD, zE, zF, zG, reduceCtorEq, zH, zI, zJ, zK, zL]; exact Gh.to [] (by repeat (first | exact trivial | refine ⟨rfl, ?_⟩ | refine ⟨by (simp only [go_sem, zA, zB, zC, zD, zE, zF, zG, reduceCtorEq, zH, zI, zJ, zK, zL, List.length_append, List.length_map, List.length_cons, List.length_nil, Nat.zero_add]) <;> rfl, ?_⟩)) (by repeat (first | exact trivial | refine ⟨rfl, ?_⟩ | refine ⟨by (simp only [go_sem, zA, zB, zC, zD, zE, zF, zG, reduceCtorEq, zH, zI, zJ, zK, zL, List.length_append, List.length_map, List.length_cons, List.length_nil, Nat.zero_add]) <;> rfl, ?_⟩)) rfl rfl rfl) ?_ ?_ ?_
  · rfl
  · intro k s x hlt hx hx' hb hok
    simp only [go_sem, zA, zB, zC, zD, zE, zF, zG, reduceCtorEq, zH, zI, zJ, zK, zL]
    have hnx := nodes_c x (hvs x (List.mem_of_getElem? hx))
    cases hz : decide ((20 : Int) < (cntV x : Int))
    ·
      repeat' (first | (simp only [go_sem, zA, zB, zC, zD, zE, zF, zG, reduceCtorEq, zH, zI, zJ, zK, zL, List.length_map, hb, hz]; all_goals fail_if_success guard_target =ₛ False) | (with_reducible first | ((first | refine seqVC_stepN rfl ?_ | refine seqVC_stepG rfl (by with_unfolding_all rfl) ?_ | refine AWP.seq ?_ | refine AWP.seqR (by kernel_rfl) ?_ | refine parVC_stepN rfl ?_ | refine parVC_stepG rfl (by with_unfolding_all rfl) ?_ | refine parEVC_stepN rfl ?_ | refine parEVC_stepG rfl (by with_unfolding_all rfl) ?_ | refine genVC_stepN rfl ?_ | refine genVC_stepG rfl (by with_unfolding_all rfl) ?_); intro K hK) | ((first | refine hK _ _ _ ?_ | refine hK _ _ ?_ | refine hK _ ?_); clear hK K) | refine seqVC_nil ?_ | refine parVC_nil ?_ | refine parEVC_nil ?_ | refine genVC_nil ?_ | refine AWP.block ?_ | (refine AWP.cond (by with_unfolding_all rfl) ?_ ?_ <;> intro h <;> (try simp only [zM, zN] at h) <;> try exact absurd h (by decide)) | refine AWP.skip ?_ | refine AWP.ret ?_ | refine AWP.exit ?_ | (refine ⟨fun h => ?_, fun h => ?_⟩ <;> (try simp only [zM, zN] at h) <;> try simp only [h]) | refine ⟨_, hnx, ?_⟩ | refine ⟨by omega, encVal x, hx', ?_⟩ | refine AWP.parR mixed (by kernel_rfl) fun K hK => ?_ | refine ⟨(by kernel_rfl : depB _ _ _ = true), ?_⟩ | refine Or.inl ?_) | (clear hK K))
      all_goals (rw [wrap_succ hlt hlen0])
      all_goals (refine ⟨(), ?_, Gh.to [] (by repeat (first | exact trivial | refine ⟨rfl, ?_⟩ | refine ⟨by (simp only [go_sem, zA, zB, zC, zD, zE, zF, zG, reduceCtorEq, zH, zI, zJ, zK, zL, List.length_append, List.length_map, List.length_cons, List.length_nil, Nat.zero_add]) <;> rfl, ?_⟩)) (by repeat (first | exact trivial | refine ⟨rfl, ?_⟩ | refine ⟨by (simp only [go_sem, zA, zB, zC, zD, zE, zF, zG, reduceCtorEq, zH, zI, zJ, zK, zL, List.length_append, List.length_map, List.length_cons, List.length_nil, Nat.zero_add]) <;> rfl, ?_⟩)) rfl rfl rfl⟩)
      all_goals rfl
    ·
      repeat' (first | (simp only [go_sem, zA, zB, zC, zD, zE, zF, zG, reduceCtorEq, zH, zI, zJ, zK, zL, List.length_map, hb, hz]; all_goals fail_if_success guard_target =ₛ False) | (with_reducible first | ((first | refine seqVC_stepN rfl ?_ | refine seqVC_stepG rfl (by with_unfolding_all rfl) ?_ | refine AWP.seq ?_ | refine AWP.seqR (by kernel_rfl) ?_ | refine parVC_stepN rfl ?_ | refine parVC_stepG rfl (by with_unfolding_all rfl) ?_ | refine parEVC_stepN rfl ?_ | refine parEVC_stepG rfl (by with_unfolding_all rfl) ?_ | refine genVC_stepN rfl ?_ | refine genVC_stepG rfl (by with_unfolding_all rfl) ?_); intro K hK) | ((first | refine hK _ _ _ ?_ | refine hK _ _ ?_ | refine hK _ ?_); clear hK K) | refine seqVC_nil ?_ | refine parVC_nil ?_ | refine parEVC_nil ?_ | refine genVC_nil ?_ | refine AWP.block ?_ | (refine AWP.cond (by with_unfolding_all rfl) ?_ ?_ <;> intro h <;> (try simp only [zM, zN] at h) <;> try exact absurd h (by decide)) | refine AWP.skip ?_ | refine AWP.ret ?_ | refine AWP.exit ?_ | (refine ⟨fun h => ?_, fun h => ?_⟩ <;> (try simp only [zM, zN] at h) <;> try simp only [h]) | refine ⟨_, hnx, ?_⟩ | refine ⟨_, awake25_c, ?_⟩ | refine ⟨by omega, encVal x, hx', ?_⟩ | refine AWP.parR mixed (by kernel_rfl) fun K hK => ?_ | refine ⟨(by kernel_rfl : depB _ _ _ = true), ?_⟩ | refine Or.inl ?_) | (clear hK K))
      all_goals (first | exact fun _ h => (by cases h) | (refine fin0 ?_; first | rfl | (simp only [zb, cond_true, cond_false, decide_true, decide_false] <;> rfl)))
  · intro s hb hok
    simp only [go_sem, zA, zB, zC, zD, zE, zF, zG, reduceCtorEq, zH, zI, zJ, zK, zL]
    cases hz : decide ((cn : Int) ≤ 20)
    ·
      repeat' (first | (simp only [go_sem, zA, zB, zC, zD, zE, zF, zG, reduceCtorEq, zH, zI, zJ, zK, zL, List.length_map, hb, hz, beq_self_eq_true]; all_goals fail_if_success guard_target =ₛ False) | (with_reducible first | ((first | refine seqVC_stepN rfl ?_ | refine seqVC_stepG rfl (by with_unfolding_all rfl) ?_ | refine AWP.seq ?_ | refine AWP.seqR (by kernel_rfl) ?_ | refine parVC_stepN rfl ?_ | refine parVC_stepG rfl (by with_unfolding_all rfl) ?_ | refine parEVC_stepN rfl ?_ | refine parEVC_stepG rfl (by with_unfolding_all rfl) ?_ | refine genVC_stepN rfl ?_ | refine genVC_stepG rfl (by with_unfolding_all rfl) ?_); intro K hK) | ((first | refine hK _ _ _ ?_ | refine hK _ _ ?_ | refine hK _ ?_); clear hK K) | refine seqVC_nil ?_ | refine parVC_nil ?_ | refine parEVC_nil ?_ | refine genVC_nil ?_ | refine AWP.block ?_ | (refine AWP.cond (by with_unfolding_all rfl) ?_ ?_ <;> intro h <;> (try simp only [zM, zN] at h) <;> try exact absurd h (by decide)) | refine AWP.skip ?_ | refine AWP.ret ?_ | refine AWP.exit ?_ | (refine ⟨fun h => ?_, fun h => ?_⟩ <;> (try simp only [zM, zN] at h) <;> try simp only [h]) | refine ⟨_, ez, ?_⟩ | refine ⟨_, e1, ?_⟩ | refine ⟨_, r1, ?_⟩ | refine ⟨_, e2, ?_⟩ | refine ⟨_, r2, ?_⟩ | refine ⟨_, e3, ?_⟩ | refine ⟨_, r3, ?_⟩ | refine ⟨_, awake25_c, ?_⟩) | (refine ⟨47, _, _, _, hg, rfl, ?_⟩) | (refine ⟨51, _, _, _, c1, rfl, ?_⟩) | (refine ⟨51, _, _, _, c2, rfl, ?_⟩) | (refine ⟨51, _, _, _, c3, rfl, ?_⟩) | (with_reducible first | refine AWP.parR mixed (by kernel_rfl) fun K hK => ?_ | refine ⟨(by kernel_rfl : depB _ _ _ = true), ?_⟩ | refine Or.inl ?_) | (clear hK K))
      all_goals (first | exact fun _ h => (by cases h) | (refine fin0 ?_; first | rfl | (simp only [zb, cond_true, cond_false, decide_true, decide_false] <;> rfl)))
    · have hx0 := hnot hz
      subst hx0
      cases x1
      all_goals
        repeat' (first | (simp only [go_sem, zA, zB, zC, zD, zE, zF, zG, reduceCtorEq, zH, zI, zJ, zK, zL, List.length_map, hb, hz, beq_self_eq_true]; all_goals fail_if_success guard_target =ₛ False) | (with_reducible first | ((first | refine seqVC_stepN rfl ?_ | refine seqVC_stepG rfl (by with_unfolding_all rfl) ?_ | refine AWP.seq ?_ | refine AWP.seqR (by kernel_rfl) ?_ | refine parVC_stepN rfl ?_ | refine parVC_stepG rfl (by with_unfolding_all rfl) ?_ | refine parEVC_stepN rfl ?_ | refine parEVC_stepG rfl (by with_unfolding_all rfl) ?_ | refine genVC_stepN rfl ?_ | refine genVC_stepG rfl (by with_unfolding_all rfl) ?_); intro K hK) | ((first | refine hK _ _ _ ?_ | refine hK _ _ ?_ | refine hK _ ?_); clear hK K) | refine seqVC_nil ?_ | refine parVC_nil ?_ | refine parEVC_nil ?_ | refine genVC_nil ?_ | refine AWP.block ?_ | (refine AWP.cond (by with_unfolding_all rfl) ?_ ?_ <;> intro h <;> (try simp only [zM, zN] at h) <;> try exact absurd h (by decide)) | refine AWP.skip ?_ | refine AWP.ret ?_ | refine AWP.exit ?_ | (refine ⟨fun h => ?_, fun h => ?_⟩ <;> (try simp only [zM, zN] at h) <;> try simp only [h]) | refine ⟨_, ez, ?_⟩ | refine ⟨_, en, ?_⟩ | refine ⟨_, e1, ?_⟩ | refine ⟨_, r1, ?_⟩ | refine ⟨_, e2, ?_⟩ | refine ⟨_, r2, ?_⟩ | refine ⟨_, e3, ?_⟩ | refine ⟨_, r3, ?_⟩ | refine ⟨_, awake25_c, ?_⟩) | (refine ⟨47, _, _, _, hg, rfl, ?_⟩) | (refine ⟨51, _, _, _, c1, rfl, ?_⟩) | (refine ⟨51, _, _, _, c2, rfl, ?_⟩) | (refine ⟨51, _, _, _, c3, rfl, ?_⟩) | (with_reducible first | refine AWP.parR mixed (by kernel_rfl) fun K hK => ?_ | refine ⟨(by kernel_rfl : depB _ _ _ = true), ?_⟩ | refine Or.inl ?_) | (clear hK K))
      all_goals (first | exact fun _ h => (by cases h) | (refine fin0 ?_; first | rfl | (simp only [zb, cond_true, cond_false, decide_true, decide_false] <;> rfl)))
end Go.Proofs.YteobojeemflggaaGreat
