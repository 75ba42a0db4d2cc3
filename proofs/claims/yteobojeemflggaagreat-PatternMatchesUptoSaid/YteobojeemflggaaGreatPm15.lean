/- A part of the proof. Conditions: those that each lemma states. -/
import Derived.Test.YteobojeemflggaaGreatPm14
import Derived.Test.YteobojeemflggaaGreatPm4
import Derived.Test.YteobojeemflggaaGreatPm5
import Derived.Test.YteobojeemflggaaGreatPm13
import Derived.Test.YteobojeemflggaaGreatPm10
import Derived.Test.YteobojeemflggaaGreatPm7
import Derived.Test.YteobojeemflggaaGreatPm6
import Derived.WalkKit
import Derived.ProofKit
import Derived.Lib.SliceRun
import Derived.Test.YteobojeemflggaaGreatPm9
open Go.Proofs.Tryz renaming prog → zP
open List renaming length_append → lA, length_map → lB, length_cons → lC, length_nil → lD, map_cons → lE, take_succ_cons → lG, take_zero → lH, drop_succ_cons → lI, drop_zero → lJ, take_length → lK, mem_singleton → lN, mem_of_getElem? → lP, length_take → lQ
open Go.Sx renaming seqVC_stepN → yA, seqVC_stepG → yB, parVC_stepN → yC, parVC_stepG → yD, parEVC_stepN → yE, parEVC_stepG → yF, genVC_stepN → yG, genVC_stepG → yH
open Go.Sx.AWP renaming seq → yS, seqR → yT, block → yU, cond → yV, skip → yW, ret → yX, exit → yY, parR → yZ, segP → xB, range → xC, gh → xD
open Go.Sx.Gh renaming to → xG, freeze → xH, nilrow → xI
open Nat renaming reduceBEq → zA, reduceBNe → zB, reduceAdd → zC, reduceSub → zD, reduceMul → zE, reduceLeDiff → zF, reduceLT → zG, reduceEqDiff → zH
open Int renaming reduceToNat → zI, reduceLE → zJ, reduceLT → zK, reduceEq → zL
open Bool renaming not_eq_true' → zM, not_eq_false' → zN
set_option linter.unusedSimpArgs false
set_option linter.unusedVariables false
set_option maxRecDepth 20000
set_option maxHeartbeats 64000000
namespace Go.Proofs.YteobojeemflggaaGreat
open Go Go.Sx
variable {f1 f0 : Src → Val × Src} {h : Nat}
theorem nil_lit : encVal nilVal = [.int .i64 5, .int .i64 0, .str [], .sl 7 [], .sl 2 [], .sl 9 [], .sl 1 []] := by rw [encVal_eq]; rfl
theorem cons_lit (a b : Val) : encVal (consVal a b) = [.int .i64 7, .int .i64 0, .str [], .sl 7 [encVal a, encVal b], .sl 2 [], .sl 9 [], .sl 1 []] := by rw [encVal_eq]; rfl
theorem nil_lab (ls : List (List UInt8)) : Vt { nilVal with labels := ls } = .st [.int .i64 5, .int .i64 0, .str [], .sl 7 [], .sl 2 [], .sl 9 [], .sl 1 (ls.map Sx.encStr)] := by rw [Vt, encVal_eq]; rfl
theorem cons_lab (a : Val) (ls : List (List UInt8)) : Vt { consVal a nilVal with labels := ls } = .st [.int .i64 7, .int .i64 0, .str [], .sl 7 [encVal a, [.int .i64 5, .int .i64 0, .str [], .sl 7 [], .sl 2 [], .sl 9 [], .sl 1 []]], .sl 2 [], .sl 9 [], .sl 1 (ls.map Sx.encStr)] := by
  rw [Vt, encVal_eq]; simp only [consVal, lE, List.map_nil, nil_lit]
theorem value_2 (H1 : ValueC f1 (h + 1)) (H0 : ValueC f0 h) (hf1 : ∀ s : Src, s.ok → (f1 s).2.ok) (hf0 : ∀ s : Src, s.ok → (f0 s).2.ok) (hh : h ≤ 1000) : ValK f1 f0 h 2 := by
  intro s hs hk
  have hb : decide (((h + 2 : Nat) : Int) ≤ 1) = false := by simp; omega
  have hs1 := ok_next hs 6
  have hw : IntKind.i64.wrap (((h + 2 : Nat) : Int) - 1) = ((h + 1 : Nat) : Int) := by rw [w64 (by omega)]; omega
  have hw0 : IntKind.i64.wrap (((h + 2 : Nat) : Int) - 2) = ((h : Nat) : Int) := by rw [w64 (by omega)]; omega
  have hbig : decide ((2 : Int) < ((h + 2 : Nat) : Int)) = decide (0 < h) := by rw [← Bool.coe_iff_coe]; simp only [decide_eq_true_eq]; omega
  cases hB : decide (0 < h) with
  | false =>
    rw [hB] at hbig
    rw [show valueK f1 f0 false 2 (nextS s 6) = (consVal (f1 (labelsV (nextS s 6)).2).1 { nilVal with labels := (labelsV (nextS s 6)).1 }, (f1 (labelsV (nextS s 6)).2).2) from rfl]
    have hc := refCons_c (f1 (labelsV (nextS s 6)).2).1 { nilVal with labels := (labelsV (nextS s 6)).1 }
    rw [nil_lab] at hc
    refine PCB.of_body Tryz.func31 rfl (by decide) Tryz.ntmps31 Tryz.results31 rfl rfl rfl ?_ rfl rfl
    repeat' (first | (simp only [go_sem, zA, zB, zC, zD, zE, zF, zG, reduceCtorEq, zH, zI, zJ, zK, zL, pin, hb, hk, hbig, nil_lit, hw]; all_goals fail_if_success guard_target =ₛ False) | (with_reducible first | ((first | refine yA rfl ?_ | refine yB rfl ?_ | refine yS ?_ | refine yT (by kernel_rfl) ?_ | refine yC rfl ?_ | refine yD rfl ?_ | refine yE rfl ?_ | refine yF rfl ?_ | refine yG rfl ?_ | refine yH rfl ?_); intro K hK) | (apply hK; clear hK K) | refine yU ?_ | (refine yV (by with_unfolding_all rfl) ?_ ?_ <;> intro h <;> (try simp only [zM, zN] at h) <;> try exact absurd h (by decide)) | refine yW ?_ | refine yX ?_ | refine yY ?_ | (refine ⟨fun h => ?_, fun h => ?_⟩ <;> (try simp only [zM, zN] at h) <;> try simp only [h]) | refine ⟨_, refNil_c, ?_⟩ | refine ⟨_, hc, ?_⟩) | (refine ⟨1000000, _, _, _, next_k 1000000 s hs 6 (by omega), rfl, ?_⟩) | (refine ⟨1000000, _, _, _, labels_k 1000000 _ hs1, rfl, ?_⟩) | (refine ⟨1000000, _, _, _, H1.k 1000000 _ (ok_labels hs1), rfl, ?_⟩) | (with_reducible first | (refine AWP.genR (id := 16) [3,6] [1000000,4] mixed (by kernel_rfl) fun K hK => ?_; simp only [Bx.outs, Bx.drop, cond_true, cond_false, Nat.reduceBEq, go_sem]) | refine yZ mixed (by kernel_rfl) fun K hK => ?_ | refine ⟨(by kernel_rfl : depB _ _ _ = true), ?_⟩ | refine Or.inl ?_) | (clear hK K))
    all_goals (first | refine ⟨rfl, fun x hx => ?_⟩ | refine ⟨trivial, fun x hx => ?_⟩ | refine fun x hx => ?_)
    all_goals (simp only [lN] at hx; subst hx; simp [pin])
  | true =>
    rw [hB] at hbig
    have hs2 := ok_next hs1 2
    cases hN : decide (nextV (nextS s 6) 2 = 1) with
    | false =>
      rw [show valueK f1 f0 true 2 (nextS s 6) = (consVal (f1 (labelsV (nextS (nextS s 6) 2)).2).1 { nilVal with labels := (labelsV (nextS (nextS s 6) 2)).1 }, (f1 (labelsV (nextS (nextS s 6) 2)).2).2) from by unfold valueK tailV lab; rw [hN]; rfl]
      have hc := refCons_c (f1 (labelsV (nextS (nextS s 6) 2)).2).1 { nilVal with labels := (labelsV (nextS (nextS s 6) 2)).1 }
      rw [nil_lab] at hc
      refine PCB.of_body Tryz.func31 rfl (by decide) Tryz.ntmps31 Tryz.results31 rfl rfl rfl ?_ rfl rfl
      repeat' (first | (simp only [go_sem, zA, zB, zC, zD, zE, zF, zG, reduceCtorEq, zH, zI, zJ, zK, zL, pin, hb, hk, hbig, hN, nil_lit, hw]; all_goals fail_if_success guard_target =ₛ False) | (with_reducible first | ((first | refine yA rfl ?_ | refine yB rfl ?_ | refine yS ?_ | refine yT (by kernel_rfl) ?_ | refine yC rfl ?_ | refine yD rfl ?_ | refine yE rfl ?_ | refine yF rfl ?_ | refine yG rfl ?_ | refine yH rfl ?_); intro K hK) | (apply hK; clear hK K) | refine yU ?_ | (refine yV (by with_unfolding_all rfl) ?_ ?_ <;> intro h <;> (try simp only [zM, zN] at h) <;> try exact absurd h (by decide)) | refine yW ?_ | refine yX ?_ | refine yY ?_ | (refine ⟨fun h => ?_, fun h => ?_⟩ <;> (try simp only [zM, zN] at h) <;> try simp only [h]) | refine ⟨_, refNil_c, ?_⟩ | refine ⟨_, hc, ?_⟩) | (refine ⟨1000000, _, _, _, next_k 1000000 s hs 6 (by omega), rfl, ?_⟩) | (refine ⟨1000000, _, _, _, next_k 1000000 _ hs1 2 (by omega), rfl, ?_⟩) | (refine ⟨1000000, _, _, _, labels_k 1000000 _ hs2, rfl, ?_⟩) | (refine ⟨1000000, _, _, _, H1.k 1000000 _ (ok_labels hs2), rfl, ?_⟩) | (with_reducible first | (refine AWP.genR (id := 16) [3,6] [1000000,4] mixed (by kernel_rfl) fun K hK => ?_; simp only [Bx.outs, Bx.drop, cond_true, cond_false, Nat.reduceBEq, go_sem]) | refine yZ mixed (by kernel_rfl) fun K hK => ?_ | refine ⟨(by kernel_rfl : depB _ _ _ = true), ?_⟩ | refine Or.inl ?_) | (clear hK K))
      all_goals (first | refine ⟨rfl, fun x hx => ?_⟩ | refine ⟨trivial, fun x hx => ?_⟩ | refine fun x hx => ?_)
      all_goals (simp only [lN] at hx; subst hx; simp [pin])
    | true =>
      have hs3 := hf0 _ hs2
      rw [show valueK f1 f0 true 2 (nextS s 6) = (consVal (f1 (labelsV (f0 (nextS (nextS s 6) 2)).2).2).1 { consVal (f0 (nextS (nextS s 6) 2)).1 nilVal with labels := (labelsV (f0 (nextS (nextS s 6) 2)).2).1 }, (f1 (labelsV (f0 (nextS (nextS s 6) 2)).2).2).2) from by unfold valueK tailV lab; rw [hN]; rfl]
      have hc := refCons_c (f1 (labelsV (f0 (nextS (nextS s 6) 2)).2).2).1 { consVal (f0 (nextS (nextS s 6) 2)).1 nilVal with labels := (labelsV (f0 (nextS (nextS s 6) 2)).2).1 }
      rw [cons_lab] at hc
      have hc0 := refCons_c (f0 (nextS (nextS s 6) 2)).1 nilVal
      rw [Vt, Vt, Vt, nil_lit] at hc0
      refine PCB.of_body Tryz.func31 rfl (by decide) Tryz.ntmps31 Tryz.results31 rfl rfl rfl ?_ rfl rfl
      repeat' (first | (simp only [go_sem, zA, zB, zC, zD, zE, zF, zG, reduceCtorEq, zH, zI, zJ, zK, zL, pin, hb, hk, hbig, hN, nil_lit, cons_lit (f0 (nextS (nextS s 6) 2)).1 nilVal, hw, hw0]; all_goals fail_if_success guard_target =ₛ False) | (with_reducible first | ((first | refine yA rfl ?_ | refine yB rfl ?_ | refine yS ?_ | refine yT (by kernel_rfl) ?_ | refine yC rfl ?_ | refine yD rfl ?_ | refine yE rfl ?_ | refine yF rfl ?_ | refine yG rfl ?_ | refine yH rfl ?_); intro K hK) | (apply hK; clear hK K) | refine yU ?_ | (refine yV (by with_unfolding_all rfl) ?_ ?_ <;> intro h <;> (try simp only [zM, zN] at h) <;> try exact absurd h (by decide)) | refine yW ?_ | refine yX ?_ | refine yY ?_ | (refine ⟨fun h => ?_, fun h => ?_⟩ <;> (try simp only [zM, zN] at h) <;> try simp only [h]) | refine ⟨_, refNil_c, ?_⟩ | refine ⟨_, hc, ?_⟩ | refine ⟨_, hc0, ?_⟩) | (refine ⟨1000000, _, _, _, next_k 1000000 s hs 6 (by omega), rfl, ?_⟩) | (refine ⟨1000000, _, _, _, next_k 1000000 _ hs1 2 (by omega), rfl, ?_⟩) | (refine ⟨1000000, _, _, _, H0.k 1000000 _ hs2, rfl, ?_⟩) | (refine ⟨1000000, _, _, _, labels_k 1000000 _ hs3, rfl, ?_⟩) | (refine ⟨1000000, _, _, _, H1.k 1000000 _ (ok_labels hs3), rfl, ?_⟩) | (with_reducible first | (refine AWP.genR (id := 16) [3,6] [1000000,4] mixed (by kernel_rfl) fun K hK => ?_; simp only [Bx.outs, Bx.drop, cond_true, cond_false, Nat.reduceBEq, go_sem]) | refine yZ mixed (by kernel_rfl) fun K hK => ?_ | refine ⟨(by kernel_rfl : depB _ _ _ = true), ?_⟩ | refine Or.inl ?_) | (clear hK K))
      all_goals (first | refine ⟨rfl, fun x hx => ?_⟩ | refine ⟨trivial, fun x hx => ?_⟩ | refine fun x hx => ?_)
      all_goals (simp only [lN] at hx; subst hx; simp [pin])
theorem value_3 (H1 : ValueC f1 (h + 1)) (hf1 : ∀ s : Src, s.ok → (f1 s).2.ok) (hh : h ≤ 1000) : ValK f1 f0 h 3 := by
  intro s hs hk
  have hb : decide (((h + 2 : Nat) : Int) ≤ 1) = false := by simp; omega
  have hs1 := ok_next hs 6
  have hw : IntKind.i64.wrap (((h + 2 : Nat) : Int) - 1) = ((h + 1 : Nat) : Int) := by rw [w64 (by omega)]; omega
  have hv := nextV_in (nextS s 6) (n := 3) (by omega)
  obtain ⟨n, hn⟩ := Int.eq_ofNat_of_zero_le hv.1
  rw [show valueK f1 f0 (decide (0 < h)) 3 (nextS s 6) = (bif decide ((mapV (pairM f1 n (nextS (nextS s 6) 3)).1.1 (pairM f1 n (nextS (nextS s 6) 3)).1.2).2 = 0) then ((mapV (pairM f1 n (nextS (nextS s 6) 3)).1.1 (pairM f1 n (nextS (nextS s 6) 3)).1.2).1, (pairM f1 n (nextS (nextS s 6) 3)).2) else leafV (pairM f1 n (nextS (nextS s 6) 3)).2) from by unfold valueK; rw [hn]; rfl]
  refine PCB.of_body Tryz.func31 rfl (by decide) Tryz.ntmps31 Tryz.results31 rfl rfl rfl ?_ rfl rfl
  repeat' (first | (simp only [go_sem, zA, zB, zC, zD, zE, zF, zG, reduceCtorEq, zH, zI, zJ, zK, zL, pin, hb, hk, hn]; all_goals fail_if_success guard_target =ₛ False) | (with_reducible first | ((first | refine yA rfl ?_ | refine yB rfl ?_ | refine yS ?_ | refine yT (by kernel_rfl) ?_ | refine yC rfl ?_ | refine yD rfl ?_ | refine yE rfl ?_ | refine yF rfl ?_ | refine yG rfl ?_ | refine yH rfl ?_); intro K hK) | (apply hK; clear hK K) | refine yU ?_ | (refine yV (by with_unfolding_all rfl) ?_ ?_ <;> intro h <;> (try simp only [zM, zN] at h) <;> try exact absurd h (by decide)) | refine yW ?_ | refine yX ?_ | refine yY ?_ | (refine ⟨fun h => ?_, fun h => ?_⟩ <;> (try simp only [zM, zN] at h) <;> try simp only [h])) | (refine ⟨1000000, _, _, _, next_k 1000000 s hs 6 (by omega), rfl, ?_⟩) | (refine ⟨1000000, _, _, _, next_k 1000000 _ hs1 3 (by omega), rfl, ?_⟩) | (with_reducible first | (refine xB (id := 16) 6 mixed (by kernel_rfl) fun K hK => ?_; simp only [lG, lH, lI, lJ]) | refine yZ mixed (by kernel_rfl) fun K hK => ?_ | refine ⟨(by kernel_rfl : depB _ _ _ = true), ?_⟩ | refine Or.inl ?_) | (clear hK K))
  refine xD (xI 8 901 rfl rfl rfl rfl) ?_
  refine xD (xI 9 902 rfl rfl rfl rfl) ?_
  refine AWP.loopF (X := Nat × Src × List KeyD × List Val) (fun x => [(0, Sp 1000000), (8, .one (.own 901 x.2.2.1.length)), (9, .one (.own 902 x.2.2.2.length)), (10, I .i64 x.1)]) (fun x => [(1000000, srcB x.2.1), (901, .row 2 (x.2.2.1.map encKey)), (902, .row 7 (x.2.2.2.map encVal))]) [1, 4] [4] (fun x => x.1 + x.2.2.1.length ≤ 1000 ∧ x.2.2.1.length = x.2.2.2.length ∧ x.2.1.ok ∧ pairM f1 n (nextS (nextS s 6) 3) = ((x.2.2.1 ++ (pairM f1 x.1 x.2.1).1.1, x.2.2.2 ++ (pairM f1 x.1 x.2.1).1.2), (pairM f1 x.1 x.2.1).2)) (fun x => x.1) ((n, nextS (nextS s 6) 3, [], [])) (by simp only [go_sem, zA, zB, zC, zD, zE, zF, zG, reduceCtorEq, zH, zI, zJ, zK, zL]; exact (by refine xG [] ?_ ?_ rfl rfl rfl <;> repeat first | exact trivial | refine ⟨rfl, ?_⟩ | refine ⟨by (simp only [go_sem, zA, zB, zC, zD, zE, zF, zG, reduceCtorEq, zH, zI, zJ, zK, zL, lA, lB, lC, lD, Nat.zero_add]) <;> rfl, ?_⟩)) ?_ ?_
  · exact ⟨by simp; omega, rfl, ok_next hs1 3, by simp⟩
  rintro ⟨m, t, ak, av⟩ ⟨hl, hkv, ht, hp⟩
  simp only at hl hkv ht hp
  simp only [go_sem, zA, zB, zC, zD, zE, zF, zG, reduceCtorEq, zH, zI, zJ, zK, zL]
  cases m with
  | succ m =>
    rw [pairM_step] at hp
    have hw2 : IntKind.i64.wrap (((m + 1 : Nat) : Int) - 1) = (m : Int) := wrap_pred_nat (by omega)
    repeat' (first | (simp only [go_sem, zA, zB, zC, zD, zE, zF, zG, reduceCtorEq, zH, zI, zJ, zK, zL, pin, lB, dec_pos, hw, hw2, val_snoc, key_snoc]; all_goals fail_if_success guard_target =ₛ False) | (with_reducible first | ((first | refine yA rfl ?_ | refine yB rfl ?_ | refine yS ?_ | refine yT (by kernel_rfl) ?_ | refine yC rfl ?_ | refine yD rfl ?_ | refine yE rfl ?_ | refine yF rfl ?_ | refine yG rfl ?_ | refine yH rfl ?_); intro K hK) | (apply hK; clear hK K) | refine yU ?_ | (refine yV (by with_unfolding_all rfl) ?_ ?_ <;> intro h <;> (try simp only [zM, zN] at h) <;> try exact absurd h (by decide)) | refine yW ?_ | refine yX ?_ | refine yY ?_ | (refine ⟨fun h => ?_, fun h => ?_⟩ <;> (try simp only [zM, zN] at h) <;> try simp only [h]) | (refine ⟨(by first | omega | (simp only [lA, lB, lQ, List.length_drop, lC, lD, List.length_replicate]; omega) : _ ≤ _), ?_⟩) | refine ⟨by omega, by omega, ?_⟩) | (refine ⟨1000000, _, _, _, key_k 1000000 t ht, rfl, ?_⟩) | (refine ⟨1000000, _, _, _, H1.k 1000000 _ (ok_key ht), rfl, ?_⟩) | (with_reducible first | (refine xB (id := 16) 6 mixed (by kernel_rfl) fun K hK => ?_; simp only [lG, lH, lI, lJ]) | refine yZ mixed (by kernel_rfl) fun K hK => ?_ | refine ⟨(by kernel_rfl : depB _ _ _ = true), ?_⟩ | refine Or.inl ?_) | (clear hK K))
    all_goals (refine ⟨(m, (f1 (keyV t).2).2, ak ++ [(keyV t).1], av ++ [(f1 (keyV t).2).1]), by simp only; omega, ⟨by simp; omega, by simp; omega, hf1 _ (ok_key ht), hp⟩, (by refine xG [(901, 78), (902, 85)] ?_ ?_ rfl rfl rfl <;> repeat first | exact trivial | refine ⟨rfl, ?_⟩ | refine ⟨by (simp only [go_sem, zA, zB, zC, zD, zE, zF, zG, reduceCtorEq, zH, zI, zJ, zK, zL, lA, lB, lC, lD, Nat.zero_add]) <;> rfl, ?_⟩)⟩)
  | zero =>
    rw [pairM, List.append_nil, List.append_nil] at hp
    have h0 : decide ((0 : Int) < ((0 : Nat) : Int)) = false := by simp
    have hlen : ak.length ≤ 1000000 := by omega
    cases hm : decide ((mapV ak av).2 = 0)
    all_goals
      repeat' (first | (simp only [go_sem, zA, zB, zC, zD, zE, zF, zG, reduceCtorEq, zH, zI, zJ, zK, zL, pin, h0, hm, lB]; all_goals fail_if_success guard_target =ₛ False) | (with_reducible first | ((first | refine yA rfl ?_ | refine yB rfl ?_ | refine yS ?_ | refine yT (by kernel_rfl) ?_ | refine yC rfl ?_ | refine yD rfl ?_ | refine yE rfl ?_ | refine yF rfl ?_ | refine yG rfl ?_ | refine yH rfl ?_); intro K hK) | (apply hK; clear hK K) | refine yU ?_ | (refine yV (by with_unfolding_all rfl) ?_ ?_ <;> intro h <;> (try simp only [zM, zN] at h) <;> try exact absurd h (by decide)) | refine yW ?_ | refine yX ?_ | refine yY ?_ | (refine ⟨fun h => ?_, fun h => ?_⟩ <;> (try simp only [zM, zN] at h) <;> try simp only [h]) | refine ⟨_, refMap_c ak av hlen, ?_⟩) | (refine ⟨1000000, _, _, _, leaf_k 1000000 t ht, rfl, ?_⟩) | (with_reducible first | (refine xB (id := 16) 6 mixed (by kernel_rfl) fun K hK => ?_; simp only [lG, lH, lI, lJ]) | refine yZ mixed (by kernel_rfl) fun K hK => ?_ | refine ⟨(by kernel_rfl : depB _ _ _ = true), ?_⟩ | refine Or.inl ?_) | (clear hK K))
    all_goals (simp only [hp, hm, cond_true, cond_false])
    all_goals (first | refine ⟨rfl, fun x hx => ?_⟩ | refine ⟨trivial, fun x hx => ?_⟩ | refine fun x hx => ?_)
    all_goals (simp only [lN] at hx; subst hx; simp [pin])
theorem ent_snoc (l : List Ent) (x : Ent) : l.map encEnt ++ [encEnt x] = (l ++ [x]).map encEnt := by simp
theorem entry_k (H : ValueC f1 h) (hf : ∀ s : Src, s.ok → (f1 s).2.ok) (n : Nat) (hn : n ≤ 1000) (k : Nat) (s : Src) (hs : s.ok) : PCBk zP 57 [Sp k, I .i64 n, I .i64 h] k (srcB s) (.st (encEnt (entryV f1 n s).1)) (srcB (entryV f1 n s).2) := PCBk.mk k (entry_c H hf n hn s hs)
theorem value_4 (H1 : ValueC f1 (h + 1)) (hf1 : ∀ s : Src, s.ok → (f1 s).2.ok) (hh : h ≤ 1000) : ValK f1 f0 h 4 := by
  intro s hs hk
  have hb : decide (((h + 2 : Nat) : Int) ≤ 1) = false := by simp; omega
  have hs1 := ok_next hs 6
  have hw : IntKind.i64.wrap (((h + 2 : Nat) : Int) - 1) = ((h + 1 : Nat) : Int) := by rw [w64 (by omega)]; omega
  have hv := nextV_in (nextS s 6) (n := 3) (by omega)
  have hv2 := nextV_in (nextS (nextS s 6) 3) (n := 3) (by omega)
  obtain ⟨n, hn⟩ := Int.eq_ofNat_of_zero_le hv.1
  obtain ⟨c, hc⟩ := Int.eq_ofNat_of_zero_le hv2.1
  rw [show valueK f1 f0 (decide (0 < h)) 4 (nextS s 6) = (bif decide ((fnV n (listM (entryV f1 n) c (nextS (nextS (nextS s 6) 3) 3)).1).2 = 0) then ((fnV n (listM (entryV f1 n) c (nextS (nextS (nextS s 6) 3) 3)).1).1, (listM (entryV f1 n) c (nextS (nextS (nextS s 6) 3) 3)).2) else leafV (listM (entryV f1 n) c (nextS (nextS (nextS s 6) 3) 3)).2) from by unfold valueK; rw [hn, hc]; rfl]
  have hn3 : n ≤ 1000 := by omega
  refine PCB.of_body Tryz.func31 rfl (by decide) Tryz.ntmps31 Tryz.results31 rfl rfl rfl ?_ rfl rfl
  repeat' (first | (simp only [go_sem, zA, zB, zC, zD, zE, zF, zG, reduceCtorEq, zH, zI, zJ, zK, zL, pin, hb, hk, hn, hc]; all_goals fail_if_success guard_target =ₛ False) | (with_reducible first | ((first | refine yA rfl ?_ | refine yB rfl ?_ | refine yS ?_ | refine yT (by kernel_rfl) ?_ | refine yC rfl ?_ | refine yD rfl ?_ | refine yE rfl ?_ | refine yF rfl ?_ | refine yG rfl ?_ | refine yH rfl ?_); intro K hK) | (apply hK; clear hK K) | refine yU ?_ | (refine yV (by with_unfolding_all rfl) ?_ ?_ <;> intro h <;> (try simp only [zM, zN] at h) <;> try exact absurd h (by decide)) | refine yW ?_ | refine yX ?_ | refine yY ?_ | (refine ⟨fun h => ?_, fun h => ?_⟩ <;> (try simp only [zM, zN] at h) <;> try simp only [h])) | (refine ⟨1000000, _, _, _, next_k 1000000 s hs 6 (by omega), rfl, ?_⟩) | (refine ⟨1000000, _, _, _, next_k 1000000 _ hs1 3 (by omega), rfl, ?_⟩) | (refine ⟨1000000, _, _, _, next_k 1000000 _ (ok_next hs1 3) 3 (by omega), rfl, ?_⟩) | (with_reducible first | (refine xB (id := 16) 6 mixed (by kernel_rfl) fun K hK => ?_; simp only [lG, lH, lI, lJ]) | refine yZ mixed (by kernel_rfl) fun K hK => ?_ | refine ⟨(by kernel_rfl : depB _ _ _ = true), ?_⟩ | refine Or.inl ?_) | (clear hK K))
  refine xD (xI 14 903 rfl rfl rfl rfl) ?_
  refine AWP.loopF (X := Nat × Src × List Ent) (fun x => [(0, Sp 1000000), (14, .one (.own 903 x.2.2.length)), (15, I .i64 x.1)]) (fun x => [(1000000, srcB x.2.1), (903, .row 9 (x.2.2.map encEnt))]) [1, 4, 13] [4] (fun x => x.1 + x.2.2.length ≤ 1000 ∧ x.2.1.ok ∧ listM (entryV f1 n) c (nextS (nextS (nextS s 6) 3) 3) = (x.2.2 ++ (listM (entryV f1 n) x.1 x.2.1).1, (listM (entryV f1 n) x.1 x.2.1).2)) (fun x => x.1) ((c, nextS (nextS (nextS s 6) 3) 3, [])) (by simp only [go_sem, zA, zB, zC, zD, zE, zF, zG, reduceCtorEq, zH, zI, zJ, zK, zL]; exact (by refine xG [] ?_ ?_ rfl rfl rfl <;> repeat first | exact trivial | refine ⟨rfl, ?_⟩ | refine ⟨by (simp only [go_sem, zA, zB, zC, zD, zE, zF, zG, reduceCtorEq, zH, zI, zJ, zK, zL, lA, lB, lC, lD, Nat.zero_add]) <;> rfl, ?_⟩)) ?_ ?_
  · exact ⟨by simp; omega, ok_next (ok_next hs1 3) 3, by simp⟩
  rintro ⟨m, t, acc⟩ ⟨hl, ht, hp⟩
  simp only at hl ht hp
  simp only [go_sem, zA, zB, zC, zD, zE, zF, zG, reduceCtorEq, zH, zI, zJ, zK, zL]
  cases m with
  | succ m =>
    rw [listM_step] at hp
    have hw2 : IntKind.i64.wrap (((m + 1 : Nat) : Int) - 1) = (m : Int) := wrap_pred_nat (by omega)
    repeat' (first | (simp only [go_sem, zA, zB, zC, zD, zE, zF, zG, reduceCtorEq, zH, zI, zJ, zK, zL, pin, lB, dec_pos, hw, hw2, ent_snoc]; all_goals fail_if_success guard_target =ₛ False) | (with_reducible first | ((first | refine yA rfl ?_ | refine yB rfl ?_ | refine yS ?_ | refine yT (by kernel_rfl) ?_ | refine yC rfl ?_ | refine yD rfl ?_ | refine yE rfl ?_ | refine yF rfl ?_ | refine yG rfl ?_ | refine yH rfl ?_); intro K hK) | (apply hK; clear hK K) | refine yU ?_ | (refine yV (by with_unfolding_all rfl) ?_ ?_ <;> intro h <;> (try simp only [zM, zN] at h) <;> try exact absurd h (by decide)) | refine yW ?_ | refine yX ?_ | refine yY ?_ | (refine ⟨fun h => ?_, fun h => ?_⟩ <;> (try simp only [zM, zN] at h) <;> try simp only [h]) | (refine ⟨(by first | omega | (simp only [lA, lB, lQ, List.length_drop, lC, lD, List.length_replicate]; omega) : _ ≤ _), ?_⟩) | refine ⟨by omega, by omega, ?_⟩) | (refine ⟨1000000, _, _, _, entry_k H1 hf1 n hn3 1000000 t ht, rfl, ?_⟩) | (with_reducible first | (refine xB (id := 16) 6 mixed (by kernel_rfl) fun K hK => ?_; simp only [lG, lH, lI, lJ]) | refine yZ mixed (by kernel_rfl) fun K hK => ?_ | refine ⟨(by kernel_rfl : depB _ _ _ = true), ?_⟩ | refine Or.inl ?_) | (clear hK K))
    all_goals (refine ⟨(m, (entryV f1 n t).2, acc ++ [(entryV f1 n t).1]), by simp only; omega, ⟨by simp; omega, entry_ok hf1 n ht, hp⟩, (by refine xG [(903, 112)] ?_ ?_ rfl rfl rfl <;> repeat first | exact trivial | refine ⟨rfl, ?_⟩ | refine ⟨by (simp only [go_sem, zA, zB, zC, zD, zE, zF, zG, reduceCtorEq, zH, zI, zJ, zK, zL, lA, lB, lC, lD, Nat.zero_add]) <;> rfl, ?_⟩)⟩)
  | zero =>
    rw [listM, List.append_nil] at hp
    have h0 : decide ((0 : Int) < ((0 : Nat) : Int)) = false := by simp
    have hlen : acc.length ≤ 1000000 := by omega
    cases hm : decide ((fnV n acc).2 = 0)
    all_goals
      repeat' (first | (simp only [go_sem, zA, zB, zC, zD, zE, zF, zG, reduceCtorEq, zH, zI, zJ, zK, zL, pin, h0, hm, lB]; all_goals fail_if_success guard_target =ₛ False) | (with_reducible first | ((first | refine yA rfl ?_ | refine yB rfl ?_ | refine yS ?_ | refine yT (by kernel_rfl) ?_ | refine yC rfl ?_ | refine yD rfl ?_ | refine yE rfl ?_ | refine yF rfl ?_ | refine yG rfl ?_ | refine yH rfl ?_); intro K hK) | (apply hK; clear hK K) | refine yU ?_ | (refine yV (by with_unfolding_all rfl) ?_ ?_ <;> intro h <;> (try simp only [zM, zN] at h) <;> try exact absurd h (by decide)) | refine yW ?_ | refine yX ?_ | refine yY ?_ | (refine ⟨fun h => ?_, fun h => ?_⟩ <;> (try simp only [zM, zN] at h) <;> try simp only [h]) | refine ⟨_, refFunction_c n acc hlen, ?_⟩) | (refine ⟨1000000, _, _, _, leaf_k 1000000 t ht, rfl, ?_⟩) | (with_reducible first | (refine xB (id := 16) 6 mixed (by kernel_rfl) fun K hK => ?_; simp only [lG, lH, lI, lJ]) | refine yZ mixed (by kernel_rfl) fun K hK => ?_ | refine ⟨(by kernel_rfl : depB _ _ _ = true), ?_⟩ | refine Or.inl ?_) | (clear hK K))
    all_goals (simp only [hp, hm, cond_true, cond_false])
    all_goals (first | refine ⟨rfl, fun x hx => ?_⟩ | refine ⟨trivial, fun x hx => ?_⟩ | refine fun x hx => ?_)
    all_goals (simp only [lN] at hx; subst hx; simp [pin])
theorem value_K (H1 : ValueC f1 (h + 1)) (H0 : ValueC f0 h) (hf1 : ∀ s : Src, s.ok → (f1 s).2.ok) (hf0 : ∀ s : Src, s.ok → (f0 s).2.ok) (hh : h ≤ 1000) : ValC (fun s => valueK f1 f0 (decide (0 < h)) (nextV s 6) (nextS s 6)) (h + 2) := by
  intro s hs
  have hv := nextV_in s (n := 6) (by omega)
  have hk : nextV s 6 = 0 ∨ nextV s 6 = 1 ∨ nextV s 6 = 2 ∨ nextV s 6 = 3 ∨ nextV s 6 = 4 ∨ nextV s 6 = 5 := by omega
  simp only
  rcases hk with hk | hk | hk | hk | hk | hk <;> rw [hk]
  · exact value_5 0 (.inl rfl) hh s hs hk
  · exact value_1 H1 hf1 hh s hs hk
  · exact value_2 H1 H0 hf1 hf0 hh s hs hk
  · exact value_3 H1 hf1 hh s hs hk
  · exact value_4 H1 hf1 hh s hs hk
  · exact value_5 5 (.inr rfl) hh s hs hk
theorem value_c : ∀ h : Nat, h ≤ 1000 → ValC (valueF h) h
  | 0, _ => value_leaf 0 (by omega)
  | 1, _ => value_leaf 1 (by omega)
  | h + 2, hh => value_K (full_c (value_c (h + 1) (by omega)) (ok_value (h + 1))) (full_c (value_c h (by omega)) (ok_value h)) (fun s hs => ok_full (h + 1) s hs) (fun s hs => ok_full h s hs) (by omega)
theorem sourceValue_c (h : Nat) (hh : h ≤ 1000) : ValueC (fullV h) h := full_c (value_c h hh) (ok_value h)
end Go.Proofs.YteobojeemflggaaGreat
set_option linter.unusedVariables false
set_option linter.unusedSimpArgs false
namespace Go.Sx
variable {P : Program} {n : Nat} {σ : AS} {Q : Exit → AS → Prop}
def lastVC (P : Program) : List Oper → Env → Bx → (Env → Bx → Prop) → Prop
  | [o], env, B, K => (match o.op with
    | .store t x y => vStore P t (ev P env 0 x) (ev P env t y) B (fun B' => K (putE env o.dst undefT) B')
    | _ => False)
  | _, _, _, _ => False
attribute [go_sem] lastVC
end Go.Sx
namespace Go.Proofs.YteobojeemflggaaGreat
open Go Go.Sx
abbrev In64 (a : Int) : Prop := -9223372036854775808 ≤ a ∧ a ≤ 9223372036854775807
theorem wrap64 (x : Int) : ∃ k : Int, IntKind.i64.wrap x = x + k * 18446744073709551616 ∧ In64 (IntKind.i64.wrap x) := by
  have h : IntKind.i64.wrap x = Int.bmod x 18446744073709551616 := by
    unfold IntKind.wrap
    simp [IntKind.signed, IntKind.bits]
    rw [Int.bmod_def]
    split <;> split <;> omega
  rw [h]
  refine ⟨-((x + 9223372036854775808) / 18446744073709551616), ?_, ?_⟩
  · rw [Int.bmod_def]; split <;> omega
  · rw [Int.bmod_def]; split <;> (constructor <;> omega)
theorem wrap_mod (x : Int) (a k : Int) (h : In64 a) (hx : x = a + k * 18446744073709551616) : IntKind.i64.wrap x = a := by
  obtain ⟨j, h1, h2⟩ := wrap64 x
  omega
theorem back (a b : Int) (ha : In64 a) : IntKind.i64.wrap (IntKind.i64.wrap (a.tdiv b * b) + a.tmod b) = a := by
  obtain ⟨j, h1, h2⟩ := wrap64 (a.tdiv b * b)
  refine wrap_mod _ a j ha ?_
  have := Int.mul_tdiv_add_tmod a b
  rw [Int.mul_comm] at this
  omega
theorem bound (a b : Int) (h0 : b ≠ 0) : a.tmod b < (if b < 0 then -b else b) ∧ -(if b < 0 then -b else b) < a.tmod b := by
  have h := Int.natAbs_tmod a b
  have : (a.tmod b).natAbs < b.natAbs := by
    rw [h]; exact Nat.mod_lt _ (by omega)
  split <;> omega
end Go.Proofs.YteobojeemflggaaGreat

set_option linter.unusedSimpArgs false
set_option linter.unusedVariables false
set_option maxRecDepth 20000
namespace Go.Proofs.YteobojeemflggaaGreat
open Go Go.Sx
def Bare (d : Dat) : Prop := d.mod = [] ∧ d.version = 0 ∧ d.routine = 0 ∧ d.wrapped = false ∧ d.nodes = [] ∧ d.root = 0 ∧ d.inner = [] ∧ d.outer = []
inductive Good : Dat → Prop
  | mk (d : Dat) (hn : In64 d.num) (h1 : d.kids.length ≤ 1000) (h2 : d.keys.length ≤ 1000) (hf : d.kind ≠ 9 → Bare d) (hk : ∀ k ∈ d.kids, Good k) : Good d
theorem Good.num {d : Dat} (h : Good d) : In64 d.num := by cases h; assumption
theorem Good.kids {d : Dat} (h : Good d) : d.kids.length ≤ 1000 := by cases h; assumption
theorem Good.keys {d : Dat} (h : Good d) : d.keys.length ≤ 1000 := by cases h; assumption
theorem Good.kid {d : Dat} (h : Good d) : ∀ k ∈ d.kids, Good k := by cases h; assumption
theorem keyC_zero {a b : KeyD} : keyC a b = 0 ↔ a = b := by
  unfold keyC
  rw [chainC_zero, cmpI_zero, cmpB_zero]
  cases a; cases b; simp
theorem firstC_zero {α : Type} (f : α → α → Int) : ∀ (a b : List α), (∀ x ∈ a, ∀ y, f x y = 0 ↔ x = y) → a.length = b.length → (firstC f a b = 0 ↔ a = b)
  | [], [], _, _ => by simp [firstC]
  | [], _ :: _, _, h => by simp at h
  | _ :: _, [], _, h => by simp at h
  | x :: a, y :: b, hf, h => by
    have ih := firstC_zero f a b (fun x hx => hf x (by simp [hx])) (by simpa using h)
    have h0 := hf x (by simp) y
    simp only [firstC, List.cons.injEq]
    by_cases hz : f x y = 0
    · rw [hz]; simp only [decide_true, cond_true, ih, h0.1 hz, true_and]
    · simp only [decide_eq_false hz, cond_false]
      have : ¬ x = y := fun e => hz (h0.2 e)
      simp [hz, this]
theorem listCmp_zero {α : Type} (f : α → α → Int) (a b : List α) (hf : ∀ x ∈ a, ∀ y, f x y = 0 ↔ x = y) : listCmp f a b = 0 ↔ a = b := by
  unfold listCmp
  by_cases hl : a.length = b.length
  · have : cmpI a.length b.length = 0 := cmpI_zero.2 (by omega)
    simp only [this, decide_true, cond_true]
    exact firstC_zero f a b hf hl
  · have : ¬ cmpI a.length b.length = 0 := fun h => hl (by have := cmpI_zero.1 h; omega)
    rw [decide_eq_false this, cond_false]
    exact ⟨fun h => absurd h this, fun e => absurd (by rw [e]) hl⟩
theorem valC_zero : ∀ (a b : Val), valC a b = 0 ↔ a = b := by
  intro a
  induction a using WellFounded.induction (r := InvImage (· < ·) (SizeOf.sizeOf (α := Val))) (InvImage.wf _ Nat.lt_wfRel.wf) with
  | _ a ih =>
  intro b
  rw [valC_eq]
  have hk : ∀ x ∈ a.kids, ∀ y, valC x y = 0 ↔ x = y := fun x hx y => ih x (by
    show SizeOf.sizeOf x < SizeOf.sizeOf a
    cases a; simp only at hx; have := List.sizeOf_lt_of_mem hx; simp; omega) y
  have he : ∀ x ∈ a.ents, ∀ y, entC x y = 0 ↔ x = y := by
    intro x hx y
    have hsz : SizeOf.sizeOf x < SizeOf.sizeOf a := by
      cases a; simp only at hx; have := List.sizeOf_lt_of_mem hx; simp; omega
    rw [entC_eq, chainC_zero]
    obtain ⟨l, f, r⟩ := x
    obtain ⟨l', f', r'⟩ := y
    simp only at *
    have hl : ∀ x ∈ l, ∀ y, valC x y = 0 ↔ x = y := fun x hx y => ih x (by
      show SizeOf.sizeOf x < SizeOf.sizeOf a
      have := List.sizeOf_lt_of_mem hx; simp at hsz; omega) y
    have hr := ih r (by show SizeOf.sizeOf r < SizeOf.sizeOf a; simp at hsz; omega) r'
    rw [listCmp_zero valC l l' hl]
    cases f <;> cases f' <;> simp [hr]
  rw [chainC_zero, chainC_zero, chainC_zero, chainC_zero, chainC_zero, chainC_zero, cmpI_zero, cmpI_zero, cmpB_zero, listCmp_zero keyC _ _ (fun _ _ _ => keyC_zero), listCmp_zero valC _ _ hk, listCmp_zero entC _ _ he, listCmp_zero Lib.compareBytes _ _ (fun _ _ _ => cmpB_zero)]
  cases a; cases b
  simp only [Val.mk.injEq]
  constructor
  · rintro ⟨h1, h2, h3, h4, h5, h6, h7⟩; exact ⟨h1, h2, h3, h5, h4, h6, h7⟩
  · rintro ⟨h1, h2, h3, h4, h5, h6, h7⟩; exact ⟨h1, h2, h3, h5, h4, h6, h7⟩
structure GoodA (n : Nat) (a : PutA) : Prop where
  k : a.keys.length ≤ n
  d : a.kids.length ≤ n
  g : ∀ d ∈ a.kids, Good d
theorem GoodA.le {n m : Nat} {a : PutA} (h : GoodA n a) (hm : n ≤ m) : GoodA m a := ⟨by have := h.k; omega, by have := h.d; omega, h.g⟩
end Go.Proofs.YteobojeemflggaaGreat
set_option linter.unusedSimpArgs false
set_option linter.unusedVariables false
set_option maxRecDepth 20000
set_option maxHeartbeats 64000000
namespace Go.Proofs.YteobojeemflggaaGreat
open Go Go.Sx
theorem cloneKeysL_c (l : List KeyD) (hl : l.length ≤ 100000000) : PC zP 139 [.one (.dat (.sl 2 (l.map encKey)))] (.one (.dat (.sl 2 (l.map encKey)))) := by
  refine PCB.of_body Tryz.func139 rfl (by decide) Tryz.ntmps139 Tryz.results139 rfl rfl rfl ?_ rfl rfl
  refine AWP.ghQ ?_
  repeat' (first | ( refine AWP.nilR (e := 33) rfl (by decide) (by decide) rfl (fun hnil => ?_) ?_) | (simp only [go_sem, zA, zB, zC, zD, zE, zF, zG, reduceCtorEq, zH, zI, zJ, zK, zL, lB]; all_goals fail_if_success guard_target =ₛ False) | (with_reducible first | ((first | refine yA rfl ?_ | refine yS ?_ | refine yT (by kernel_rfl) ?_); intro K hK) | (apply hK; clear hK K) | refine yU ?_ | (refine yV (by with_unfolding_all rfl) ?_ ?_ <;> intro h <;> (try simp only [zM, zN] at h) <;> try exact absurd h (by decide)) | refine yW ?_ | refine yX ?_ | refine yY ?_ | (refine Or.inr (show vBuildOwn _ 5 _ _ _ _ _ _ from ?_); unfold vBuildOwn; with_reducible refine Or.inr ?_; simp only [vBuildRow, go_sem, zA, zB, zC, zD, zE, zF, zG, reduceCtorEq, zH, zI, zJ, zK, zL, lB]) | (refine ⟨(by first | omega | (simp only [lA, lB, lQ, List.length_drop, lC, lD, List.length_replicate]; omega) : _ ≤ _), ?_⟩) | refine ⟨by omega, by omega, ?_⟩ | refine Or.inl ?_) | (clear hK K))
  · refine ⟨_, Gh.refl _, ?_⟩
    simp only [go_sem, zA, zB, zC, zD, zE, zF, zG, reduceCtorEq, zH, zI, zJ, zK, zL]
    refine fin0 ?_
    rw [hnil]
  ·
    refine ⟨_, xH 7 rfl rfl (by simp only [go_sem, zA, zB, zC, zD, zE, zF, zG, reduceCtorEq, zH, zI, zJ, zK, zL, lB]) (by simp only [go_sem, zA, zB, zC, zD, zE, zF, zG, reduceCtorEq, zH, zI, zJ, zK, zL, lB]), ?_⟩
    simp only [go_sem, zA, zB, zC, zD, zE, zF, zG, reduceCtorEq, zH, zI, zJ, zK, zL, lB]
    all_goals (first | exact fun _ h => (by cases h) | refine fin0 ?_)
    all_goals rfl
theorem cloneStr_c (l : List (List UInt8)) (hl : l.length ≤ 100000000) : PC zP 108 [SsP l] (SsP l) := by
  refine PCB.of_body Tryz.func108 rfl (by decide) Tryz.ntmps108 Tryz.results108 rfl rfl rfl ?_ rfl rfl
  refine AWP.ghQ ?_
  repeat' (first | ( refine AWP.nilR (e := 9) rfl (by decide) (by decide) rfl (fun hnil => ?_) ?_) | (simp only [go_sem, zA, zB, zC, zD, zE, zF, zG, reduceCtorEq, zH, zI, zJ, zK, zL, lB]; all_goals fail_if_success guard_target =ₛ False) | (with_reducible first | ((first | refine yA rfl ?_ | refine yS ?_ | refine yT (by kernel_rfl) ?_); intro K hK) | (apply hK; clear hK K) | refine yU ?_ | (refine yV (by with_unfolding_all rfl) ?_ ?_ <;> intro h <;> (try simp only [zM, zN] at h) <;> try exact absurd h (by decide)) | refine yW ?_ | refine yX ?_ | refine yY ?_ | (refine Or.inr (show vBuildOwn _ 5 _ _ _ _ _ _ from ?_); unfold vBuildOwn; with_reducible refine Or.inr ?_; simp only [vBuildRow, go_sem, zA, zB, zC, zD, zE, zF, zG, reduceCtorEq, zH, zI, zJ, zK, zL, lB]) | (refine ⟨(by first | omega | (simp only [lA, lB, lQ, List.length_drop, lC, lD, List.length_replicate]; omega) : _ ≤ _), ?_⟩) | refine ⟨by omega, by omega, ?_⟩ | refine Or.inl ?_) | (clear hK K))
  · refine ⟨_, Gh.refl _, ?_⟩
    simp only [go_sem, zA, zB, zC, zD, zE, zF, zG, reduceCtorEq, zH, zI, zJ, zK, zL]
    refine fin0 ?_
    show T.one (.dat (.sl 1 [])) = T.one (.dat (.sl 1 (l.map Sx.encStr)))
    rw [hnil]
  ·
    refine ⟨_, xH 7 rfl rfl (by simp only [go_sem, zA, zB, zC, zD, zE, zF, zG, reduceCtorEq, zH, zI, zJ, zK, zL, lB]) (by simp only [go_sem, zA, zB, zC, zD, zE, zF, zG, reduceCtorEq, zH, zI, zJ, zK, zL, lB]), ?_⟩
    simp only [go_sem, zA, zB, zC, zD, zE, zF, zG, reduceCtorEq, zH, zI, zJ, zK, zL, lB]
    all_goals (first | exact fun _ h => (by cases h) | refine fin0 ?_)
    all_goals rfl
theorem cloneStr_n (l : List (List UInt8)) (hl : l.length ≤ 100000000) : PCN zP 108 [SsP l] (.one (.own 0 l.length)) (.row 1 (l.map Sx.encStr)) := by
  refine PCN.of_body 7 Tryz.func108 rfl (by decide) Tryz.ntmps108 Tryz.results108 rfl rfl ?_
  refine AWP.ghQ ?_
  repeat' (first | ( refine AWP.nilR (e := 9) rfl (by decide) (by decide) rfl (fun hnil => ?_) ?_) | (simp only [go_sem, zA, zB, zC, zD, zE, zF, zG, reduceCtorEq, zH, zI, zJ, zK, zL, lB]; all_goals fail_if_success guard_target =ₛ False) | (with_reducible first | ((first | refine yA rfl ?_ | refine yS ?_ | refine yT (by kernel_rfl) ?_); intro K hK) | (apply hK; clear hK K) | refine yU ?_ | (refine yV (by with_unfolding_all rfl) ?_ ?_ <;> intro h <;> (try simp only [zM, zN] at h) <;> try exact absurd h (by decide)) | refine yW ?_ | refine yX ?_ | refine yY ?_ | (refine Or.inr (show vBuildOwn _ 5 _ _ _ _ _ _ from ?_); unfold vBuildOwn; with_reducible refine Or.inr ?_; simp only [vBuildRow, go_sem, zA, zB, zC, zD, zE, zF, zG, reduceCtorEq, zH, zI, zJ, zK, zL, lB]) | refine ⟨(by omega : _ ≤ _), ?_⟩ | refine Or.inl ?_) | (clear hK K))
  · refine GhQ.step (xI 2 7 rfl rfl rfl rfl) ?_
    refine ⟨_, Gh.refl _, ?_⟩
    have : l = [] := by simpa using hnil
    subst this
    simp only [go_sem, zA, zB, zC, zD, zE, zF, zG, reduceCtorEq, zH, zI, zJ, zK, zL, List.map_nil, lD]
    first | exact ⟨rfl, fun x hx => hx⟩ | exact fun x hx => hx
  · refine ⟨_, Gh.refl _, ?_⟩
    simp only [go_sem, zA, zB, zC, zD, zE, zF, zG, reduceCtorEq, zH, zI, zJ, zK, zL, lB]
    first | exact ⟨rfl, fun x hx => hx⟩ | exact fun x hx => hx
abbrev CloneC (v : Val) : Prop := PC zP 107 [Vt v] (Vt v)
abbrev VsP (l : List Val) : T := .one (.dat (.sl 7 (l.map encVal)))
theorem val_snoc1 (l : List Val) (x : Val) : l.map encVal ++ [encVal x] = (l ++ [x]).map encVal := by simp
theorem ent_snoc1 (l : List Ent) (x : Ent) : l.map encEnt ++ [[.sl 7 (x.1.map encVal), .bool x.2.1, .int .i64 x.2.2.kind, .int .i64 x.2.2.num, .str x.2.2.text, .sl 7 (x.2.2.kids.map encVal), .sl 2 (x.2.2.keys.map encKey), .sl 9 (x.2.2.ents.map encEnt), .sl 1 (x.2.2.labels.map Sx.encStr)]] = (l ++ [x]).map encEnt := by
  rw [List.map_append, lE, List.map_nil, encEnt_eq x]
theorem cloneAll_c (l : List Val) (hl : l.length ≤ 100000000) (h : ∀ v ∈ l, CloneC v) : PC zP 138 [VsP l] (VsP l) := by
  refine PCB.of_body Tryz.func138 rfl (by decide) Tryz.ntmps138 Tryz.results138 rfl rfl rfl ?_ rfl rfl
  refine AWP.ghQ ?_
  repeat' (first | (simp only [go_sem, zA, zB, zC, zD, zE, zF, zG, reduceCtorEq, zH, zI, zJ, zK, zL, lB]; all_goals fail_if_success guard_target =ₛ False) | (with_reducible first | ((first | refine yA rfl ?_ | refine yS ?_ | refine yT (by kernel_rfl) ?_); intro K hK) | (apply hK; clear hK K) | refine yU ?_ | (refine yV (by with_unfolding_all rfl) ?_ ?_ <;> intro h <;> (try simp only [zM, zN] at h) <;> try exact absurd h (by decide)) | refine yW ?_ | refine yX ?_ | refine yY ?_ | refine Or.inl ?_) | (clear hK K))
  refine xD (xI 3 900 rfl rfl rfl rfl) ?_
  refine AWP.len 6 rfl fun hlen0 => ?_
  (try rw [lB] at hlen0)
  refine xC (S := List Val) (l) encVal (fun k s => (8, I .i64 (k : Nat)) :: [(3, .one (.own 900 s.length))]) (fun k s => [(900, .row 7 (s.map encVal))]) [6, 7] [] (fun k s => Is s (l.take k)) ([]) (by simp only [go_sem, zA, zB, zC, zD, zE, zF, zG, reduceCtorEq, zH, zI, zJ, zK, zL]; exact (by refine xG [] ?_ ?_ rfl rfl rfl <;> repeat first | exact trivial | refine ⟨rfl, ?_⟩ | refine ⟨by (simp only [go_sem, zA, zB, zC, zD, zE, zF, zG, reduceCtorEq, zH, zI, zJ, zK, zL, lA, lB, lC, lD, Nat.zero_add]) <;> rfl, ?_⟩)) ?_ ?_ ?_
  · simp [Is]
  · intro k s x hlt hx hx' hb hok
    simp only [go_sem, zA, zB, zC, zD, zE, zF, zG, reduceCtorEq, zH, zI, zJ, zK, zL]
    have hix := h x (lP hx)
    have hsl : s.length ≤ k := by rw [show s = _ from hok, lQ]; omega
    repeat' (first | (simp only [go_sem, zA, zB, zC, zD, zE, zF, zG, reduceCtorEq, zH, zI, zJ, zK, zL, lB, hb, val_snoc1]; all_goals fail_if_success guard_target =ₛ False) | (with_reducible first | ((first | refine yA rfl ?_ | refine yS ?_ | refine yT (by kernel_rfl) ?_); intro K hK) | (apply hK; clear hK K) | refine yU ?_ | (refine yV (by with_unfolding_all rfl) ?_ ?_ <;> intro h <;> (try simp only [zM, zN] at h) <;> try exact absurd h (by decide)) | refine yW ?_ | refine yX ?_ | refine yY ?_ | refine ⟨_, hix, ?_⟩ | refine ⟨by omega, encVal x, hx', ?_⟩ | (refine ⟨(by first | omega | (simp only [lA, lB, lQ, List.length_drop, lC, lD, List.length_replicate]; omega) : _ ≤ _), ?_⟩) | refine ⟨by omega, by omega, ?_⟩ | refine Or.inl ?_) | (clear hK K))
    all_goals (rw [wrap_succ hlt hlen0])
    all_goals (refine ⟨s ++ [x], ?_, (by refine xG [(900, 16)] ?_ ?_ rfl rfl rfl <;> repeat first | exact trivial | refine ⟨rfl, ?_⟩ | refine ⟨by (simp only [go_sem, zA, zB, zC, zD, zE, zF, zG, reduceCtorEq, zH, zI, zJ, zK, zL, lA, lB, lC, lD, Nat.zero_add]) <;> rfl, ?_⟩)⟩)
    all_goals (rw [Is, List.take_add_one, hx, ← show s = _ from hok]; rfl)
  · intro s hb hok
    simp only [go_sem, zA, zB, zC, zD, zE, zF, zG, reduceCtorEq, zH, zI, zJ, zK, zL]
    rw [Is, lK] at hok
    repeat' (first | (simp only [go_sem, zA, zB, zC, zD, zE, zF, zG, reduceCtorEq, zH, zI, zJ, zK, zL, lB, hb]; all_goals fail_if_success guard_target =ₛ False) | (with_reducible first | ((first | refine yA rfl ?_ | refine yS ?_ | refine yT (by kernel_rfl) ?_); intro K hK) | (apply hK; clear hK K) | refine yU ?_ | (refine yV (by with_unfolding_all rfl) ?_ ?_ <;> intro h <;> (try simp only [zM, zN] at h) <;> try exact absurd h (by decide)) | refine yW ?_ | refine yX ?_ | refine yY ?_ | refine Or.inl ?_) | (clear hK K))
    refine ⟨_, xH 900 rfl rfl (by simp only [go_sem, zA, zB, zC, zD, zE, zF, zG, reduceCtorEq, zH, zI, zJ, zK, zL, lB]) (by simp only [go_sem, zA, zB, zC, zD, zE, zF, zG, reduceCtorEq, zH, zI, zJ, zK, zL, lB]), ?_⟩
    simp only [go_sem, zA, zB, zC, zD, zE, zF, zG, reduceCtorEq, zH, zI, zJ, zK, zL, lB]
    all_goals (first | exact fun _ h => (by cases h) | refine fin0 ?_)
    all_goals (rw [show s = _ from hok])
theorem cloneEntries_c (l : List Ent) (hl : l.length ≤ 100000000) (h : ∀ e ∈ l, PC zP 138 [VsP e.1] (VsP e.1) ∧ CloneC e.2.2) :
    PC zP 140 [.one (.dat (.sl 9 (l.map encEnt)))] (.one (.dat (.sl 9 (l.map encEnt)))) := by
  refine PCB.of_body Tryz.func140 rfl (by decide) Tryz.ntmps140 Tryz.results140 rfl rfl rfl ?_ rfl rfl
  refine AWP.ghQ ?_
  repeat' (first | (simp only [go_sem, zA, zB, zC, zD, zE, zF, zG, reduceCtorEq, zH, zI, zJ, zK, zL, lB]; all_goals fail_if_success guard_target =ₛ False) | (with_reducible first | ((first | refine yA rfl ?_ | refine yS ?_ | refine yT (by kernel_rfl) ?_ | refine yC rfl ?_ | refine yE rfl ?_ | refine yG rfl ?_); intro K hK) | (apply hK; clear hK K) | refine yU ?_ | (refine yV (by with_unfolding_all rfl) ?_ ?_ <;> intro h <;> (try simp only [zM, zN] at h) <;> try exact absurd h (by decide)) | refine yW ?_ | refine yX ?_ | refine yY ?_ | (refine xB (id := 5) 11 mixed (by kernel_rfl) fun K hK => ?_; simp only [lG, lH, lI, lJ]) | refine yZ mixed (by kernel_rfl) fun K hK => ?_ | refine ⟨(by kernel_rfl : depB _ _ _ = true), ?_⟩ | refine Or.inl ?_) | (clear hK K))
  refine xD (xI 3 900 rfl rfl rfl rfl) ?_
  refine AWP.len 6 rfl fun hlen0 => ?_
  (try rw [lB] at hlen0)
  refine xC (S := List Ent) (l) encEnt (fun k s => (8, I .i64 (k : Nat)) :: [(3, .one (.own 900 s.length))]) (fun k s => [(900, .row 9 (s.map encEnt))]) [6, 7] [] (fun k s => Is s (l.take k)) ([]) (by simp only [go_sem, zA, zB, zC, zD, zE, zF, zG, reduceCtorEq, zH, zI, zJ, zK, zL]; exact (by refine xG [] ?_ ?_ rfl rfl rfl <;> repeat first | exact trivial | refine ⟨rfl, ?_⟩ | refine ⟨by (simp only [go_sem, zA, zB, zC, zD, zE, zF, zG, reduceCtorEq, zH, zI, zJ, zK, zL, lA, lB, lC, lD, Nat.zero_add]) <;> rfl, ?_⟩)) ?_ ?_ ?_
  · simp [Is]
  · intro k s x hlt hx hx' hb hok
    simp only [go_sem, zA, zB, zC, zD, zE, zF, zG, reduceCtorEq, zH, zI, zJ, zK, zL]
    obtain ⟨hi1, hi2⟩ := h x (lP hx)
    rw [CloneC, show Vt x.2.2 = T.st (encVal x.2.2) from rfl, encVal_eq x.2.2] at hi2
    have hsl : s.length ≤ k := by rw [show s = _ from hok, lQ]; omega
    repeat' (first | (simp only [go_sem, zA, zB, zC, zD, zE, zF, zG, reduceCtorEq, zH, zI, zJ, zK, zL, lB, hb, encEnt_eq x, encVal_eq x.2.2, ent_snoc1]; all_goals fail_if_success guard_target =ₛ False) | (with_reducible first | ((first | refine yA rfl ?_ | refine yS ?_ | refine yT (by kernel_rfl) ?_ | refine yC rfl ?_ | refine yE rfl ?_ | refine yG rfl ?_); intro K hK) | (apply hK; clear hK K) | refine yU ?_ | (refine yV (by with_unfolding_all rfl) ?_ ?_ <;> intro h <;> (try simp only [zM, zN] at h) <;> try exact absurd h (by decide)) | refine yW ?_ | refine yX ?_ | refine yY ?_ | refine ⟨_, hi1, ?_⟩ | refine ⟨_, hi2, ?_⟩ | refine ⟨by omega, encEnt x, hx', ?_⟩ | (refine ⟨(by first | omega | (simp only [lA, lB, lQ, List.length_drop, lC, lD, List.length_replicate]; omega) : _ ≤ _), ?_⟩) | refine ⟨by omega, by omega, ?_⟩ | (refine xB (id := 5) 11 mixed (by kernel_rfl) fun K hK => ?_; simp only [lG, lH, lI, lJ]) | refine yZ mixed (by kernel_rfl) fun K hK => ?_ | refine ⟨(by kernel_rfl : depB _ _ _ = true), ?_⟩ | refine Or.inl ?_) | (clear hK K))
    all_goals (rw [wrap_succ hlt hlen0])
    all_goals (refine ⟨s ++ [x], ?_, (by refine xG [(900, 23)] ?_ ?_ rfl rfl rfl <;> repeat first | exact trivial | refine ⟨rfl, ?_⟩ | refine ⟨by (simp only [go_sem, zA, zB, zC, zD, zE, zF, zG, reduceCtorEq, zH, zI, zJ, zK, zL, lA, lB, lC, lD, Nat.zero_add]) <;> rfl, ?_⟩)⟩)
    all_goals (rw [Is, List.take_add_one, hx, ← show s = _ from hok]; rfl)
  · intro s hb hok
    simp only [go_sem, zA, zB, zC, zD, zE, zF, zG, reduceCtorEq, zH, zI, zJ, zK, zL]
    rw [Is, lK] at hok
    repeat' (first | (simp only [go_sem, zA, zB, zC, zD, zE, zF, zG, reduceCtorEq, zH, zI, zJ, zK, zL, lB, hb]; all_goals fail_if_success guard_target =ₛ False) | (with_reducible first | ((first | refine yA rfl ?_ | refine yS ?_ | refine yT (by kernel_rfl) ?_ | refine yC rfl ?_ | refine yE rfl ?_ | refine yG rfl ?_); intro K hK) | (apply hK; clear hK K) | refine yU ?_ | (refine yV (by with_unfolding_all rfl) ?_ ?_ <;> intro h <;> (try simp only [zM, zN] at h) <;> try exact absurd h (by decide)) | refine yW ?_ | refine yX ?_ | refine yY ?_ | (refine xB (id := 5) 11 mixed (by kernel_rfl) fun K hK => ?_; simp only [lG, lH, lI, lJ]) | refine yZ mixed (by kernel_rfl) fun K hK => ?_ | refine ⟨(by kernel_rfl : depB _ _ _ = true), ?_⟩ | refine Or.inl ?_) | (clear hK K))
    refine ⟨_, xH 900 rfl rfl (by simp only [go_sem, zA, zB, zC, zD, zE, zF, zG, reduceCtorEq, zH, zI, zJ, zK, zL, lB]) (by simp only [go_sem, zA, zB, zC, zD, zE, zF, zG, reduceCtorEq, zH, zI, zJ, zK, zL, lB]), ?_⟩
    simp only [go_sem, zA, zB, zC, zD, zE, zF, zG, reduceCtorEq, zH, zI, zJ, zK, zL, lB]
    all_goals (first | exact fun _ h => (by cases h) | refine fin0 ?_)
    all_goals (rw [show s = _ from hok])
theorem bulk_args {v : Val} {e : Ent} (he : e ∈ v.ents) : bulkVs e.1 + bulkV e.2.2 < bulkV v := by
  have := bulkV_eq v; have := bulkEs_mem he; have := bulkE_eq e; omega
theorem clone_c (v : Val) (hv : Sm v) : CloneC v := by
  have hb := bulkV_eq v
  have hbs : bulkV v ≤ 100000000 := hv
  have ih1 : ∀ k ∈ v.kids, CloneC k := fun k hk => clone_c k (hv.kid k hk)
  have h1 := cloneAll_c v.kids hv.kids ih1
  have h2 := cloneKeysL_c v.keys hv.keys
  have h3 := cloneStr_c v.labels (by omega)
  have ih2 : ∀ e ∈ v.ents, PC zP 138 [VsP e.1] (VsP e.1) ∧ CloneC e.2.2 := fun e he => by
    have ha := bulk_args he
    have hlen := bulkVs_len e.1
    refine ⟨cloneAll_c e.1 (by omega) fun k hk => ?_, ?_⟩
    · have := bulkVs_mem hk
      exact clone_c k (by unfold Sm; omega)
    · exact clone_c e.2.2 (by unfold Sm; omega)
  have h4 := cloneEntries_c v.ents (by have := bulkEs_len v.ents; omega) ih2
  refine PCB.of_body Tryz.func107 rfl (by decide) Tryz.ntmps107 Tryz.results107 rfl rfl rfl ?_ rfl rfl
  repeat' (first | (simp only [go_sem, zA, zB, zC, zD, zE, zF, zG, reduceCtorEq, zH, zI, zJ, zK, zL, encVal_eq v, lB]; all_goals fail_if_success guard_target =ₛ False) | (with_reducible first | ((first | refine yA rfl ?_ | refine yS ?_ | refine yT (by kernel_rfl) ?_); intro K hK) | (apply hK; clear hK K) | refine yU ?_ | (refine yV (by with_unfolding_all rfl) ?_ ?_ <;> intro h <;> (try simp only [zM, zN] at h) <;> try exact absurd h (by decide)) | refine yW ?_ | refine yX ?_ | refine yY ?_ | refine ⟨_, h1, ?_⟩ | refine ⟨_, h2, ?_⟩ | refine ⟨_, h3, ?_⟩ | refine ⟨_, h4, ?_⟩ | refine Or.inl ?_) | (clear hK K))
  all_goals (first | exact fun _ h => (by cases h) | refine fin0 ?_)
  all_goals (first | rfl | (rw [show Vt v = T.st (encVal v) from rfl, encVal_eq v]; done))
termination_by bulkV v
decreasing_by
  · have := bulkVs_mem hk; omega
  · omega
  · omega
def MadeGC (f : Src → Grd × Src) (d : Nat) : Prop := ∀ s : Src, s.ok → PCB zP 10 [Sp pin, I .i64 d] [(pin, srcB s)] (Gt (f s).1) [(pin, srcB (f s).2)]
theorem MadeGC.k {f : Src → Grd × Src} {d : Nat} (H : MadeGC f d) (k : Nat) (s : Src) (hs : s.ok) : PCBk zP 10 [Sp k, I .i64 d] k (srcB s) (Gt (f s).1) (srcB (f s).2) := PCBk.mk k (H s hs)
end Go.Proofs.YteobojeemflggaaGreat

set_option linter.unusedSimpArgs false
set_option linter.unusedVariables false
set_option maxRecDepth 20000
set_option maxHeartbeats 64000000
namespace Go.Proofs.YteobojeemflggaaGreat
open Go Go.Sx
theorem bulkEs_append : ∀ a b : List Ent, bulkEs (a ++ b) = bulkEs a + bulkEs b
  | [], b => by simp [bulkEs]
  | v :: a, b => by simp only [List.cons_append, bulkEs, bulkEs_append a b]; omega
theorem bulkVs_put (k : Nat) (v : Val) (l : List Val) : bulkVs (putAt k v l) = bulkVs l + bulkV v := by
  have h := bulkVs_append (l.take k) (l.drop k)
  rw [List.take_append_drop] at h
  unfold putAt
  simp only [bulkVs_append, bulkVs]
  omega
theorem bulkEs_put (k : Nat) (v : Ent) (l : List Ent) : bulkEs (putAt k v l) = bulkEs l + bulkE v := by
  have h := bulkEs_append (l.take k) (l.drop k)
  rw [List.take_append_drop] at h
  unfold putAt
  simp only [bulkEs_append, bulkEs]
  omega
theorem bulkVs_le {B : Nat} : ∀ {l : List Val}, (∀ x ∈ l, bulkV x ≤ B) → bulkVs l ≤ l.length * B
  | [], _ => by simp [bulkVs]
  | x :: l, h => by
    have h1 := h x (by simp)
    have h2 := bulkVs_le (B := B) (fun y hy => h y (List.mem_cons_of_mem _ hy))
    simp only [bulkVs, lC, Nat.add_mul]
    omega
theorem bulkEs_le {B : Nat} : ∀ {l : List Ent}, (∀ x ∈ l, bulkE x ≤ B) → bulkEs l ≤ l.length * B
  | [], _ => by simp [bulkEs]
  | x :: l, h => by
    have h1 := h x (by simp)
    have h2 := bulkEs_le (B := B) (fun y hy => h y (List.mem_cons_of_mem _ hy))
    simp only [bulkEs, lC, Nat.add_mul]
    omega
theorem sorted_len (l : List (List UInt8)) : (sortedV l).length ≤ l.length := by
  have h : ∀ (l acc : List (List UInt8)), (l.foldl insS acc).length ≤ acc.length + l.length := by
    intro l
    induction l with
    | nil => intro acc; simp
    | cons x l ih =>
      intro acc
      have h1 := ih (insS acc x)
      have h2 := insS_len acc x
      simp only [List.foldl_cons, lC]
      omega
  have := h l []
  simpa [sortedV] using this
theorem labels_len (s : Src) : (labelsV s).1.length ≤ 2 := by
  unfold labelsV
  cases decide (nextV s 3 = 1) <;> simp only [cond_true, cond_false]
  · simp
  · cases decide (nextV (nextS (nextS s 3) 3) 2 = 1) <;> simp only [cond_true, cond_false]
    · have := sorted_len [labelV (nextS s 3)]; simp at this; omega
    · have := sorted_len [labelV (nextS s 3), labelV (nextS (nextS (nextS s 3) 3) 2)]; simp at this; omega
theorem bulk_lab (r : Val × Src) : bulkV (lab r).1 ≤ bulkV r.1 + 2 := by
  have := labels_len r.2
  rw [bulkV_eq, bulkV_eq r.1]
  simp only [lab]
  omega
theorem bulk_zero : bulkV zeroVal = 1 := by rw [bulkV_eq]; simp [zeroVal, bulkVs, bulkEs]
theorem bulk_leafK (k : Int) (s : Src) : bulkV (leafK k s).1 ≤ 1 := by
  unfold leafK
  cases decide (k = 0) <;> cases decide (k = 1) <;> cases decide (k = 2) <;> cases decide (k = 3) <;> cases decide (k = 4) <;>
    (simp only [cond_true, cond_false]; rw [bulkV_eq]; simp [intVal, atomVal, strVal, pidVal, nilVal, tupVal, bulkVs, bulkEs])
theorem bulk_mapGo : ∀ (r : List (KeyD × Val)) (ks : List KeyD) (vs : List Val), bulkV (mapGo r ks vs).1 ≤ 1 + bulkVs vs + ks.length + bulkVs (r.map (·.2)) + r.length
  | [], ks, vs => by rw [mapGo, bulkV_eq]; simp [mapVal, bulkVs, bulkEs]
  | (x, v) :: r, ks, vs => by
    rw [mapGo]
    cases decide (ks[kPos ks x]? = some x) <;> simp only [cond_true, cond_false]
    · have := bulk_mapGo r (putAt (kPos ks x) x ks) (putAt (kPos ks x) v vs)
      rw [bulkVs_put, putAt_len] at this
      simp only [lE, bulkVs, lC]
      omega
    · rw [bulk_zero]; omega
theorem bulk_mapV (ks : List KeyD) (l : List Val) : bulkV (mapV ks l).1 ≤ 1 + bulkVs l + l.length := by
  unfold mapV
  cases hl : decide ((ks.length : Int) = (l.length : Int)) <;> simp only [cond_true, cond_false]
  · rw [bulk_zero]; omega
  · have hl2 : ks.length = l.length := by have := of_decide_eq_true hl; omega
    cases ks.all validKeyB <;> simp only [cond_true, cond_false]
    · rw [bulk_zero]; omega
    · have := bulk_mapGo (ks.zip l) [] []
      have e : (ks.zip l).map (·.2) = l := by rw [List.map_snd_zip]; omega
      rw [e] at this
      simp only [bulkVs, lD, List.length_zip] at this
      omega
theorem bulk_entries (l : List Ent) : bulkEs (entriesV l) ≤ bulkEs l := by
  have h : ∀ (l acc : List Ent), bulkEs (l.foldl insE acc) ≤ bulkEs acc + bulkEs l := by
    intro l
    induction l with
    | nil => intro acc; simp [bulkEs]
    | cons x l ih =>
      intro acc
      have h1 := ih (insE acc x)
      have h2 : bulkEs (insE acc x) ≤ bulkEs acc + bulkE x := by
        unfold insE
        generalize eqAtE _ _ _ = b
        cases b <;> simp only [cond_true, cond_false]
        · rw [bulkEs_put]; omega
        · omega
      simp only [List.foldl_cons, bulkEs]
      omega
  have := h l []
  simpa [entriesV, bulkEs] using this
theorem bulk_fnV (n : Int) (l : List Ent) : bulkV (fnV n l).1 ≤ 1 + bulkEs l := by
  unfold fnV
  have := bulk_entries l
  generalize (decide (n < 0) || decide (4 < n)) = b
  cases b <;> simp only [cond_true, cond_false]
  · generalize (l.all fun e => entB e n) = c
    cases c <;> simp only [cond_true, cond_false]
    · rw [bulk_zero]; omega
    · rw [bulkV_eq]; simp only [funVal, bulkVs, lD]; omega
  · rw [bulk_zero]; omega
theorem listM_bulk {f : Src → Val × Src} {B : Nat} (hf : ∀ s : Src, bulkV (f s).1 ≤ B) (n : Nat) (s : Src) : bulkVs (listM f n s).1 ≤ n * B := by
  have h := bulkVs_le (l := (listM f n s).1) (fun x hx => listM_mem (p := fun v => bulkV v ≤ B) hf n s x hx)
  rwa [listM_len] at h
theorem pairM_mem {f : Src → Val × Src} {p : Val → Prop} (hf : ∀ s : Src, p (f s).1) : ∀ (n : Nat) (s : Src), ∀ x ∈ (pairM f n s).1.2, p x
  | 0, s, x, h => by simp [pairM] at h
  | n + 1, s, x, h => by
    simp only [pairM, List.mem_cons] at h
    rcases h with rfl | h
    · exact hf _
    · exact pairM_mem hf n _ x h
theorem pairM_bulk {f : Src → Val × Src} {B : Nat} (hf : ∀ s : Src, bulkV (f s).1 ≤ B) (n : Nat) (s : Src) : bulkVs (pairM f n s).1.2 ≤ n * B := by
  have h := bulkVs_le (l := (pairM f n s).1.2) (fun x hx => pairM_mem (p := fun v => bulkV v ≤ B) hf n s x hx)
  rwa [(pairM_len f n s).2] at h
theorem entry_bulk {f : Src → Val × Src} {B : Nat} (hB : 1 ≤ B) (hf : ∀ s : Src, bulkV (f s).1 ≤ B) (n : Nat) (s : Src) : bulkE (entryV f n s).1 ≤ 1 + n * B + B := by
  have h := listM_bulk hf n s
  unfold entryV
  cases decide (nextV (listM f n s).2 4 = 1) <;> simp only [cond_true, cond_false] <;> rw [bulkE_eq]
  · have := hf (nextS (listM f n s).2 4); simp only; omega
  · simp only; rw [bulk_zero]; omega
theorem tail_bulk {f0 : Src → Val × Src} {B : Nat} (hf : ∀ s : Src, bulkV (f0 s).1 ≤ B) (big : Bool) (s : Src) : bulkV (tailV f0 big s).1 ≤ B + 2 := by
  have hn : bulkV nilVal = 1 := by rw [bulkV_eq]; simp [nilVal, bulkVs, bulkEs]
  unfold tailV
  cases big <;> cases decide (nextV s 2 = 1) <;> simp only [cond_true, cond_false]
  · omega
  · omega
  · omega
  · have := hf (nextS s 2)
    rw [bulkV_eq]; simp only [consVal, bulkVs, bulkEs, lD, hn]; omega
theorem bulk_valueK {f1 f0 : Src → Val × Src} {B1 B0 : Nat} (h1B : 1 ≤ B1) (h1 : ∀ s : Src, bulkV (f1 s).1 ≤ B1) (h0 : ∀ s : Src, bulkV (f0 s).1 ≤ B0) (big : Bool) (k : Int) (s : Src) : bulkV (valueK f1 f0 big k s).1 ≤ 8 * B1 + 8 * B0 + 20 := by
  have v4 := nextV_in s (n := 4) (by omega)
  have v3 := nextV_in s (n := 3) (by omega)
  have v33 := nextV_in (nextS s 3) (n := 3) (by omega)
  have hleaf : ∀ t, bulkV (leafV t).1 ≤ 1 := fun t => bulk_leafK _ _
  have m4 : ∀ m : Nat, m ≤ 3 → m * B1 ≤ 3 * B1 := fun m hm => Nat.mul_le_mul_right _ hm
  unfold valueK
  cases decide (k = 1) <;> simp only [cond_true, cond_false]
  · cases decide (k = 2) <;> simp only [cond_true, cond_false]
    · cases decide (k = 3) <;> simp only [cond_true, cond_false]
      · cases decide (k = 4) <;> simp only [cond_true, cond_false]
        · have := hleaf s; omega
        · generalize hn : (nextV s 3).toNat = n
          generalize hc : (nextV (nextS s 3) 3).toNat = c
          have hE : bulkEs (listM (entryV f1 n) c (nextS (nextS s 3) 3)).1 ≤ 2 * (1 + 3 * B1) := by
            have hb := bulkEs_le (l := (listM (entryV f1 n) c (nextS (nextS s 3) 3)).1) (B := 1 + 3 * B1) (fun x hx => listM_mem (p := fun e => bulkE e ≤ 1 + 3 * B1) (fun t => by
              have := entry_bulk h1B h1 n t
              have := Nat.mul_le_mul_right B1 (show n ≤ 2 by omega)
              omega) c _ x hx)
            rw [listM_len] at hb
            exact Nat.le_trans hb (Nat.mul_le_mul_right _ (by omega))
          have hF := bulk_fnV (nextV s 3) (listM (entryV f1 n) c (nextS (nextS s 3) 3)).1
          generalize decide ((fnV _ _).2 = 0) = b
          cases b <;> simp only [cond_true, cond_false]
          · have := hleaf (listM (entryV f1 n) c (nextS (nextS s 3) 3)).2; omega
          · omega
      · generalize hn : (nextV s 3).toNat = n
        have hP := pairM_bulk h1 n (nextS s 3)
        have hPl := pairM_len f1 n (nextS s 3)
        have hM := bulk_mapV (pairM f1 n (nextS s 3)).1.1 (pairM f1 n (nextS s 3)).1.2
        have := m4 n (by omega)
        generalize decide ((mapV _ _).2 = 0) = b
        cases b <;> simp only [cond_true, cond_false]
        · have := hleaf (pairM f1 n (nextS s 3)).2; omega
        · omega
    · have ht := tail_bulk h0 big s
      have hl := bulk_lab (tailV f0 big s)
      have hh := h1 (lab (tailV f0 big s)).2
      rw [bulkV_eq]; simp only [consVal, bulkVs, bulkEs, lD]
      omega
  · generalize hn : (nextV s 4).toNat = n
    have hP := listM_bulk h1 n (nextS s 4)
    have := m4 n (by omega)
    rw [bulkV_eq]; simp only [tupVal, bulkEs, lD]
    omega
def bnd : Nat → Nat
  | 0 => 1
  | 1 => 1
  | h + 2 => 8 * (bnd (h + 1) + 2) + 8 * (bnd h + 2) + 20
theorem bulk_valueF : ∀ (h : Nat) (s : Src), bulkV (valueF h s).1 ≤ bnd h
  | 0, s => bulk_leafK _ _
  | 1, s => bulk_leafK _ _
  | h + 2, s => bulk_valueK (by omega) (fun s => Nat.le_trans (bulk_lab _) (by have := bulk_valueF (h + 1) s; omega)) (fun s => Nat.le_trans (bulk_lab _) (by have := bulk_valueF h s; omega)) _ _ _
theorem bulk_full (h : Nat) (s : Src) : bulkV (fullV h s).1 ≤ bnd h + 2 := by
  have h1 := bulk_lab (valueF h s)
  have h2 := bulk_valueF h s
  unfold fullV
  omega
theorem cells_key {n : Nat} {row : List C} (h : hasT zP n 33 row) : ∃ k : KeyD, row = encKey k := by
  obtain ⟨m, parts, rfl, rfl, hl, hf⟩ := cells_st Tryz.underlying33 h
  match parts, hl with
  | [p0, p1], _ =>
    obtain ⟨a, rfl⟩ := cells_i64 Tryz.underlying3 (hf 0 _ p0 rfl rfl)
    obtain ⟨b, rfl⟩ := cells_text Tryz.underlying9 (hf 1 _ p1 rfl rfl)
    exact ⟨⟨a, b⟩, rfl⟩
theorem cells_val : ∀ (n : Nat) (row : List C), hasT zP n 31 row → ∃ v : Val, row = encVal v := by
  intro n
  induction n using Nat.strongRecOn with
  | _ n ih =>
    intro row h
    obtain ⟨m, parts, rfl, rfl, hl, hf⟩ := cells_st Tryz.underlying31 h
    match parts, hl with
    | [p0, p1, p2, p3, p4, p5, p6], _ =>
      obtain ⟨a0, rfl⟩ := cells_i64 Tryz.underlying3 (hf 0 _ p0 rfl rfl)
      obtain ⟨a1, rfl⟩ := cells_i64 Tryz.underlying2 (hf 1 _ p1 rfl rfl)
      obtain ⟨a2, rfl⟩ := cells_text Tryz.underlying9 (hf 2 _ p2 rfl rfl)
      obtain ⟨a3, rfl⟩ := cells_row (enc := encVal) (sz := 7) Tryz.underlying24 (by kernel_rfl) (fun r hr => ih (m - 1) (by omega) r hr) (hf 3 _ p3 rfl rfl)
      obtain ⟨a4, rfl⟩ := cells_row (enc := encKey) (sz := 2) Tryz.underlying28 (by kernel_rfl) (fun r hr => cells_key hr) (hf 4 _ p4 rfl rfl)
      obtain ⟨a5, rfl⟩ := cells_row (enc := encEnt) (sz := 9) Tryz.underlying29 (by kernel_rfl) (fun r hr => by
        obtain ⟨m', parts, hm', rfl, hl, hf⟩ := cells_st Tryz.underlying64 hr
        match parts, hl with
        | [q0, q1, q2], _ =>
          obtain ⟨b0, rfl⟩ := cells_row (enc := encVal) (sz := 7) Tryz.underlying24 (by kernel_rfl) (fun r hr => ih (m' - 1) (by omega) r hr) (hf 0 _ q0 rfl rfl)
          obtain ⟨b1, rfl⟩ := cells_bool Tryz.underlying4 (hf 1 _ q1 rfl rfl)
          obtain ⟨b2, rfl⟩ := ih m' (by omega) q2 (hf 2 _ q2 rfl rfl)
          exact ⟨(b0, b1, b2), by simp [encEnt_eq, encVal_eq b2]⟩) (hf 5 _ p5 rfl rfl)
      obtain ⟨a6, rfl⟩ := cells_row (enc := Sx.encStr) (sz := 1) Tryz.underlying23 (by kernel_rfl) (fun r hr => cells_text Tryz.underlying9 hr) (hf 6 _ p6 rfl rfl)
      exact ⟨⟨a0, a1, a2, a3, a4, a5, a6⟩, by rw [encVal_eq]; rfl⟩
theorem cbRs_len {α : Type} (f : α → List C) (l : List α) (h : ∀ x ∈ l, 1 ≤ cbL (f x)) : l.length ≤ cbRs (l.map f) := by
  induction l with
  | nil => simp
  | cons x l ih => have := h x (by simp); have := ih (fun y hy => h y (by simp [hy])); simp only [lE, cbRs, lC]; omega
mutual
theorem bulk_le : ∀ v : Val, bulkV v ≤ cbL (encVal v)
  | ⟨kind, num, text, kids, keys, ents, labels⟩ => by
    have h1 := bulks_le kids
    have h2 := bulkE_le ents
    have h3 := cbRs_len encKey keys (fun k _ => by simp only [encKey, cbL, cbC]; omega)
    have h4 := cbRs_len Sx.encStr labels (fun k _ => by simp only [Sx.encStr, cbL, cbC]; omega)
    simp only [bulkV, encVal, cbL, cbC]; omega
theorem bulks_le : ∀ l : List Val, bulkVs l ≤ cbRs (encVals l)
  | [] => by simp [bulkVs]
  | v :: l => by have h1 := bulk_le v; have h2 := bulks_le l; simp only [bulkVs, encVals, cbRs]; omega
theorem bulk1_le : ∀ e : List Val × Bool × Val, bulkE e ≤ cbL (encEnt e)
  | (a, f, r) => by
    have h1 := bulks_le a
    have h2 := bulk_le r
    simp only [bulkE, encEnt, cbL, cbC]; omega
theorem bulkE_le : ∀ l : List (List Val × Bool × Val), bulkEs l ≤ cbRs (encEnts l)
  | [] => by simp [bulkEs]
  | e :: l => by
    have h1 := bulk1_le e; have h2 := bulkE_le l
    simp only [bulkEs, encEnts, cbRs]; omega
end
mutual
def cntV : Val → Nat
  | ⟨_, _, _, kids, _, ents, _⟩ => 1 + cntVs kids + cntEs ents
def cntVs : List Val → Nat
  | [] => 0
  | v :: l => cntV v + cntVs l
def cntE : List Val × Bool × Val → Nat
  | (a, f, r) => cntVs a + bif f then 0 else cntV r
def cntEs : List (List Val × Bool × Val) → Nat
  | [] => 0
  | e :: l => cntE e + cntEs l
end
theorem cntV_eq (v : Val) : cntV v = 1 + cntVs v.kids + cntEs v.ents := by cases v; simp only [cntV]
theorem cntE_eq (e : List Val × Bool × Val) : cntE e = cntVs e.1 + bif e.2.1 then 0 else cntV e.2.2 := by obtain ⟨a, f, r⟩ := e; simp only [cntE]
mutual
theorem cnt_bulk : ∀ v : Val, cntV v ≤ bulkV v
  | ⟨_, _, _, kids, keys, ents, labels⟩ => by
    have h1 := cnts_bulk kids; have h2 := cntEs_bulk ents
    simp only [cntV, bulkV]; omega
theorem cnts_bulk : ∀ l : List Val, cntVs l ≤ bulkVs l
  | [] => by simp [cntVs]
  | v :: l => by have h1 := cnt_bulk v; have h2 := cnts_bulk l; simp only [cntVs, bulkVs]; omega
theorem cntE_bulk : ∀ e : List Val × Bool × Val, cntE e ≤ bulkE e
  | (a, f, r) => by
    have h1 := cnts_bulk a; have h2 := cnt_bulk r
    simp only [cntE, bulkE]; cases f <;> simp only [cond_true, cond_false] <;> omega
theorem cntEs_bulk : ∀ l : List (List Val × Bool × Val), cntEs l ≤ bulkEs l
  | [] => by simp [cntEs]
  | e :: l => by have h1 := cntE_bulk e; have h2 := cntEs_bulk l; simp only [cntEs, bulkEs]; omega
end
theorem cntVs_take {l : List Val} {k : Nat} {x : Val} (hx : l[k]? = some x) : cntVs (l.take (k + 1)) = cntVs (l.take k) + cntV x := by
  induction l generalizing k with
  | nil => simp at hx
  | cons y l ih =>
    cases k with
    | zero => simp at hx; subst hx; simp [cntVs]
    | succ k => have := ih (k := k) (by simpa using hx); simp only [lG, cntVs, this]; omega
theorem cntEs_take {l : List (List Val × Bool × Val)} {k : Nat} {x : List Val × Bool × Val} (hx : l[k]? = some x) : cntEs (l.take (k + 1)) = cntEs (l.take k) + cntE x := by
  induction l generalizing k with
  | nil => simp at hx
  | cons y l ih =>
    cases k with
    | zero => simp at hx; subst hx; simp [cntEs]
    | succ k => have := ih (k := k) (by simpa using hx); simp only [lG, cntEs, this]; omega
theorem cntVs_le (l : List Val) (k : Nat) : cntVs (l.take k) ≤ cntVs l := by
  induction l generalizing k with
  | nil => simp
  | cons y l ih => cases k with
    | zero => simp [cntVs]
    | succ k => have := ih k; simp only [lG, cntVs]; omega
theorem cntEs_le (l : List (List Val × Bool × Val)) (k : Nat) : cntEs (l.take k) ≤ cntEs l := by
  induction l generalizing k with
  | nil => simp
  | cons y l ih => cases k with
    | zero => simp [cntEs]
    | succ k => have := ih k; simp only [lG, cntEs]; omega
theorem wrap_add {a b : Nat} (h : a + b ≤ 1000000000) : IntKind.i64.wrap ((a : Int) + (b : Int)) = ((a + b : Nat) : Int) := by rw [w64 (by omega)]; omega
theorem nodes_c (v : Val) (hv : Sm v) : PC zP 9 [.st (encVal v)] (I .i64 (cntV v)) := by
  have hcb := cnt_bulk v
  have ihk : ∀ p ∈ v.kids, PC zP 9 [.st (encVal p)] (I .i64 (cntV p)) := fun p hp => nodes_c p (hv.kid p hp)
  have iha : ∀ e ∈ v.ents, ∀ p ∈ e.1, PC zP 9 [.st (encVal p)] (I .i64 (cntV p)) := fun e he p hp => nodes_c p (by have := bulk_arg he hp; unfold Sm at *; omega)
  have ihr : ∀ e ∈ v.ents, PC zP 9 [.st (encVal e.2.2)] (I .i64 (cntV e.2.2)) := fun e he => nodes_c e.2.2 (by have := bulk_res he; unfold Sm at *; omega)
  unfold Sm at hv
  have hce := cntV_eq v
  refine PCB.of_body Tryz.func9 rfl (by decide) Tryz.ntmps9 Tryz.results9 rfl rfl rfl ?_ rfl rfl
  repeat' (first | (simp only [go_sem, zA, zB, zC, zD, zE, zF, zG, reduceCtorEq, zH, zI, zJ, zK, zL, encVal_eq v, lB]; all_goals fail_if_success guard_target =ₛ False) | (with_reducible first | ((first | refine yA rfl ?_ | refine yS ?_ | refine yT (by kernel_rfl) ?_); intro K hK) | (apply hK; clear hK K) | refine yU ?_ | (refine yV (by with_unfolding_all rfl) ?_ ?_ <;> intro h <;> (try simp only [zM, zN] at h) <;> try exact absurd h (by decide)) | refine yW ?_ | refine yX ?_ | refine yY ?_ | refine Or.inl ?_) | (clear hK K))
  refine AWP.lenB 1 3 rfl rfl fun hlen0 => ?_
  (try rw [lB] at hlen0)
  refine xC (S := Nat) (v.kids) encVal (fun k s => (4, I .i64 (k : Nat)) :: [(3, I .i64 (s : Nat))]) (fun k s => []) [1] [1] (fun k s => Is s (1 + cntVs (v.kids.take k))) (1) (by simp only [go_sem, zA, zB, zC, zD, zE, zF, zG, reduceCtorEq, zH, zI, zJ, zK, zL, encVal_eq]; exact (by refine xG [] ?_ ?_ rfl rfl rfl <;> repeat first | exact trivial | refine ⟨rfl, ?_⟩ | refine ⟨by (simp only [go_sem, zA, zB, zC, zD, zE, zF, zG, reduceCtorEq, zH, zI, zJ, zK, zL, lA, lB, lC, lD, Nat.zero_add]) <;> rfl, ?_⟩)) ?_ ?_ ?_
  · simp [Is, cntVs]
  · intro k s x hlt hx hx' hb hok
    unfold Is at hok
    simp only [go_sem, zA, zB, zC, zD, zE, zF, zG, reduceCtorEq, zH, zI, zJ, zK, zL]
    have hix := ihk x (lP hx)
    have hct := cntVs_take hx
    have hcl := cntVs_le v.kids (k + 1)
    have hw := wrap_add (a := s) (b := cntV x) (by omega)
    repeat' (first | (simp only [go_sem, zA, zB, zC, zD, zE, zF, zG, reduceCtorEq, zH, zI, zJ, zK, zL, encVal_eq v, lB, hb, hw]; all_goals fail_if_success guard_target =ₛ False) | (with_reducible first | ((first | refine yA rfl ?_ | refine yS ?_ | refine yT (by kernel_rfl) ?_); intro K hK) | (apply hK; clear hK K) | refine yU ?_ | (refine yV (by with_unfolding_all rfl) ?_ ?_ <;> intro h <;> (try simp only [zM, zN] at h) <;> try exact absurd h (by decide)) | refine yW ?_ | refine yX ?_ | refine yY ?_ | refine ⟨_, hix, ?_⟩ | refine ⟨by omega, encVal x, hx', ?_⟩ | refine Or.inl ?_) | (clear hK K))
    all_goals (rw [wrap_succ hlt hlen0])
    all_goals (refine ⟨s + cntV x, ?_, (by refine xG [] ?_ ?_ rfl rfl rfl <;> repeat first | exact trivial | refine ⟨rfl, ?_⟩ | refine ⟨by (simp only [go_sem, zA, zB, zC, zD, zE, zF, zG, reduceCtorEq, zH, zI, zJ, zK, zL, lA, lB, lC, lD, Nat.zero_add]) <;> rfl, ?_⟩)⟩)
    all_goals (show _ = _; omega)
  intro s0 hb0 hok0
  simp only [go_sem, zA, zB, zC, zD, zE, zF, zG, reduceCtorEq, zH, zI, zJ, zK, zL]
  rw [Is, lK] at hok0
  repeat' (first | (simp only [go_sem, zA, zB, zC, zD, zE, zF, zG, reduceCtorEq, zH, zI, zJ, zK, zL, encVal_eq v, lB, hb0]; all_goals fail_if_success guard_target =ₛ False) | (with_reducible first | ((first | refine yA rfl ?_ | refine yS ?_ | refine yT (by kernel_rfl) ?_); intro K hK) | (apply hK; clear hK K) | refine yU ?_ | (refine yV (by with_unfolding_all rfl) ?_ ?_ <;> intro h <;> (try simp only [zM, zN] at h) <;> try exact absurd h (by decide)) | refine yW ?_ | refine yX ?_ | refine yY ?_ | refine Or.inl ?_) | (clear hK K))
  refine AWP.lenB 1 5 rfl rfl fun hlen1 => ?_
  (try rw [lB] at hlen1)
  refine xC (S := Nat) (v.ents) encEnt (fun k s => (5, I .i64 (k : Nat)) :: [(3, I .i64 (s : Nat))]) (fun k s => []) [1] [1] (fun k s => Is s (s0 + cntEs (v.ents.take k))) (s0) (by simp only [go_sem, zA, zB, zC, zD, zE, zF, zG, reduceCtorEq, zH, zI, zJ, zK, zL, encVal_eq]; exact (by refine xG [] ?_ ?_ rfl rfl rfl <;> repeat first | exact trivial | refine ⟨rfl, ?_⟩ | refine ⟨by (simp only [go_sem, zA, zB, zC, zD, zE, zF, zG, reduceCtorEq, zH, zI, zJ, zK, zL, lA, lB, lC, lD, Nat.zero_add]) <;> rfl, ?_⟩)) ?_ ?_ ?_
  · simp [Is, cntEs]
  · intro k s x hlt hx hx' hb hok
    unfold Is at hok
    simp only [go_sem, zA, zB, zC, zD, zE, zF, zG, reduceCtorEq, zH, zI, zJ, zK, zL]
    have hem := lP hx
    have hia := iha x hem
    have hir := ihr x hem
    have hct := cntEs_take hx
    have hcl := cntEs_le v.ents (k + 1)
    have hxe := cntE_eq x
    rw [encVal_eq] at hir
    repeat' (first | (simp only [go_sem, zA, zB, zC, zD, zE, zF, zG, reduceCtorEq, zH, zI, zJ, zK, zL, encVal_eq v, encEnt_eq, lB, hb]; all_goals fail_if_success guard_target =ₛ False) | (with_reducible first | ((first | refine yA rfl ?_ | refine yS ?_ | refine yT (by kernel_rfl) ?_); intro K hK) | (apply hK; clear hK K) | refine yU ?_ | (refine yV (by with_unfolding_all rfl) ?_ ?_ <;> intro h <;> (try simp only [zM, zN] at h) <;> try exact absurd h (by decide)) | refine yW ?_ | refine yX ?_ | refine yY ?_ | refine ⟨by omega, encEnt x, hx', ?_⟩ | refine Or.inl ?_) | (clear hK K))
    refine AWP.lenB 6 0 rfl rfl fun hlen2 => ?_
    (try rw [lB] at hlen2)
    refine xC (S := Nat) (x.1) encVal (fun k s => (7, I .i64 (k : Nat)) :: [(3, I .i64 (s : Nat))]) (fun k s => []) [1, 5, 6] [1, 6] (fun j r => Is r (s + cntVs (x.1.take j))) (s) (by simp only [go_sem, zA, zB, zC, zD, zE, zF, zG, reduceCtorEq, zH, zI, zJ, zK, zL, encVal_eq, encEnt_eq]; exact (by refine xG [] ?_ ?_ rfl rfl rfl <;> repeat first | exact trivial | refine ⟨rfl, ?_⟩ | refine ⟨by (simp only [go_sem, zA, zB, zC, zD, zE, zF, zG, reduceCtorEq, zH, zI, zJ, zK, zL, lA, lB, lC, lD, Nat.zero_add]) <;> rfl, ?_⟩)) ?_ ?_ ?_
    · simp [Is, cntVs]
    · intro i r y hlti hy hy' hbi hoki
      unfold Is at hoki
      simp only [go_sem, zA, zB, zC, zD, zE, zF, zG, reduceCtorEq, zH, zI, zJ, zK, zL]
      have hiy := hia y (lP hy)
      have hct2 := cntVs_take hy
      have hcl2 := cntVs_le x.1 (i + 1)
      have hw := wrap_add (a := r) (b := cntV y) (by omega)
      repeat' (first | (simp only [go_sem, zA, zB, zC, zD, zE, zF, zG, reduceCtorEq, zH, zI, zJ, zK, zL, encVal_eq v, encEnt_eq, lB, hbi, hw]; all_goals fail_if_success guard_target =ₛ False) | (with_reducible first | ((first | refine yA rfl ?_ | refine yS ?_ | refine yT (by kernel_rfl) ?_); intro K hK) | (apply hK; clear hK K) | refine yU ?_ | (refine yV (by with_unfolding_all rfl) ?_ ?_ <;> intro h <;> (try simp only [zM, zN] at h) <;> try exact absurd h (by decide)) | refine yW ?_ | refine yX ?_ | refine yY ?_ | refine ⟨_, hiy, ?_⟩ | refine ⟨by omega, encVal y, hy', ?_⟩ | refine Or.inl ?_) | (clear hK K))
      all_goals (rw [wrap_succ hlti hlen2])
      all_goals (refine ⟨r + cntV y, ?_, (by refine xG [] ?_ ?_ rfl rfl rfl <;> repeat first | exact trivial | refine ⟨rfl, ?_⟩ | refine ⟨by (simp only [go_sem, zA, zB, zC, zD, zE, zF, zG, reduceCtorEq, zH, zI, zJ, zK, zL, lA, lB, lC, lD, Nat.zero_add]) <;> rfl, ?_⟩)⟩)
      all_goals (show _ = _; omega)
    intro r hb2 hok2
    simp only [go_sem, zA, zB, zC, zD, zE, zF, zG, reduceCtorEq, zH, zI, zJ, zK, zL]
    rw [Is, lK] at hok2
    cases hf : x.2.1 <;> simp only [hf, cond_true, cond_false] at hxe
    · have hw := wrap_add (a := r) (b := cntV x.2.2) (by omega)
      repeat' (first | (simp only [go_sem, zA, zB, zC, zD, zE, zF, zG, reduceCtorEq, zH, zI, zJ, zK, zL, encVal_eq, encEnt_eq, lB, hb2, hf, hw]; all_goals fail_if_success guard_target =ₛ False) | (with_reducible first | ((first | refine yA rfl ?_ | refine yS ?_ | refine yT (by kernel_rfl) ?_); intro K hK) | (apply hK; clear hK K) | refine yU ?_ | (refine yV (by with_unfolding_all rfl) ?_ ?_ <;> intro h <;> (try simp only [zM, zN] at h) <;> try exact absurd h (by decide)) | refine yW ?_ | refine yX ?_ | refine yY ?_ | refine ⟨_, hir, ?_⟩ | refine Or.inl ?_) | (clear hK K))
      all_goals (rw [wrap_succ hlt hlen1])
      all_goals (refine ⟨r + cntV x.2.2, ?_, (by refine xG [] ?_ ?_ rfl rfl rfl <;> repeat first | exact trivial | refine ⟨rfl, ?_⟩ | refine ⟨by (simp only [go_sem, zA, zB, zC, zD, zE, zF, zG, reduceCtorEq, zH, zI, zJ, zK, zL, lA, lB, lC, lD, Nat.zero_add]) <;> rfl, ?_⟩)⟩)
      all_goals (show _ = _; omega)
    ·
      repeat' (first | (simp only [go_sem, zA, zB, zC, zD, zE, zF, zG, reduceCtorEq, zH, zI, zJ, zK, zL, encVal_eq, encEnt_eq, lB, hb2, hf]; all_goals fail_if_success guard_target =ₛ False) | (with_reducible first | ((first | refine yA rfl ?_ | refine yS ?_ | refine yT (by kernel_rfl) ?_); intro K hK) | (apply hK; clear hK K) | refine yU ?_ | (refine yV (by with_unfolding_all rfl) ?_ ?_ <;> intro h <;> (try simp only [zM, zN] at h) <;> try exact absurd h (by decide)) | refine yW ?_ | refine yX ?_ | refine yY ?_ | refine Or.inl ?_) | (clear hK K))
      all_goals (rw [wrap_succ hlt hlen1])
      all_goals (refine ⟨r, ?_, (by refine xG [] ?_ ?_ rfl rfl rfl <;> repeat first | exact trivial | refine ⟨rfl, ?_⟩ | refine ⟨by (simp only [go_sem, zA, zB, zC, zD, zE, zF, zG, reduceCtorEq, zH, zI, zJ, zK, zL, lA, lB, lC, lD, Nat.zero_add]) <;> rfl, ?_⟩)⟩)
      all_goals (show _ = _; omega)
  intro s1 hb1 hok1
  simp only [go_sem, zA, zB, zC, zD, zE, zF, zG, reduceCtorEq, zH, zI, zJ, zK, zL]
  rw [Is, lK] at hok1
  repeat' (first | (simp only [go_sem, zA, zB, zC, zD, zE, zF, zG, reduceCtorEq, zH, zI, zJ, zK, zL, encVal_eq v, lB, hb1]; all_goals fail_if_success guard_target =ₛ False) | (with_reducible first | ((first | refine yA rfl ?_ | refine yS ?_ | refine yT (by kernel_rfl) ?_); intro K hK) | (apply hK; clear hK K) | refine yU ?_ | (refine yV (by with_unfolding_all rfl) ?_ ?_ <;> intro h <;> (try simp only [zM, zN] at h) <;> try exact absurd h (by decide)) | refine yW ?_ | refine yX ?_ | refine yY ?_ | refine Or.inl ?_) | (clear hK K))
  all_goals (refine fin0 ?_; rw [show cntV v = s1 by omega])
termination_by bulkV v
decreasing_by
  · exact bulk_kid hp
  · exact bulk_arg he hp
  · exact bulk_res he
theorem tree_leaf (v : Val) (hk : v.kids = []) (he : v.ents = []) : treeB v = nodeB v := by
  rw [treeB_kids, hk, he]; simp
theorem clip_calls (a : Option Addr) (n cap : Nat) (hn : n ≤ cap) (w : World) : Calls zP 72 #[.slice a n cap] w fun e w' => e = .returned (.slice a n n) ∧ w' = w := by
  go_enter Tryz.func72, Tryz.ntmps72
  go_wp2
  all_goals go_ret
  all_goals exact ⟨rfl, rfl⟩
theorem clip_c (rows : List (List C)) : PC zP 72 [.one (.dat (.sl 1 rows))] (.one (.dat (.sl 1 rows))) := by
  refine ⟨⟨_, Tryz.func72, by decide, rfl⟩, ?_⟩
  intro M ν w vs hs hreps
  simp only [T.reps, T.rep, Cell.rep, C.rep] at hreps
  obtain ⟨v, vs', rfl, ⟨a, cap, mid, rfl, h1, h2, h3, h4⟩, rfl⟩ := hreps
  refine Calls.mono (clip_calls a rows.length cap h1 w) ?_
  rintro e w' ⟨rfl, rfl⟩
  refine ⟨_, M, rfl, Mem.ext.refl _ M, ?_, hs⟩
  simp only [T.rep, Cell.rep, C.rep]
  exact ⟨a, rows.length, mid, rfl, Nat.le_refl _, Nat.le_trans h1 h2, h3, h4⟩
theorem asc_pair : ∀ l : List (List UInt8), ascB Lib.compareBytes l = true → l.Pairwise (· < ·)
  | [], _ => .nil
  | [x], _ => List.pairwise_singleton _ x
  | x :: y :: m, h => by
    have h' : (decide (Lib.compareBytes x y < 0) && ascB Lib.compareBytes (y :: m)) = true := h
    rw [Bool.and_eq_true, ← less_dec, less_eq] at h'
    have ih := asc_pair (y :: m) h'.2
    have hxy := of_decide_eq_true h'.1
    refine List.Pairwise.cons (fun z hz => ?_) ih
    rcases List.mem_cons.1 hz with rfl | hz
    · exact hxy
    · exact List.lt_trans hxy ((List.pairwise_cons.1 ih).1 z hz)
theorem sorted_asc (l : List (List UInt8)) (h : l.Pairwise (· < ·)) : sortedV l = l := by
  obtain ⟨h1, h2⟩ := sortedV_spec l
  exact strict_ext _ _ h1 h h2
theorem sort_asc (l : List (List UInt8)) (h : l.Pairwise (· < ·)) : (l.mergeSort fun x y => decide (x ≤ y)) = l := by
  rw [sorted_nodup l (by rw [sorted_asc l h]; exact Nat.le_refl _), sorted_asc l h]
theorem labels_asc {v : Val} (h : treeB v = true) : v.labels.Pairwise (· < ·) := by
  rw [treeB_kids, Bool.and_eq_true] at h
  have h1 := h.1
  unfold nodeB labelsB at h1
  simp only [Bool.and_eq_true] at h1
  exact asc_pair _ h1.2.1.1
theorem withLabels_c (v : Val) (hv : Sm v) (hl : v.labels.Pairwise (· < ·)) : PC zP 77 [Vt v, SsP v.labels] (Vt v) := by
  have hb := bulkV_eq v
  have hbs : bulkV v ≤ 100000000 := hv
  have h1 : PC zP 107 [.st (encVal v)] (.st (encVal v)) := clone_c v hv
  rw [encVal_eq v] at h1
  have h2 := cloneStr_n v.labels (by omega)
  have h3 : PCBk zP 71 [.one (.own 9 v.labels.length)] 9 (.row 1 (v.labels.map Sx.encStr)) (.tup []) (.row 1 (v.labels.map Sx.encStr)) := by
    have h := PCBk.own1 9 (sortStr_c Go.Proofs.Tryz.sortS v.labels (by omega))
    rw [sort_asc _ hl] at h
    exact h
  have h4 : PCBk zP 73 [.one (.own 9 v.labels.length)] 9 (.row 1 (v.labels.map Sx.encStr)) (.one (.own 9 v.labels.length)) (.row 1 (v.labels.map Sx.encStr)) := by
    have h := compactStr_c Go.Proofs.Tryz.compS (v.labels.mergeSort fun x y => decide (x ≤ y))
    rw [compact_sort, List.length_mergeSort, sort_asc _ hl, sorted_asc _ hl] at h
    exact PCBk.own2 9 h
  have h5 := clip_c (v.labels.map Sx.encStr)
  refine PCB.of_body Tryz.func77 rfl (by decide) Tryz.ntmps77 Tryz.results77 rfl rfl rfl ?_ rfl rfl
  repeat' (first | (simp only [go_sem, zA, zB, zC, zD, zE, zF, zG, reduceCtorEq, zH, zI, zJ, zK, zL, encVal_eq v, lB]; all_goals fail_if_success guard_target =ₛ False) | (with_reducible first | ((first | refine yA rfl ?_ | refine yS ?_ | refine yT (by kernel_rfl) ?_); intro K hK) | (apply hK; clear hK K) | refine yU ?_ | (refine yV (by with_unfolding_all rfl) ?_ ?_ <;> intro h <;> (try simp only [zM, zN] at h) <;> try exact absurd h (by decide)) | refine yW ?_ | refine yX ?_ | refine yY ?_ | refine ⟨_, h1, ?_⟩ | refine Or.inr ⟨_, _, h2, ?_⟩ | refine ⟨_, h5, ?_⟩) | (apply Or.inr; refine ⟨9, _, _, _, h3, rfl, ?_⟩; simp only [go_sem, zA, zB, zC, zD, zE, zF, zG, reduceCtorEq, zH, zI, zJ, zK, zL]) | (apply Or.inr; refine ⟨9, _, _, _, h4, rfl, ?_⟩; simp only [go_sem, zA, zB, zC, zD, zE, zF, zG, reduceCtorEq, zH, zI, zJ, zK, zL]) | (with_reducible first | refine Or.inl ?_) | (clear hK K))
  all_goals (first | exact fun _ h => (by cases h) | refine fin0 ?_)
  all_goals (first | rfl | (rw [show Vt v = T.st (encVal v) from rfl, encVal_eq v]; done))
theorem getV_put (k k' : List UInt8) (v : Val) : ∀ m : ME, getV k (putV k' v m) = if k' = k then some v else getV k m
  | [] => by
    by_cases h : k' = k
    · simp [putV, getV, h]
    · simp [putV, getV, h]
  | p :: m => by
    have ih := getV_put k k' v m
    by_cases hp : p.1 = k'
    · by_cases h : k' = k
      · simp [putV, getV, h, hp]
      · simp [putV, getV, h, hp]
    · by_cases h : k' = k
      · subst h
        simp only [putV, hp, decide_false, cond_false, getV, ih, if_true]
      · rw [if_neg h] at ih
        simp only [putV, hp, decide_false, cond_false, getV, ih, if_neg h]
def GoodM (m : ME) : Prop := ∀ k w, getV k m = some w → treeB w = true ∧ Sm w
def Has (m : ME) (k : List UInt8) : Prop := ∃ w, getV k m = some w
theorem goodM_put {m : ME} (h : GoodM m) {k : List UInt8} {v : Val} (h1 : treeB v = true) (h2 : Sm v) : GoodM (putV k v m) := by
  intro k' w hw
  rw [getV_put] at hw
  by_cases e : k = k'
  · rw [if_pos e] at hw; cases hw; exact ⟨h1, h2⟩
  · rw [if_neg e] at hw; exact h k' w hw
theorem has_put {m : ME} {k k' : List UInt8} (v : Val) (h : k' = k ∨ Has m k) : Has (putV k' v m) k := by
  unfold Has
  rw [getV_put]
  by_cases e : k' = k
  · exact ⟨v, if_pos e⟩
  · rw [if_neg e]; exact h.resolve_left e
structure Ms (l : List (List UInt8)) (m m' : ME) (ok : Bool) : Prop where
  good : GoodM m → GoodM m'
  keep : ∀ k, Has m k → Has m' k
  nm : ok = true → ∀ k ∈ l, Has m' k
theorem Ms.same (m : ME) (ok : Bool) : Ms [] m m ok := ⟨id, fun _ h => h, fun _ k hk => by cases hk⟩
theorem valAt_mem {v w : Val} {k : KeyD} (h : valAt v k = some w) : w ∈ v.kids := by
  unfold valAt at h
  cases hd : decide (findI (fun x => sameK k x) 0 v.keys < 0)
  · rw [hd, cond_false] at h; exact lP h
  · rw [hd, cond_true] at h; cases h
theorem ms_L : ∀ (l : List Pat) (vs : List Val) (m : ME), (∀ g ∈ l, ∀ w ∈ vs, ∀ m, Ms (collP g) m (matchP g w m).2 (matchP g w m).1) → (l.length ≤ vs.length) → Ms (l.flatMap collP) m (matchL l vs m).2 (matchL l vs m).1
  | [], vs, m, _, _ => by rw [matchL_nil]; exact Ms.same m true
  | g :: l, [], m, _, hlen => by simp at hlen
  | g :: l, v :: vs, m, h, hlen => by
    have h1 := h g (by simp) v (by simp) m
    have h2 := ms_L l vs (matchP g v m).2 (fun g hg w hw => h g (List.mem_cons_of_mem _ hg) w (List.mem_cons_of_mem _ hw)) (by simpa using hlen)
    rw [matchL]
    cases hz : (matchP g v m).1
    · simp only [cond_false]
      exact ⟨h1.good, h1.keep, fun h => by cases h⟩
    · simp only [cond_true]
      refine ⟨fun hm => h2.good (h1.good hm), fun k hk => h2.keep k (h1.keep k hk), fun ok k hk => ?_⟩
      rw [List.flatMap_cons, List.mem_append] at hk
      rcases hk with hk | hk
      · exact h2.keep k (h1.nm hz k hk)
      · exact h2.nm ok k hk
theorem ms_M : ∀ (ks : List KeyD) (l : List Pat) (v : Val) (m : ME), (∀ g ∈ l, ∀ w ∈ v.kids, ∀ m, Ms (collP g) m (matchP g w m).2 (matchP g w m).1) → (l.length ≤ ks.length) → Ms (l.flatMap collP) m (matchM ks l v m).2 (matchM ks l v m).1
  | ks, [], v, m, _, _ => by
    have : matchM ks [] v m = (true, m) := by cases ks <;> rfl
    rw [this]; exact Ms.same m true
  | [], g :: l, v, m, _, hlen => by simp at hlen
  | k :: ks, g :: l, v, m, h, hlen => by
    rw [matchM]
    cases hv : valAt v k with
    | none => exact ⟨id, fun _ h => h, fun h => by cases h⟩
    | some w =>
      have h1 := h g (by simp) w (valAt_mem hv) m
      have h2 := ms_M ks l v (matchP g w m).2 (fun g hg w hw => h g (List.mem_cons_of_mem _ hg) w hw) (by simpa using hlen)
      simp only
      cases hz : (matchP g w m).1
      · simp only [cond_false]
        exact ⟨h1.good, h1.keep, fun h => by cases h⟩
      · simp only [cond_true]
        refine ⟨fun hm => h2.good (h1.good hm), fun k hk => h2.keep k (h1.keep k hk), fun ok k hk => ?_⟩
        rw [List.flatMap_cons, List.mem_append] at hk
        rcases hk with hk | hk
        · exact h2.keep k (h1.nm hz k hk)
        · exact h2.nm ok k hk
theorem vP_kids0 {g : Pat} (h : vP g = true) (hk : kidsP g.kind = false) : g.kids = [] := by
  have hb : badP g = false := by unfold vP at h; simp only [Bool.and_eq_true, Bool.not_eq_true'] at h; exact h.1
  unfold badP at hb
  rw [hk] at hb
  simp only [Bool.or_eq_false_iff, Bool.not_false, Bool.true_and, decide_eq_false_iff_not] at hb
  exact List.length_eq_zero_iff.1 (by omega)
theorem ms_P (g : Pat) (v : Val) (m : ME) (hg : treeP g = true) (hv : treeB v = true) (hs : Sm v) : Ms (collP g) m (matchP g v m).2 (matchP g v m).1 := by
  have ih : ∀ k ∈ g.kids, ∀ w : Val, treeB w = true → Sm w → ∀ m, Ms (collP k) m (matchP k w m).2 (matchP k w m).1 := fun k hk w hw hsw m => ms_P k w m (treeP_kid hg hk) hw hsw
  have hvp := vP_of hg
  rw [collP_eq, matchP_eq]
  rcases kindsP hvp with hk | hk | hk | hk | hk | hk | hk | hk | ⟨hk, hkk⟩ | ⟨hk, k0, hk0⟩
  · rw [hk, vP_kids0 hvp (by rw [hk]; rfl)]; exact Ms.same m _
  · rw [hk, vP_kids0 hvp (by rw [hk]; rfl)]
    refine ⟨fun h => goodM_put h hv hs, fun k h => has_put v (.inr h), fun _ k h => has_put v (.inl ?_)⟩
    have : k ∈ [g.text] := by simpa [nameP] using h
    exact (List.mem_singleton.1 this).symm
  · rw [hk, vP_kids0 hvp (by rw [hk]; rfl)]; exact Ms.same m _
  · rw [hk, vP_kids0 hvp (by rw [hk]; rfl)]; exact Ms.same m _
  · rw [hk, vP_kids0 hvp (by rw [hk]; rfl)]; exact Ms.same m _
  · rw [hk, vP_kids0 hvp (by rw [hk]; rfl)]; exact Ms.same m _
  · rw [hk]
    show Ms (g.kids.flatMap collP) m (bif decide (v.kind = 6) && decide (g.kids.length = v.kids.length) then matchL g.kids v.kids m else (false, m)).2 (bif decide (v.kind = 6) && decide (g.kids.length = v.kids.length) then matchL g.kids v.kids m else (false, m)).1
    cases hz : decide (v.kind = 6) && decide (g.kids.length = v.kids.length)
    · exact ⟨id, fun _ h => h, fun h => by cases h⟩
    · rw [Bool.and_eq_true, decide_eq_true_eq, decide_eq_true_eq] at hz
      exact ms_L g.kids v.kids m (fun g hg w hw => ih g hg w (treeB_kid hv hw) (hs.kid w hw)) (by omega)
  · rw [hk]
    show Ms (g.kids.flatMap collP) m (bif decide (v.kind = 7) && decide (g.kids.length = v.kids.length) then matchL g.kids v.kids m else (false, m)).2 (bif decide (v.kind = 7) && decide (g.kids.length = v.kids.length) then matchL g.kids v.kids m else (false, m)).1
    cases hz : decide (v.kind = 7) && decide (g.kids.length = v.kids.length)
    · exact ⟨id, fun _ h => h, fun h => by cases h⟩
    · rw [Bool.and_eq_true, decide_eq_true_eq, decide_eq_true_eq] at hz
      exact ms_L g.kids v.kids m (fun g hg w hw => ih g hg w (treeB_kid hv hw) (hs.kid w hw)) (by omega)
  · rw [hk]
    show Ms (g.kids.flatMap collP) m (bif decide (v.kind = 8) then matchM g.keys g.kids v m else (false, m)).2 (bif decide (v.kind = 8) then matchM g.keys g.kids v m else (false, m)).1
    cases hz : decide (v.kind = 8)
    · exact ⟨id, fun _ h => h, fun h => by cases h⟩
    · exact ms_M g.keys g.kids v m (fun g hg w hw => ih g hg w (treeB_kid hv hw) (hs.kid w hw)) (by omega)
  · rw [hk, hk0]
    have h0 := ih k0 (by rw [hk0]; simp) v hv hs (putV g.text v m)
    show Ms ([g.text] ++ [k0].flatMap collP) m (matchP k0 v (putV g.text v m)).2 (matchP k0 v (putV g.text v m)).1
    refine ⟨fun h => h0.good (goodM_put h hv hs), fun k h => h0.keep k (has_put v (.inr h)), fun ok k h => ?_⟩
    simp only [List.singleton_append, List.flatMap_cons, List.flatMap_nil, List.append_nil, List.mem_cons] at h
    rcases h with rfl | h
    · exact h0.keep _ (has_put v (.inl rfl))
    · exact h0.nm ok k h
termination_by cntP g
decreasing_by exact cntP_kid hk
theorem freshs_dat (k : Nat) : ∀ r : List C, Cell.freshs k (r.map Cell.dat) = true
  | [] => rfl
  | c :: r => by simp [Cell.freshs, Cell.fresh, freshs_dat k r]
def atM (m : ME) (k : List UInt8) : Val := (getV k m).getD zeroVal
def matchV (g : Pat) (v : Val) : List Val × Bool :=
  bif treeB v && (matchP (soundP g) v []).1 then ((namesP g).map (atM (matchP (soundP g) v []).2), true) else ([], false)
theorem sound_twice (g : Pat) : soundP (soundP g) = soundP g := by
  have := soundP_ok g
  rw [soundP.eq_def (soundP g), this]; rfl
theorem names_sound (g : Pat) : namesP (soundP g) = namesP g := by unfold namesP; rw [sound_twice]
theorem Match_c (g : Pat) (v : Val) (hg : PSm g) (hv : Sm v) : PC zP 39 [Pt g, Vt v] (.tup [VsP (matchV g v).1, Bo (matchV g v).2]) := by
  have hs := soundP_sm g
  have h1 := soundP_c g hg
  have h2 := validate_c v hv
  rw [show Pt g = T.st (encP g) from rfl] at h1
  unfold matchV
  cases hz : treeB v <;> rw [hz] at h2
  case false =>
    refine PCB.of_body Tryz.func39 rfl (by decide) Tryz.ntmps39 Tryz.results39 rfl rfl rfl ?_ rfl rfl
    repeat' (first | (simp only [go_sem, zA, zB, zC, zD, zE, zF, zG, reduceCtorEq, zH, zI, zJ, zK, zL]; all_goals fail_if_success guard_target =ₛ False) | (with_reducible first | ((first | refine yA rfl ?_ | refine yB rfl ?_ | refine yS ?_ | refine yT (by kernel_rfl) ?_); intro K hK) | (apply hK; clear hK K) | refine yU ?_ | (refine yV (by with_unfolding_all rfl) ?_ ?_ <;> intro h <;> (try simp only [zM, zN] at h) <;> try exact absurd h (by decide)) | refine yW ?_ | refine yX ?_ | refine yY ?_ | (refine ⟨fun h => ?_, fun h => ?_⟩ <;> (try simp only [zM, zN] at h) <;> try simp only [h]) | refine ⟨_, h1, ?_⟩ | refine ⟨_, h2, ?_⟩ | refine Or.inl ?_) | (clear hK K))
    all_goals (first | exact fun _ h => (by cases h) | (refine fin0 ?_; first | rfl | (simp only [zb, cond_true, cond_false, decide_true, decide_false] <;> rfl)))
  have ht := okP_tree (soundP_ok g)
  have h3 := match_c (soundP g) v ht hz []
  have hms := ms_P (soundP g) v [] ht hz hv
  cases hm : (matchP (soundP g) v []).1 <;> rw [hm] at h3
  case false =>
    refine PCB.of_body Tryz.func39 rfl (by decide) Tryz.ntmps39 Tryz.results39 rfl rfl rfl ?_ rfl rfl
    repeat' (first | (simp only [go_sem, zA, zB, zC, zD, zE, zF, zG, reduceCtorEq, zH, zI, zJ, zK, zL]; all_goals fail_if_success guard_target =ₛ False) | (with_reducible first | ((first | refine yA rfl ?_ | refine yB rfl ?_ | refine yS ?_ | refine yT (by kernel_rfl) ?_); intro K hK) | (apply hK; clear hK K) | refine yU ?_ | (refine yV (by with_unfolding_all rfl) ?_ ?_ <;> intro h <;> (try simp only [zM, zN] at h) <;> try exact absurd h (by decide)) | refine yW ?_ | refine yX ?_ | refine yY ?_ | (refine ⟨fun h => ?_, fun h => ?_⟩ <;> (try simp only [zM, zN] at h) <;> try simp only [h]) | refine ⟨_, h1, ?_⟩ | refine ⟨_, h2, ?_⟩) | (refine ⟨12, _, _, _, PCBk.mk 12 h3, rfl, ?_⟩) | (with_reducible first | refine Or.inl ?_) | (clear hK K))
    all_goals (first | exact fun _ h => (by cases h) | (refine fin0 ?_; first | rfl | (simp only [zb, cond_true, cond_false, decide_true, decide_false] <;> rfl)))
  have hnm := NamesP_c (soundP g) hs
  rw [names_sound] at hnm
  have hin : ∀ k ∈ namesP g, Has (matchP (soundP g) v []).2 k := fun k hk => hms.nm hm k ((sortedV_spec _).2 k |>.1 hk)
  have hgood := hms.good (show GoodM [] from fun k w (h : none = some w) => by cases h)
  have hlen : (namesP g).length ≤ 100000000 := by
    have h5 := collP_len (soundP g)
    have h6 := okP_cnt (soundP_ok g)
    have h7 := sorted_len (collP (soundP g))
    unfold namesP; omega
  generalize (matchP (soundP g) v []).2 = M at *
  generalize namesP g = L at *
  refine PCB.of_body Tryz.func39 rfl (by decide) Tryz.ntmps39 Tryz.results39 rfl rfl rfl ?_ rfl rfl
  refine AWP.ghQ ?_
  repeat' (first | (simp only [go_sem, zA, zB, zC, zD, zE, zF, zG, reduceCtorEq, zH, zI, zJ, zK, zL]; all_goals fail_if_success guard_target =ₛ False) | (with_reducible first | ((first | refine yA rfl ?_ | refine yB rfl ?_ | refine yS ?_ | refine yT (by kernel_rfl) ?_); intro K hK) | (apply hK; clear hK K) | refine yU ?_ | (refine yV (by with_unfolding_all rfl) ?_ ?_ <;> intro h <;> (try simp only [zM, zN] at h) <;> try exact absurd h (by decide)) | refine yW ?_ | refine yX ?_ | refine yY ?_ | (refine ⟨fun h => ?_, fun h => ?_⟩ <;> (try simp only [zM, zN] at h) <;> try simp only [h]) | refine ⟨_, h1, ?_⟩ | refine ⟨_, h2, ?_⟩ | refine ⟨_, hnm, ?_⟩) | (refine ⟨12, _, _, _, PCBk.mk 12 h3, rfl, ?_⟩) | (with_reducible first | refine Or.inl ?_) | (clear hK K))
  refine xD (xI 7 900 rfl rfl rfl (by simp [Bx.fresh, freshs_dat])) ?_
  refine AWP.len 24 rfl fun hlen0 => ?_
  (try rw [lB] at hlen0)
  refine xC (S := List Val) (L) Sx.encStr (fun k s => (26, I .i64 (k : Nat)) :: [(7, .one (.own 900 s.length))]) (fun k s => [(900, .row 7 (s.map encVal))]) [6, 24, 25] [12] (fun k s => Is s ((L.take k).map (atM M))) ([]) (by simp only [go_sem, zA, zB, zC, zD, zE, zF, zG, reduceCtorEq, zH, zI, zJ, zK, zL]; exact (by refine xG [] ?_ ?_ rfl rfl rfl <;> repeat first | exact trivial | refine ⟨rfl, ?_⟩ | refine ⟨by (simp only [go_sem, zA, zB, zC, zD, zE, zF, zG, reduceCtorEq, zH, zI, zJ, zK, zL, lA, lB, lC, lD, Nat.zero_add]) <;> rfl, ?_⟩)) ?_ ?_ ?_
  · simp [Is]
  · intro k s x hlt hx hx' hb hok
    simp only [go_sem, zA, zB, zC, zD, zE, zF, zG, reduceCtorEq, zH, zI, zJ, zK, zL]
    obtain ⟨w, hw⟩ := hin x (lP hx)
    obtain ⟨hw1, hw2⟩ := hgood x w hw
    have hwl : PC zP 77 [.st (encVal w), SsP w.labels] (.st (encVal w)) := withLabels_c w hw2 (labels_asc hw1)
    rw [encVal_eq w] at hwl
    have hae : assoc x (encM M) = some (encVal w) := by rw [assoc_enc, hw]; rfl
    have hsl : s.length ≤ k := by rw [show s = _ from hok, lB, lQ]; omega
    repeat' (first | (simp only [go_sem, zA, zB, zC, zD, zE, zF, zG, reduceCtorEq, zH, zI, zJ, zK, zL, lB, hb, hae, Option.getD_some, encVal_eq w, Sx.encStr, val_snoc']; all_goals fail_if_success guard_target =ₛ False) | (with_reducible first | ((first | refine yA rfl ?_ | refine yB rfl ?_ | refine yS ?_ | refine yT (by kernel_rfl) ?_); intro K hK) | (apply hK; clear hK K) | refine yU ?_ | (refine yV (by with_unfolding_all rfl) ?_ ?_ <;> intro h <;> (try simp only [zM, zN] at h) <;> try exact absurd h (by decide)) | refine yW ?_ | refine yX ?_ | refine yY ?_ | (refine ⟨fun h => ?_, fun h => ?_⟩ <;> (try simp only [zM, zN] at h) <;> try simp only [h]) | refine ⟨_, hwl, ?_⟩ | refine ⟨by omega, Sx.encStr x, hx', ?_⟩ | (refine ⟨(by first | omega | (simp only [lA, lB, lQ, List.length_drop, lC, lD, List.length_replicate]; omega) : _ ≤ _), ?_⟩) | refine ⟨by omega, by omega, ?_⟩ | refine Or.inl ?_) | (clear hK K))
    all_goals (rw [wrap_succ hlt hlen0])
    all_goals (refine ⟨s ++ [w], ?_, (by refine xG [(900, 40)] ?_ ?_ rfl rfl rfl <;> repeat first | exact trivial | refine ⟨rfl, ?_⟩ | refine ⟨by (simp only [go_sem, zA, zB, zC, zD, zE, zF, zG, reduceCtorEq, zH, zI, zJ, zK, zL, lA, lB, lC, lD, Nat.zero_add]) <;> rfl, ?_⟩)⟩)
    all_goals (rw [Is, List.take_add_one, hx, List.map_append, ← show s = _ from hok]; simp [atM, hw])
  · intro s hb hok
    simp only [go_sem, zA, zB, zC, zD, zE, zF, zG, reduceCtorEq, zH, zI, zJ, zK, zL]
    rw [Is, lK] at hok
    repeat' (first | (simp only [go_sem, zA, zB, zC, zD, zE, zF, zG, reduceCtorEq, zH, zI, zJ, zK, zL, lB, hb]; all_goals fail_if_success guard_target =ₛ False) | (with_reducible first | ((first | refine yA rfl ?_ | refine yB rfl ?_ | refine yS ?_ | refine yT (by kernel_rfl) ?_); intro K hK) | (apply hK; clear hK K) | refine yU ?_ | (refine yV (by with_unfolding_all rfl) ?_ ?_ <;> intro h <;> (try simp only [zM, zN] at h) <;> try exact absurd h (by decide)) | refine yW ?_ | refine yX ?_ | refine yY ?_ | (refine ⟨fun h => ?_, fun h => ?_⟩ <;> (try simp only [zM, zN] at h) <;> try simp only [h]) | refine Or.inl ?_) | (clear hK K))
    refine ⟨_, xH 900 rfl rfl (by simp only [go_sem, zA, zB, zC, zD, zE, zF, zG, reduceCtorEq, zH, zI, zJ, zK, zL, lB]) (by simp only [go_sem, zA, zB, zC, zD, zE, zF, zG, reduceCtorEq, zH, zI, zJ, zK, zL, lB]), ?_⟩
    simp only [go_sem, zA, zB, zC, zD, zE, zF, zG, reduceCtorEq, zH, zI, zJ, zK, zL, lB]
    all_goals (first | exact fun _ h => (by cases h) | refine fin0 ?_)
    all_goals (rw [show s = _ from hok])
def listV (l : List Val) : Val := l.foldr consVal nilVal
theorem listV_drop {l : List Val} {k : Nat} {x : Val} (hx : l[k]? = some x) : listV (l.drop k) = consVal x (listV (l.drop (k + 1))) := by
  obtain ⟨h1, h2⟩ := List.getElem?_eq_some_iff.1 hx
  rw [List.drop_eq_getElem_cons h1, h2]; rfl
theorem refList_c (l : List Val) (hl : l.length ≤ 1000000) : PC zP 40 [VsP l] (Vt (listV l)) := by
  have hw0 : IntKind.i64.wrap ((l.length : Int) - 1) = (l.length : Int) - 1 := by rw [w64 (by omega)]
  refine PCB.of_body Tryz.func40 rfl (by decide) Tryz.ntmps40 Tryz.results40 rfl rfl rfl ?_ rfl rfl
  repeat' (first | (simp only [go_sem, zA, zB, zC, zD, zE, zF, zG, reduceCtorEq, zH, zI, zJ, zK, zL, lB, hw0]; all_goals fail_if_success guard_target =ₛ False) | (with_reducible first | ((first | refine yA rfl ?_ | refine yS ?_ | refine yT (by kernel_rfl) ?_ | refine yC rfl ?_ | refine yE rfl ?_ | refine yG rfl ?_); intro K hK) | (apply hK; clear hK K) | refine yU ?_ | (refine yV (by with_unfolding_all rfl) ?_ ?_ <;> intro h <;> (try simp only [zM, zN] at h) <;> try exact absurd h (by decide)) | refine yW ?_ | refine yX ?_ | refine yY ?_ | refine ⟨_, refNil_c, ?_⟩ | (refine xB (id := 5) 6 mixed (by kernel_rfl) fun K hK => ?_; simp only [lG, lH, lI, lJ]) | refine yZ mixed (by kernel_rfl) fun K hK => ?_ | refine ⟨(by kernel_rfl : depB _ _ _ = true), ?_⟩ | refine Or.inl ?_) | (clear hK K))
  refine AWP.loopF (X := Int × Val) (fun x => [(4, I .i64 x.1)]) (fun x => [(3, .cells ((encVal x.2).map Cell.dat))]) [0, 2, 3] [2] (fun x => ∃ k : Nat, x.1 = (k : Int) - 1 ∧ k ≤ l.length ∧ x.2 = listV (l.drop k)) (fun x => (x.1 + 1).toNat) (((l.length : Int) - 1, nilVal)) (by simp only [go_sem, zA, zB, zC, zD, zE, zF, zG, reduceCtorEq, zH, zI, zJ, zK, zL]; exact (by refine xG [] ?_ ?_ rfl rfl rfl <;> repeat first | exact trivial | refine ⟨rfl, ?_⟩ | refine ⟨by (simp only [go_sem, zA, zB, zC, zD, zE, zF, zG, reduceCtorEq, zH, zI, zJ, zK, zL, lA, lB, lC, lD, Nat.zero_add]) <;> rfl, ?_⟩)) ?_ ?_
  · exact ⟨l.length, rfl, Nat.le_refl _, by simp [listV]⟩
  rintro ⟨i, acc⟩ ⟨k, hi, hk, ha⟩
  simp only at hi ha
  simp only [go_sem, zA, zB, zC, zD, zE, zF, zG, reduceCtorEq, zH, zI, zJ, zK, zL]
  cases k with
  | zero =>
    have hi' : i = -1 := by omega
    subst hi'
    repeat' (first | (simp only [go_sem, zA, zB, zC, zD, zE, zF, zG, reduceCtorEq, zH, zI, zJ, zK, zL, lB, Int.reduceNeg]; all_goals fail_if_success guard_target =ₛ False) | (with_reducible first | ((first | refine yA rfl ?_ | refine yS ?_ | refine yT (by kernel_rfl) ?_ | refine yC rfl ?_ | refine yE rfl ?_ | refine yG rfl ?_); intro K hK) | (apply hK; clear hK K) | refine yU ?_ | (refine yV (by with_unfolding_all rfl) ?_ ?_ <;> intro h <;> (try simp only [zM, zN] at h) <;> try exact absurd h (by decide)) | refine yW ?_ | refine yX ?_ | refine yY ?_ | (refine xB (id := 5) 6 mixed (by kernel_rfl) fun K hK => ?_; simp only [lG, lH, lI, lJ]) | refine yZ mixed (by kernel_rfl) fun K hK => ?_ | refine ⟨(by kernel_rfl : depB _ _ _ = true), ?_⟩ | refine Or.inl ?_) | (clear hK K))
    all_goals (first | exact fun _ h => (by cases h) | refine fin0 ?_)
    all_goals (rw [ha]; rfl)
  | succ m =>
    have hi' : i = (m : Int) := by omega
    subst hi'
    obtain ⟨x, hx, hx', _, _⟩ := at_lt (enc := encVal) (show m < l.length by omega)
    rw [show ((m + 1 : Nat) : Nat) = m + 1 from rfl] at ha
    have hge : decide ((0 : Int) ≤ (m : Int)) = true := by simp
    have hw1 : IntKind.i64.wrap ((m : Int) - 1) = (m : Int) - 1 := by rw [w64 (by omega)]
    have hc : PC zP 48 [.st (encVal x), .st (encVal acc)] (.st (encVal (consVal x acc))) := refCons_c x acc
    repeat' (first | (simp only [go_sem, zA, zB, zC, zD, zE, zF, zG, reduceCtorEq, zH, zI, zJ, zK, zL, lB, hge, hw1]; all_goals fail_if_success guard_target =ₛ False) | (with_reducible first | ((first | refine yA rfl ?_ | refine yS ?_ | refine yT (by kernel_rfl) ?_ | refine yC rfl ?_ | refine yE rfl ?_ | refine yG rfl ?_); intro K hK) | (apply hK; clear hK K) | refine yU ?_ | (refine yV (by with_unfolding_all rfl) ?_ ?_ <;> intro h <;> (try simp only [zM, zN] at h) <;> try exact absurd h (by decide)) | refine yW ?_ | refine yX ?_ | refine yY ?_ | refine ⟨_, hc, ?_⟩ | refine ⟨by omega, encVal x, hx', ?_⟩ | (refine xB (id := 5) 6 mixed (by kernel_rfl) fun K hK => ?_; simp only [lG, lH, lI, lJ]) | refine yZ mixed (by kernel_rfl) fun K hK => ?_ | refine ⟨(by kernel_rfl : depB _ _ _ = true), ?_⟩ | refine Or.inl ?_) | (clear hK K))
    all_goals (refine ⟨((m : Int) - 1, consVal x acc), by simp only; omega, ⟨m, rfl, by omega, ?_⟩, (by refine xG [] ?_ ?_ rfl rfl rfl <;> repeat first | exact trivial | refine ⟨rfl, ?_⟩ | refine ⟨by (simp only [go_sem, zA, zB, zC, zD, zE, zF, zG, reduceCtorEq, zH, zI, zJ, zK, zL, lA, lB, lC, lD, Nat.zero_add]) <;> rfl, ?_⟩)⟩)
    all_goals (simp only; rw [listV_drop hx, ha])
def pA : Pat := ⟨8, 0, [], [⟨2, 0, [72], [], []⟩, ⟨1, 0, [], [], []⟩], []⟩
def pZ : Pat := ⟨0, 0, [], [], []⟩
theorem pA_cnt : cntP pA = 3 := by decide
theorem pZ_cnt : cntP pZ = 1 := by decide
theorem pA_tree : treeP pA = true := by decide
theorem pA_coll : collP pA = [[72]] := by decide
theorem pA_ok : okP pA = true := by
  unfold okP dupP; rw [pA_cnt, pA_tree, pA_coll]; decide
theorem pA_sound : soundP pA = pA := by unfold soundP; rw [pA_ok]; rfl
theorem pA_names : namesP pA = [[72]] := by unfold namesP; rw [pA_sound, pA_coll]; decide
def vA : Val := consVal (intVal 5) nilVal
theorem vA_tree : treeB vA = true := by
  have t1 : treeB (intVal 5) = true := by rw [tree_leaf _ rfl rfl]; rfl
  have t2 : treeB nilVal = true := by rw [tree_leaf _ rfl rfl]; rfl
  rw [treeB_kids]
  show (nodeB vA && ((treeB (intVal 5) && (treeB nilVal && true)) && true)) = true
  rw [t1, t2]; rfl
theorem vA_sm : Sm vA := by unfold Sm; decide
theorem match_A : matchV pA vA = ([intVal 5], true) := by
  have hm : matchP pA vA [] = (true, [([72], intVal 5)]) := by rfl
  unfold matchV
  rw [pA_sound, hm, vA_tree, pA_names]
  rfl
theorem awake24_c : PC zP 18 [] (Bo true) := by
  have hn : PC zP 25 [I .i64 5] (.st (encVal (intVal 5))) := refInt_c 5
  have hl : PC zP 40 [.one (.dat (.sl 7 [encVal (intVal 5)]))] (.st (encVal vA)) := refList_c [intVal 5] (by decide)
  have hp1 : PSm pA := by unfold PSm; rw [pA_cnt]; decide
  have hp2 : PSm pZ := by unfold PSm; rw [pZ_cnt]; decide
  have eA : encP pA = [.int .i64 8, .int .i64 0, .str [], .sl 5 [[.int .i64 2, .int .i64 0, .str [72], .sl 5 [], .sl 2 []], [.int .i64 1, .int .i64 0, .str [], .sl 5 [], .sl 2 []]], .sl 2 []] := by rfl
  have hM : PC zP 39 [.st [.int .i64 8, .int .i64 0, .str [], .sl 5 [[.int .i64 2, .int .i64 0, .str [72], .sl 5 [], .sl 2 []], [.int .i64 1, .int .i64 0, .str [], .sl 5 [], .sl 2 []]], .sl 2 []], .st (encVal vA)] (.tup [.one (.dat (.sl 7 [[.int .i64 1, .int .i64 5, .str [], .sl 7 [], .sl 2 [], .sl 9 [], .sl 1 []]])), Bo true]) := by
    have h := Match_c pA vA hp1 vA_sm
    rw [match_A, show Pt pA = T.st (encP pA) from rfl, eA] at h
    have e5 : encVal (intVal 5) = [.int .i64 1, .int .i64 5, .str [], .sl 7 [], .sl 2 [], .sl 9 [], .sl 1 []] := by rw [encVal_eq]; rfl
    simp only [lE, List.map_nil, e5] at h
    exact h
  have hV : PC zP 41 [.st [.int .i64 8, .int .i64 0, .str [], .sl 5 [[.int .i64 2, .int .i64 0, .str [72], .sl 5 [], .sl 2 []], [.int .i64 1, .int .i64 0, .str [], .sl 5 [], .sl 2 []]], .sl 2 []]] (I .i64 0) := by
    have h := validateP_c pA hp1
    have hc : codeP pA = 0 := of_decide_eq_true (by rw [codeP_ok, pA_ok])
    rw [hc, show Pt pA = T.st (encP pA) from rfl, eA] at h
    exact h
  have hZ : PC zP 41 [.st [.int .i64 0, .int .i64 0, .str [], .sl 5 [], .sl 2 []]] (I .i64 1) := by
    have h := validateP_c pZ hp2
    have hc : codeP pZ = 1 := by
      have ht : treeP pZ = false := by decide
      unfold codeP; rw [pZ_cnt, ht]; decide
    rw [hc, show Pt pZ = T.st (encP pZ) from rfl, encP_eq] at h
    exact h
  refine PCB.of_body Tryz.func18 rfl (by decide) Tryz.ntmps18 Tryz.results18 rfl rfl rfl ?_ rfl rfl
  repeat' (first | (simp only [go_sem, zA, zB, zC, zD, zE, zF, zG, reduceCtorEq, zH, zI, zJ, zK, zL]; all_goals fail_if_success guard_target =ₛ False) | (with_reducible first | ((first | refine yA rfl ?_ | refine yB rfl ?_ | refine yS ?_ | refine yT (by kernel_rfl) ?_ | refine yC rfl ?_ | refine yD rfl ?_ | refine yE rfl ?_ | refine yF rfl ?_ | refine yG rfl ?_ | refine yH rfl ?_); intro K hK) | (apply hK; clear hK K) | refine yU ?_ | (refine yV (by with_unfolding_all rfl) ?_ ?_ <;> intro h <;> (try simp only [zM, zN] at h) <;> try exact absurd h (by decide)) | refine yW ?_ | refine yX ?_ | refine yY ?_ | (refine ⟨fun h => ?_, fun h => ?_⟩ <;> (try simp only [zM, zN] at h) <;> try simp only [h]) | refine ⟨_, hn, ?_⟩ | refine ⟨_, hl, ?_⟩ | refine ⟨_, hM, ?_⟩ | refine ⟨_, hV, ?_⟩ | refine ⟨_, hZ, ?_⟩ | refine yZ mixed (by kernel_rfl) fun K hK => ?_ | refine ⟨(by kernel_rfl : depB _ _ _ = true), ?_⟩ | refine Or.inl ?_) | (clear hK K))
  all_goals (first | exact fun _ h => (by cases h) | (refine fin0 ?_; first | rfl | (simp only [zb, cond_true, cond_false, decide_true, decide_false] <;> rfl)))
def leafP (k n : Int) (t : List UInt8) : Pat := ⟨k, n, t, [], []⟩
def kidsQ (k : Int) (t : List UInt8) (ks : List KeyD) (l : List Pat) : Pat := ⟨k, 0, t, l, ks⟩
theorem leafP_lit (k n : Int) (t : List UInt8) : Pt (leafP k n t) = .st [.int .i64 k, .int .i64 n, .str t, .sl 5 [], .sl 2 []] := by rw [Pt, encP_eq]; rfl
theorem kidsQ_lit (k : Int) (t : List UInt8) (ks : List KeyD) (l : List Pat) : Pt (kidsQ k t ks l) = .st [.int .i64 k, .int .i64 0, .str t, .sl 5 (l.map encP), .sl 2 (ks.map encKey)] := by rw [Pt, encP_eq]; rfl
def baseP (nm : List UInt8) (s : Src) : Pat × Src :=
  bif decide (nextV s 6 = 0) then (leafP 3 (numV (nextS s 6)) [], nextS (nextS s 6) 10) else
  bif decide (nextV s 6 = 1) then (leafP 5 0 (atomV (nextS s 6)), nextS (nextS s 6) 4) else
  bif decide (nextV s 6 = 2) then (leafP 4 0 (wordV (nextS s 6)), nextS (nextS s 6) 4) else
  bif decide (nextV s 6 = 3) then (leafP 6 0 [], nextS s 6) else
  bif decide (nextV s 6 = 4) then (leafP 2 0 nm, nextS s 6) else (leafP 1 0 [], nextS s 6)
def joinP (nm : List UInt8) (a b : Pat) (s : Src) : Pat × Src :=
  bif decide (nextV s 6 = 0) then (kidsQ 7 [] [] [a, b], nextS s 6) else
  bif decide (nextV s 6 = 1) then (kidsQ 8 [] [] [a, b], nextS s 6) else
  bif decide (nextV s 6 = 2) then (kidsQ 9 [] [⟨0, [97]⟩, ⟨0, [98]⟩] [a, b], nextS s 6) else
  bif decide (nextV s 6 = 3) then (kidsQ 10 nm [] [a], nextS s 6) else
  bif decide (nextV s 6 = 4) then (kidsQ 7 [] [] [b], nextS s 6) else (a, nextS s 6)
def madeP : Nat → List (List UInt8) → Src → Pat × Src
  | 0, ns, s => baseP (ns.getD 0 []) s
  | d + 1, ns, s =>
    joinP (ns.getD (ns.length - 1) []) (madeP d (ns.take (ns.length / 2)) s).1 (madeP d (ns.drop (ns.length / 2)) (madeP d (ns.take (ns.length / 2)) s).2).1 (madeP d (ns.drop (ns.length / 2)) (madeP d (ns.take (ns.length / 2)) s).2).2
theorem ok_baseP {s : Src} (h : s.ok) (nm : List UInt8) : (baseP nm s).2.ok := by
  have h2 := ok_next h 6
  unfold baseP
  cases decide (nextV s 6 = 0) <;> cases decide (nextV s 6 = 1) <;> cases decide (nextV s 6 = 2) <;> cases decide (nextV s 6 = 3) <;> cases decide (nextV s 6 = 4) <;> first | exact ok_next h2 _ | exact h2
theorem ok_joinP {s : Src} (h : s.ok) (nm : List UInt8) (a b : Pat) : (joinP nm a b s).2.ok := by
  have h2 := ok_next h 6
  unfold joinP
  cases decide (nextV s 6 = 0) <;> cases decide (nextV s 6 = 1) <;> cases decide (nextV s 6 = 2) <;> cases decide (nextV s 6 = 3) <;> cases decide (nextV s 6 = 4) <;> exact h2
theorem ok_madeP : ∀ (d : Nat) (ns : List (List UInt8)) (s : Src), s.ok → (madeP d ns s).2.ok
  | 0, ns, s, h => ok_baseP h _
  | d + 1, ns, s, h => ok_joinP (ok_madeP d _ _ (ok_madeP d _ s h)) _ _ _
def MadePC (d : Nat) : Prop := ∀ (ns : List (List UInt8)) (s : Src), s.ok → ns.length = 2 ^ (d + 1) → PCB zP 19 [Sp pin, I .i64 d, .one (.dat (.sl 1 (ns.map Sx.encStr)))] [(pin, srcB s)] (Pt (madeP d ns s).1) [(pin, srcB (madeP d ns s).2)]
theorem MadePC.k {d : Nat} (H : MadePC d) (k : Nat) (ns : List (List UInt8)) (s : Src) (hs : s.ok) (hn : ns.length = 2 ^ (d + 1)) : PCBk zP 19 [Sp k, I .i64 d, .one (.dat (.sl 1 (ns.map Sx.encStr)))] k (srcB s) (Pt (madeP d ns s).1) (srcB (madeP d ns s).2) := PCBk.mk k (H ns s hs hn)
theorem base_p : MadePC 0 := by
  intro ns s hs hlen
  have a1 := nextV_in s (n := 6) (by omega)
  have hs1 := ok_next hs 6
  have hx' : (ns.map Sx.encStr)[0]? = some (Sx.encStr (ns.getD 0 [])) := by
    cases ns with
    | nil => simp at hlen
    | cons x l => rfl
  rcases (show nextV s 6 = 0 ∨ nextV s 6 = 1 ∨ nextV s 6 = 2 ∨ nextV s 6 = 3 ∨ nextV s 6 = 4 ∨ nextV s 6 = 5 by omega) with hq | hq | hq | hq | hq | hq
  iterate 6
    ·
      refine PCB.of_body Tryz.func19 rfl (by decide) Tryz.ntmps19 Tryz.results19 rfl rfl rfl ?_ rfl rfl
      repeat' (first | (simp only [go_sem, zA, zB, zC, zD, zE, zF, zG, reduceCtorEq, zH, zI, zJ, zK, zL, pin, hq, Int.natCast_zero, Sx.encStr, lB]; all_goals fail_if_success guard_target =ₛ False) | (with_reducible first | ((first | refine yA rfl ?_ | refine yS ?_ | refine yT (by kernel_rfl) ?_ | refine yC rfl ?_ | refine yE rfl ?_ | refine yG rfl ?_); intro K hK) | (apply hK; clear hK K) | refine yU ?_ | (refine yV (by with_unfolding_all rfl) ?_ ?_ <;> intro h <;> (try simp only [zM, zN] at h) <;> try exact absurd h (by decide)) | refine yW ?_ | refine yX ?_ | refine yY ?_ | refine ⟨Sx.encStr (ns.getD 0 []), hx', ?_⟩ | refine ⟨by omega, Sx.encStr (ns.getD 0 []), hx', ?_⟩) | (refine ⟨1000000, _, _, _, next_k 1000000 s hs _ (by omega), rfl, ?_⟩) | (refine ⟨1000000, _, _, _, word_k 1000000 _ hs1, rfl, ?_⟩) | (refine ⟨1000000, _, _, _, atomName_k 1000000 _ hs1, rfl, ?_⟩) | (refine ⟨1000000, _, _, _, number_k 1000000 _ hs1, rfl, ?_⟩) | (with_reducible first | (refine xB (id := 25) 9 mixed (by kernel_rfl) fun K hK => ?_; simp only [lG, lH, lI, lJ]) | refine yZ mixed (by kernel_rfl) fun K hK => ?_ | refine ⟨(by kernel_rfl : depB _ _ _ = true), ?_⟩ | refine Or.inl ?_) | (clear hK K))
      all_goals (simp only [madeP, baseP, hq, zb, cond_true, cond_false, decide_true, decide_false, Int.reduceEq, leafP_lit])
      all_goals (refine ⟨by first | trivial | rfl, fun x hx => ?_⟩; simp only [lN] at hx; subst hx; simp)
theorem step_p (d : Nat) (hd : d ≤ 10) (H : MadePC d) : MadePC (d + 1) := by
  intro ns s hs hlen
  have hpos : 1 ≤ 2 ^ d := Nat.one_le_two_pow
  have hp2 : 2 ^ (d + 1) = 2 * 2 ^ d := by rw [Nat.pow_succ]; omega
  have hp3 : 2 ^ (d + 1 + 1) = 2 * 2 ^ (d + 1) := by rw [Nat.pow_succ]; omega
  have hle : 2 ^ d ≤ 2 ^ 10 := Nat.pow_le_pow_right (by omega) hd
  have hhalf : ns.length / 2 = 2 ^ (d + 1) := by omega
  have hta : (ns.take (ns.length / 2)).length = 2 ^ (d + 1) := by rw [lQ]; omega
  have htb : (ns.drop (ns.length / 2)).length = 2 ^ (d + 1) := by rw [List.length_drop]; omega
  have hp : decide (((d + 1 : Nat) : Int) ≤ 0) = false := by simp only [decide_eq_false_iff_not]; omega
  have hm : IntKind.i64.wrap (((d + 1 : Nat) : Int) - 1) = (d : Int) := by rw [w64 (by omega)]; omega
  have hq2 : IntKind.i64.wrap ((ns.length : Int).tdiv 2) = ((ns.length / 2 : Nat) : Int) := by
    rw [show (ns.length : Int).tdiv 2 = ((ns.length / 2 : Nat) : Int) by rw [Int.tdiv_eq_ediv_of_nonneg (by omega)]; omega, w64 (by omega)]
  have hlast : IntKind.i64.wrap ((ns.length : Int) - 1) = ((ns.length - 1 : Nat) : Int) := by rw [w64 (by omega)]; omega
  have hlx : (ns.map Sx.encStr)[ns.length - 1]? = some (Sx.encStr (ns.getD (ns.length - 1) [])) := by
    have : ns.length - 1 < ns.length := by omega
    simp [List.getElem?_map, this]
  have ka := H.k 1000000 (ns.take (ns.length / 2)) s hs hta
  have hs2 := ok_madeP d (ns.take (ns.length / 2)) s hs
  have kb := H.k 1000000 (ns.drop (ns.length / 2)) _ hs2 htb
  have hs3 := ok_madeP d (ns.drop (ns.length / 2)) _ hs2
  have hmd : madeP (d + 1) ns s = joinP (ns.getD (ns.length - 1) []) (madeP d (ns.take (ns.length / 2)) s).1 (madeP d (ns.drop (ns.length / 2)) (madeP d (ns.take (ns.length / 2)) s).2).1 (madeP d (ns.drop (ns.length / 2)) (madeP d (ns.take (ns.length / 2)) s).2).2 := rfl
  rw [hmd]
  generalize (madeP d (ns.take (ns.length / 2)) s).1 = a at *
  generalize (madeP d (ns.take (ns.length / 2)) s).2 = s2 at *
  generalize (madeP d (ns.drop (ns.length / 2)) s2).1 = b at *
  generalize (madeP d (ns.drop (ns.length / 2)) s2).2 = s3 at *
  have a1 := nextV_in s3 (n := 6) (by omega)
  rcases (show nextV s3 6 = 0 ∨ nextV s3 6 = 1 ∨ nextV s3 6 = 2 ∨ nextV s3 6 = 3 ∨ nextV s3 6 = 4 ∨ nextV s3 6 = 5 by omega) with hq | hq | hq | hq | hq | hq
  iterate 6
    ·
      refine PCB.of_body Tryz.func19 rfl (by decide) Tryz.ntmps19 Tryz.results19 rfl rfl rfl ?_ rfl rfl
      repeat' (first | (simp only [go_sem, zA, zB, zC, zD, zE, zF, zG, reduceCtorEq, zH, zI, zJ, zK, zL, pin, hq, hp, hm, hq2, hlast, lB, Int.toNat_natCast, take_map', drop_map', lK, Sx.encStr]; all_goals fail_if_success guard_target =ₛ False) | (with_reducible first | ((first | refine yA rfl ?_ | refine yS ?_ | refine yT (by kernel_rfl) ?_ | refine yC rfl ?_ | refine yE rfl ?_ | refine yG rfl ?_); intro K hK) | (apply hK; clear hK K) | refine yU ?_ | (refine yV (by with_unfolding_all rfl) ?_ ?_ <;> intro h <;> (try simp only [zM, zN] at h) <;> try exact absurd h (by decide)) | refine yW ?_ | refine yX ?_ | refine yY ?_ | refine ⟨by omega, Sx.encStr (ns.getD (ns.length - 1) []), hlx, ?_⟩ | refine ⟨by omega, ?_⟩ | refine ⟨by omega, by omega, ?_⟩) | (refine ⟨1000000, _, _, _, ka, rfl, ?_⟩) | (refine ⟨1000000, _, _, _, kb, rfl, ?_⟩) | (refine ⟨1000000, _, _, _, next_k 1000000 s3 hs3 _ (by omega), rfl, ?_⟩) | (with_reducible first | (refine xB (id := 25) 9 mixed (by kernel_rfl) fun K hK => ?_; simp only [lG, lH, lI, lJ]) | refine yZ mixed (by kernel_rfl) fun K hK => ?_ | refine ⟨(by kernel_rfl : depB _ _ _ = true), ?_⟩ | refine Or.inl ?_) | (clear hK K))
      all_goals (simp only [joinP, hq, zb, cond_true, cond_false, decide_true, decide_false, Int.reduceEq, kidsQ_lit])
      all_goals (refine ⟨by first | trivial | rfl, fun x hx => ?_⟩; simp only [lN] at hx; subst hx; simp)
theorem made_p : ∀ d : Nat, d ≤ 10 → MadePC d
  | 0, _ => base_p
  | d + 1, h => step_p d (by omega) (made_p d (by omega))
def bP : Nat → Nat
  | 0 => 1
  | d + 1 => 1 + 2 * bP d
theorem cnt_kidsQ (k : Int) (t : List UInt8) (ks : List KeyD) (l : List Pat) : cntP (kidsQ k t ks l) = 1 + cntPs l := by rw [cntP_eq]; rfl
theorem cnt_made : ∀ (d : Nat) (ns : List (List UInt8)) (s : Src), cntP (madeP d ns s).1 ≤ bP d
  | 0, ns, s => by
    unfold madeP baseP bP
    cases decide (nextV s 6 = 0) <;> cases decide (nextV s 6 = 1) <;> cases decide (nextV s 6 = 2) <;> cases decide (nextV s 6 = 3) <;> cases decide (nextV s 6 = 4) <;> (simp only [cond_true, cond_false]; rw [cntP_eq]; exact Nat.le_refl 1)
  | d + 1, ns, s => by
    have h1 := cnt_made d (ns.take (ns.length / 2)) s
    have h2 := cnt_made d (ns.drop (ns.length / 2)) (madeP d (ns.take (ns.length / 2)) s).2
    unfold madeP joinP bP
    generalize (madeP d (ns.take (ns.length / 2)) s).1 = a at *
    generalize (madeP d (ns.take (ns.length / 2)) s).2 = s2 at *
    generalize (madeP d (ns.drop (ns.length / 2)) s2).1 = b at *
    generalize (madeP d (ns.drop (ns.length / 2)) s2).2 = s3 at *
    cases decide (nextV s3 6 = 0) <;> cases decide (nextV s3 6 = 1) <;> cases decide (nextV s3 6 = 2) <;> cases decide (nextV s3 6 = 3) <;> cases decide (nextV s3 6 = 4) <;> (simp only [cond_true, cond_false, cnt_kidsQ, cntPs]; omega)
def encLP (l : List Int) : List C := [.sl 1 (l.map encInt)]
theorem shortP_c (ll : List (List Int)) : PC zP 17 [.one (.dat (.sl 1 (ll.map encLP)))] (Bo (ll.all fun l => !decide ((80 : Int) < (l.length : Int)))) := by
  refine PCB.of_body Tryz.func17 rfl (by decide) Tryz.ntmps17 Tryz.results17 rfl rfl rfl ?_ rfl rfl
  repeat' (first | (simp only [go_sem, zA, zB, zC, zD, zE, zF, zG, reduceCtorEq, zH, zI, zJ, zK, zL, lB]; all_goals fail_if_success guard_target =ₛ False) | (with_reducible first | ((first | refine yA rfl ?_ | refine yS ?_ | refine yT (by kernel_rfl) ?_); intro K hK) | (apply hK; clear hK K) | refine yU ?_ | (refine yV (by with_unfolding_all rfl) ?_ ?_ <;> intro h <;> (try simp only [zM, zN] at h) <;> try exact absurd h (by decide)) | refine yW ?_ | refine yX ?_ | refine yY ?_ | refine Or.inl ?_) | (clear hK K))
  refine AWP.len 0 rfl fun hlen0 => ?_
  (try rw [lB] at hlen0)
  refine xC (S := Unit) (ll) encLP (fun k s => (3, I .i64 (k : Nat)) :: []) (fun k s => []) [0] [] (fun k s => (ll.all fun l => !decide ((80 : Int) < (l.length : Int))) = ((ll.drop k).all fun l => !decide ((80 : Int) < (l.length : Int)))) (()) (by simp only [go_sem, zA, zB, zC, zD, zE, zF, zG, reduceCtorEq, zH, zI, zJ, zK, zL]; exact (by refine xG [] ?_ ?_ rfl rfl rfl <;> repeat first | exact trivial | refine ⟨rfl, ?_⟩ | refine ⟨by (simp only [go_sem, zA, zB, zC, zD, zE, zF, zG, reduceCtorEq, zH, zI, zJ, zK, zL, lA, lB, lC, lD, Nat.zero_add]) <;> rfl, ?_⟩)) ?_ ?_ ?_
  · rfl
  · intro k s x hlt hx hx' hb hok
    simp only [go_sem, zA, zB, zC, zD, zE, zF, zG, reduceCtorEq, zH, zI, zJ, zK, zL]
    rw [all_step hx] at hok
    cases hz : decide ((80 : Int) < (x.length : Int)) <;> simp only [hz, Bool.not_true, Bool.not_false, Bool.true_and, Bool.false_and] at hok
    all_goals
      repeat' (first | (simp only [go_sem, zA, zB, zC, zD, zE, zF, zG, reduceCtorEq, zH, zI, zJ, zK, zL, encLP, lB, hb, hz]; all_goals fail_if_success guard_target =ₛ False) | (with_reducible first | ((first | refine yA rfl ?_ | refine yS ?_ | refine yT (by kernel_rfl) ?_); intro K hK) | (apply hK; clear hK K) | refine yU ?_ | (refine yV (by with_unfolding_all rfl) ?_ ?_ <;> intro h <;> (try simp only [zM, zN] at h) <;> try exact absurd h (by decide)) | refine yW ?_ | refine yX ?_ | refine yY ?_ | refine ⟨by omega, encLP x, hx', ?_⟩ | refine Or.inl ?_) | (clear hK K))
    ·
      all_goals (rw [wrap_succ hlt hlen0])
      all_goals (refine ⟨(), ?_, (by refine xG [] ?_ ?_ rfl rfl rfl <;> repeat first | exact trivial | refine ⟨rfl, ?_⟩ | refine ⟨by (simp only [go_sem, zA, zB, zC, zD, zE, zF, zG, reduceCtorEq, zH, zI, zJ, zK, zL, lA, lB, lC, lD, Nat.zero_add]) <;> rfl, ?_⟩)⟩)
      all_goals exact hok
    ·
      all_goals (first | exact fun _ h => (by cases h) | (refine fin0 ?_; first | rfl | (simp only [hok, zb, cond_true, cond_false, decide_true, decide_false] <;> rfl)))
  · intro s hb hok
    simp only [go_sem, zA, zB, zC, zD, zE, zF, zG, reduceCtorEq, zH, zI, zJ, zK, zL]
    rw [all_end] at hok
    repeat' (first | (simp only [go_sem, zA, zB, zC, zD, zE, zF, zG, reduceCtorEq, zH, zI, zJ, zK, zL, lB, hb]; all_goals fail_if_success guard_target =ₛ False) | (with_reducible first | ((first | refine yA rfl ?_ | refine yS ?_ | refine yT (by kernel_rfl) ?_); intro K hK) | (apply hK; clear hK K) | refine yU ?_ | (refine yV (by with_unfolding_all rfl) ?_ ?_ <;> intro h <;> (try simp only [zM, zN] at h) <;> try exact absurd h (by decide)) | refine yW ?_ | refine yX ?_ | refine yY ?_ | refine Or.inl ?_) | (clear hK K))
    all_goals (first | exact fun _ h => (by cases h) | (refine fin0 ?_; first | rfl | (simp only [hok, zb, cond_true, cond_false, decide_true, decide_false] <;> rfl)))
def varL : List (List UInt8) := [[80], [81], [82], [83], [84], [85], [86], [87]]
theorem vars_c : PC zP 20 [] (.one (.dat (.sl 1 (varL.map Sx.encStr)))) := by
  refine PCB.of_body Tryz.func20 rfl (by decide) Tryz.ntmps20 Tryz.results20 rfl rfl rfl ?_ rfl rfl
  repeat' (first | (simp only [go_sem, zA, zB, zC, zD, zE, zF, zG, reduceCtorEq, zH, zI, zJ, zK, zL]; all_goals fail_if_success guard_target =ₛ False) | (with_reducible first | ((first | refine yA rfl ?_ | refine yS ?_ | refine yT (by kernel_rfl) ?_); intro K hK) | (apply hK; clear hK K) | refine yU ?_ | (refine yV (by with_unfolding_all rfl) ?_ ?_ <;> intro h <;> (try simp only [zM, zN] at h) <;> try exact absurd h (by decide)) | refine yW ?_ | refine yX ?_ | refine yY ?_ | refine Or.inl ?_) | (clear hK K))
  all_goals (first | exact fun _ h => (by cases h) | (refine fin0 ?_; first | rfl | (simp only [zb, cond_true, cond_false, decide_true, decide_false] <;> rfl)))
theorem cells_pat : ∀ (n : Nat) (row : List C), hasT zP n 49 row → ∃ g : Pat, row = encP g := by
  intro n
  induction n using Nat.strongRecOn with
  | _ n ih =>
    intro row h
    obtain ⟨m, parts, rfl, rfl, hl, hf⟩ := cells_st Tryz.underlying49 h
    match parts, hl with
    | [p0, p1, p2, p3, p4], _ =>
      obtain ⟨a0, rfl⟩ := cells_i64 Tryz.underlying3 (hf 0 _ p0 rfl rfl)
      obtain ⟨a1, rfl⟩ := cells_i64 Tryz.underlying2 (hf 1 _ p1 rfl rfl)
      obtain ⟨a2, rfl⟩ := cells_text Tryz.underlying9 (hf 2 _ p2 rfl rfl)
      obtain ⟨a3, rfl⟩ := cells_row (enc := encP) (sz := 5) Tryz.underlying47 (by kernel_rfl) (fun r hr => ih (m - 1) (by omega) r hr) (hf 3 _ p3 rfl rfl)
      obtain ⟨a4, rfl⟩ := cells_row (enc := encKey) (sz := 2) Tryz.underlying28 (by kernel_rfl) (fun r hr => cells_key hr) (hf 4 _ p4 rfl rfl)
      exact ⟨⟨a0, a1, a2, a3, a4⟩, by rw [encP_eq]; rfl⟩
mutual
theorem cntP_le : ∀ g : Pat, cntP g ≤ cbL (encP g)
  | ⟨kind, num, text, kids, keys⟩ => by
    have h1 := cntPs_leB kids
    simp only [cntP, encP, cbL, cbC]; omega
theorem cntPs_leB : ∀ l : List Pat, cntPs l ≤ cbRs (encPs l)
  | [] => by simp [cntPs]
  | g :: l => by have h1 := cntP_le g; have h2 := cntPs_leB l; simp only [cntPs, encPs, cbRs]; omega
end
end Go.Proofs.YteobojeemflggaaGreat
