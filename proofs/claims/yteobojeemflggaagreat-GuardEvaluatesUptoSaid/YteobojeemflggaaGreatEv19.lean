/- A part of the proof: lemmas about the walk of the program and about plain integers and lists. No conditions beyond those that each lemma states. -/
import Derived.Test.YteobojeemflggaaGreatEv16
import Derived.Test.YteobojeemflggaaGreatEv8
import Derived.Test.YteobojeemflggaaGreatEv7
import Derived.Test.YteobojeemflggaaGreatEv17
import Derived.Test.YteobojeemflggaaGreatEv18
import Derived.Test.YteobojeemflggaaGreatEv15
import Derived.Test.YteobojeemflggaaGreatEv5
import Derived.Test.YteobojeemflggaaGreatEv4
import Derived.Test.YteobojeemflggaaGreatEv6
import Derived.Test.YteobojeemflggaaGreatEv3
set_option linter.unusedSimpArgs false
set_option linter.unusedVariables false
set_option maxRecDepth 20000
set_option maxHeartbeats 16000000
namespace Go.Proofs.YteobojeemflggaaGreat
open Go Go.Sx
open Nat renaming reduceBEq → zA, reduceBNe → zB, reduceAdd → zC, reduceSub → zD, reduceMul → zE, reduceLeDiff → zF, reduceLT → zG, reduceEqDiff → zH
open Int renaming reduceToNat → zI, reduceLE → zJ, reduceLT → zK, reduceEq → zL
open Bool renaming not_eq_true' → zM, not_eq_false' → zN
set_option maxHeartbeats 64000000 in
theorem good_ofalse (g : Grd) (ih : ∀ k ∈ g.kids, PC Tryz.prog 68 [Gt k] (Bo (treeG k))) (hiv : isVarB g.name = false) (g1 : decide (g.kind = 1) = false) (g2 : decide (g.kind = 2) = false) (g3 : decide (g.kind = 3) = false) (g4 : decide (g.kind = 4) = false) (g5 : decide (g.kind = 5) = false) (g6 : decide (g.kind = 6) = false) (g7 : decide (g.kind = 7) = false) (g8 : decide (g.kind = 8) = false) (g9 : decide (g.kind = 9) = false) (g10 : decide (g.kind = 10) = false) (g11 : decide (g.kind = 11) = false) (g12 : decide (g.kind = 12) = false) (g13 : decide (g.kind = 13) = false) (g14 : decide (g.kind = 14) = false) (g15 : decide (g.kind = 15) = false) (g16 : decide (g.kind = 16) = false) (g17 : decide (g.kind = 17) = false) (ht : testG g.kind = false) : PC Tryz.prog 68 [Gt g] (Bo (treeG g)) := by
  have htr := treeG_eq g
  have hz0 : decide ((0 : Int) < (g.kids.length : Int)) = !decide ((g.kids.length : Int) = 0) := by rw [← Bool.coe_iff_coe]; simp only [decide_eq_true_eq, Bool.not_eq_true', decide_eq_false_iff_not]; omega
  have hr : (decide (1 ≤ g.kind) = false ∧ decide (5 ≤ g.kind) = false ∧ decide (1 ≤ g.kind) = false) ∨ (decide (1 ≤ g.kind) = true ∧ decide (5 ≤ g.kind) = true ∧ decide (g.kind ≤ 17) = false) := by
    simp only [decide_eq_false_iff_not, decide_eq_true_eq] at *
    omega
  rcases hr with ⟨r1, r2, r3⟩ | ⟨r1, r2, r3⟩
  iterate 2
    ·
      refine PCB.of_body Tryz.func68 rfl (by decide) Tryz.ntmps68 Tryz.results68 rfl rfl rfl ?_ rfl rfl
      repeat' (first | (with_reducible refine AWP.join (id := 8) (fun b : Bool => [(7, Bo b)]) (fun _ => []) [1, 3] [1] (fun b => Is (vG g) b) ?_ ?_) | (simp only [go_sem, zA, zB, zC, zD, zE, zF, zG, reduceCtorEq, zH, zI, zJ, zK, zL, encG_eq g, hiv, r1, r2, r3, g1, g2, g3, g4, g5, g6, g7, g8, g9, g10, g11, g12, g13, g14, g15, g16, g17, List.length_map]; all_goals fail_if_success guard_target =ₛ False) | (with_reducible first | ((first | refine seqVC_stepN rfl ?_ | refine seqVC_stepG rfl (by with_unfolding_all rfl) ?_ | refine AWP.seq ?_ | refine AWP.seqR (by kernel_rfl) ?_); intro K hK) | ((first | refine hK _ _ _ ?_ | refine hK _ _ ?_ | refine hK _ ?_); clear hK K) | refine seqVC_nil ?_ | refine AWP.block ?_ | (refine AWP.cond (by with_unfolding_all rfl) ?_ ?_ <;> intro h <;> (try simp only [zM, zN] at h) <;> try exact absurd h (by decide)) | refine AWP.skip ?_ | refine AWP.ret ?_ | refine AWP.exit ?_ | (refine ⟨fun h => ?_, fun h => ?_⟩ <;> (try simp only [zM, zN] at h) <;> try simp only [h]) | refine ⟨_, refIsVariable_c _, ?_⟩ | refine Or.inl ?_) | (clear hK K))
      any_goals (refine fin0 ?_; rw [htr]; simp only [vG, badG, bodyG, connG, testG, intG, textG, keyZ, ht, hz0, Int.reduceEq, Int.reduceLE, *, zb, Bool.not_not, cond_true, cond_false, decide_true, decide_false]; done)
      any_goals (refine ⟨_, ?_, Gh.to [] (by repeat (first | exact trivial | refine ⟨rfl, ?_⟩ | refine ⟨by (simp only [go_sem, zA, zB, zC, zD, zE, zF, zG, reduceCtorEq, zH, zI, zJ, zK, zL, List.length_append, List.length_map, List.length_cons, List.length_nil, Nat.zero_add]) <;> rfl, ?_⟩)) (by repeat (first | exact trivial | refine ⟨rfl, ?_⟩ | refine ⟨by (simp only [go_sem, zA, zB, zC, zD, zE, zF, zG, reduceCtorEq, zH, zI, zJ, zK, zL, List.length_append, List.length_map, List.length_cons, List.length_nil, Nat.zero_add]) <;> rfl, ?_⟩)) rfl rfl rfl⟩; unfold Is; simp only [vG, badG, bodyG, connG, testG, intG, textG, keyZ, ht, hz0, Int.reduceEq, Int.reduceLE, *, zb, Bool.not_not, cond_true, cond_false, decide_true, decide_false]; done)
      intro b hvb
      try simp only [go_sem, zA, zB, zC, zD, zE, zF, zG, reduceCtorEq, zH, zI, zJ, zK, zL]
      repeat' (first | (simp only [go_sem, zA, zB, zC, zD, zE, zF, zG, reduceCtorEq, zH, zI, zJ, zK, zL, encG_eq g, List.length_map]; all_goals fail_if_success guard_target =ₛ False) | (with_reducible first | ((first | refine seqVC_stepN rfl ?_ | refine seqVC_stepG rfl (by with_unfolding_all rfl) ?_ | refine AWP.seq ?_ | refine AWP.seqR (by kernel_rfl) ?_); intro K hK) | ((first | refine hK _ _ _ ?_ | refine hK _ _ ?_ | refine hK _ ?_); clear hK K) | refine seqVC_nil ?_ | refine AWP.block ?_ | (refine AWP.cond (by with_unfolding_all rfl) ?_ ?_ <;> intro h <;> (try simp only [zM, zN] at h) <;> try exact absurd h (by decide)) | refine AWP.skip ?_ | refine AWP.ret ?_ | refine AWP.exit ?_ | (refine ⟨fun h => ?_, fun h => ?_⟩ <;> (try simp only [zM, zN] at h) <;> try simp only [h]) | refine Or.inl ?_) | (clear hK K))
      refine AWP.lenB 1 6 rfl rfl fun hlen0 => ?_
      (try rw [List.length_map] at hlen0)
      refine AWP.range (S := Bool) (g.kids) encG (fun k s => (8, I .i64 (k : Nat)) :: [(7, Bo s)]) (fun k s => []) [1, 3] [1] (fun k s => Is s (b && (g.kids.take k).all treeG)) (b) (by simp only [go_sem, zA, zB, zC, zD, zE, zF, zG, reduceCtorEq, zH, zI, zJ, zK, zL, encG_eq]; exact Gh.to [] (by repeat (first | exact trivial | refine ⟨rfl, ?_⟩ | refine ⟨by (simp only [go_sem, zA, zB, zC, zD, zE, zF, zG, reduceCtorEq, zH, zI, zJ, zK, zL, List.length_append, List.length_map, List.length_cons, List.length_nil, Nat.zero_add]) <;> rfl, ?_⟩)) (by repeat (first | exact trivial | refine ⟨rfl, ?_⟩ | refine ⟨by (simp only [go_sem, zA, zB, zC, zD, zE, zF, zG, reduceCtorEq, zH, zI, zJ, zK, zL, List.length_append, List.length_map, List.length_cons, List.length_nil, Nat.zero_add]) <;> rfl, ?_⟩)) rfl rfl rfl) ?_ ?_ ?_
      · simp [Is]
      · intro k s x hlt hx hx' hb hok
        simp only [go_sem, zA, zB, zC, zD, zE, zF, zG, reduceCtorEq, zH, zI, zJ, zK, zL]
        have hix := ih x (List.mem_of_getElem? hx)
        have hat := all_take (p := treeG) hx
        cases s
        ·
          repeat' (first | (simp only [go_sem, zA, zB, zC, zD, zE, zF, zG, reduceCtorEq, zH, zI, zJ, zK, zL, encG_eq g, List.length_map, hb]; all_goals fail_if_success guard_target =ₛ False) | (with_reducible first | ((first | refine seqVC_stepN rfl ?_ | refine seqVC_stepG rfl (by with_unfolding_all rfl) ?_ | refine AWP.seq ?_ | refine AWP.seqR (by kernel_rfl) ?_); intro K hK) | ((first | refine hK _ _ _ ?_ | refine hK _ _ ?_ | refine hK _ ?_); clear hK K) | refine seqVC_nil ?_ | refine AWP.block ?_ | (refine AWP.cond (by with_unfolding_all rfl) ?_ ?_ <;> intro h <;> (try simp only [zM, zN] at h) <;> try exact absurd h (by decide)) | refine AWP.skip ?_ | refine AWP.ret ?_ | refine AWP.exit ?_ | (refine ⟨fun h => ?_, fun h => ?_⟩ <;> (try simp only [zM, zN] at h) <;> try simp only [h]) | refine Or.inl ?_) | (clear hK K))
          all_goals (rw [wrap_succ hlt hlen0])
          all_goals (refine ⟨false, ?_, Gh.to [] (by repeat (first | exact trivial | refine ⟨rfl, ?_⟩ | refine ⟨by (simp only [go_sem, zA, zB, zC, zD, zE, zF, zG, reduceCtorEq, zH, zI, zJ, zK, zL, List.length_append, List.length_map, List.length_cons, List.length_nil, Nat.zero_add]) <;> rfl, ?_⟩)) (by repeat (first | exact trivial | refine ⟨rfl, ?_⟩ | refine ⟨by (simp only [go_sem, zA, zB, zC, zD, zE, zF, zG, reduceCtorEq, zH, zI, zJ, zK, zL, List.length_append, List.length_map, List.length_cons, List.length_nil, Nat.zero_add]) <;> rfl, ?_⟩)) rfl rfl rfl⟩)
          all_goals (show false = _; rw [hat, ← Bool.and_assoc, ← show false = _ from hok]; rfl)
        ·
          repeat' (first | (simp only [go_sem, zA, zB, zC, zD, zE, zF, zG, reduceCtorEq, zH, zI, zJ, zK, zL, encG_eq g, List.length_map, hb]; all_goals fail_if_success guard_target =ₛ False) | (with_reducible first | ((first | refine seqVC_stepN rfl ?_ | refine seqVC_stepG rfl (by with_unfolding_all rfl) ?_ | refine AWP.seq ?_ | refine AWP.seqR (by kernel_rfl) ?_); intro K hK) | ((first | refine hK _ _ _ ?_ | refine hK _ _ ?_ | refine hK _ ?_); clear hK K) | refine seqVC_nil ?_ | refine AWP.block ?_ | (refine AWP.cond (by with_unfolding_all rfl) ?_ ?_ <;> intro h <;> (try simp only [zM, zN] at h) <;> try exact absurd h (by decide)) | refine AWP.skip ?_ | refine AWP.ret ?_ | refine AWP.exit ?_ | (refine ⟨fun h => ?_, fun h => ?_⟩ <;> (try simp only [zM, zN] at h) <;> try simp only [h]) | refine ⟨_, hix, ?_⟩ | refine ⟨by omega, encG x, hx', ?_⟩ | refine Or.inl ?_) | (clear hK K))
          all_goals (rw [wrap_succ hlt hlen0])
          all_goals (refine ⟨treeG x, ?_, Gh.to [] (by repeat (first | exact trivial | refine ⟨rfl, ?_⟩ | refine ⟨by (simp only [go_sem, zA, zB, zC, zD, zE, zF, zG, reduceCtorEq, zH, zI, zJ, zK, zL, List.length_append, List.length_map, List.length_cons, List.length_nil, Nat.zero_add]) <;> rfl, ?_⟩)) (by repeat (first | exact trivial | refine ⟨rfl, ?_⟩ | refine ⟨by (simp only [go_sem, zA, zB, zC, zD, zE, zF, zG, reduceCtorEq, zH, zI, zJ, zK, zL, List.length_append, List.length_map, List.length_cons, List.length_nil, Nat.zero_add]) <;> rfl, ?_⟩)) rfl rfl rfl⟩)
          all_goals (show treeG x = _; rw [hat, ← Bool.and_assoc, ← show true = _ from hok]; rfl)
      · intro s hb hok
        simp only [go_sem, zA, zB, zC, zD, zE, zF, zG, reduceCtorEq, zH, zI, zJ, zK, zL]
        rw [Is, List.take_length] at hok
        repeat' (first | (simp only [go_sem, zA, zB, zC, zD, zE, zF, zG, reduceCtorEq, zH, zI, zJ, zK, zL, encG_eq g, List.length_map, hb]; all_goals fail_if_success guard_target =ₛ False) | (with_reducible first | ((first | refine seqVC_stepN rfl ?_ | refine seqVC_stepG rfl (by with_unfolding_all rfl) ?_ | refine AWP.seq ?_ | refine AWP.seqR (by kernel_rfl) ?_); intro K hK) | ((first | refine hK _ _ _ ?_ | refine hK _ _ ?_ | refine hK _ ?_); clear hK K) | refine seqVC_nil ?_ | refine AWP.block ?_ | (refine AWP.cond (by with_unfolding_all rfl) ?_ ?_ <;> intro h <;> (try simp only [zM, zN] at h) <;> try exact absurd h (by decide)) | refine AWP.skip ?_ | refine AWP.ret ?_ | refine AWP.exit ?_ | (refine ⟨fun h => ?_, fun h => ?_⟩ <;> (try simp only [zM, zN] at h) <;> try simp only [h]) | refine Or.inl ?_) | (clear hK K))
        all_goals (refine fin0 ?_; rw [htr, show vG g = b from hvb, show s = _ from hok])
set_option maxHeartbeats 64000000 in
theorem good_otrue (g : Grd) (ih : ∀ k ∈ g.kids, PC Tryz.prog 68 [Gt k] (Bo (treeG k))) (hiv : isVarB g.name = true) (g1 : decide (g.kind = 1) = false) (g2 : decide (g.kind = 2) = false) (g3 : decide (g.kind = 3) = false) (g4 : decide (g.kind = 4) = false) (g5 : decide (g.kind = 5) = false) (g6 : decide (g.kind = 6) = false) (g7 : decide (g.kind = 7) = false) (g8 : decide (g.kind = 8) = false) (g9 : decide (g.kind = 9) = false) (g10 : decide (g.kind = 10) = false) (g11 : decide (g.kind = 11) = false) (g12 : decide (g.kind = 12) = false) (g13 : decide (g.kind = 13) = false) (g14 : decide (g.kind = 14) = false) (g15 : decide (g.kind = 15) = false) (g16 : decide (g.kind = 16) = false) (g17 : decide (g.kind = 17) = false) (ht : testG g.kind = false) : PC Tryz.prog 68 [Gt g] (Bo (treeG g)) := by
  have htr := treeG_eq g
  have hz0 : decide ((0 : Int) < (g.kids.length : Int)) = !decide ((g.kids.length : Int) = 0) := by rw [← Bool.coe_iff_coe]; simp only [decide_eq_true_eq, Bool.not_eq_true', decide_eq_false_iff_not]; omega
  have hne := var_ne hiv
  have hr : (decide (1 ≤ g.kind) = false ∧ decide (5 ≤ g.kind) = false ∧ decide (1 ≤ g.kind) = false) ∨ (decide (1 ≤ g.kind) = true ∧ decide (5 ≤ g.kind) = true ∧ decide (g.kind ≤ 17) = false) := by
    simp only [decide_eq_false_iff_not, decide_eq_true_eq] at *
    omega
  rcases hr with ⟨r1, r2, r3⟩ | ⟨r1, r2, r3⟩
  iterate 2
    ·
      refine PCB.of_body Tryz.func68 rfl (by decide) Tryz.ntmps68 Tryz.results68 rfl rfl rfl ?_ rfl rfl
      repeat' (first | (simp only [go_sem, zA, zB, zC, zD, zE, zF, zG, reduceCtorEq, zH, zI, zJ, zK, zL, encG_eq g, hiv, r1, r2, r3, g1, g2, g3, g4, g5, g6, g7, g8, g9, g10, g11, g12, g13, g14, g15, g16, g17, List.length_map]; all_goals fail_if_success guard_target =ₛ False) | (with_reducible first | ((first | refine seqVC_stepN rfl ?_ | refine seqVC_stepG rfl (by with_unfolding_all rfl) ?_ | refine AWP.seq ?_ | refine AWP.seqR (by kernel_rfl) ?_); intro K hK) | ((first | refine hK _ _ _ ?_ | refine hK _ _ ?_ | refine hK _ ?_); clear hK K) | refine seqVC_nil ?_ | refine AWP.block ?_ | (refine AWP.cond (by with_unfolding_all rfl) ?_ ?_ <;> intro h <;> (try simp only [zM, zN] at h) <;> try exact absurd h (by decide)) | refine AWP.skip ?_ | refine AWP.ret ?_ | refine AWP.exit ?_ | (refine ⟨fun h => ?_, fun h => ?_⟩ <;> (try simp only [zM, zN] at h) <;> try simp only [h]) | refine ⟨_, refIsVariable_c _, ?_⟩ | refine Or.inl ?_) | (clear hK K))
      any_goals (refine fin0 ?_; rw [htr]; simp only [vG, badG, bodyG, connG, testG, intG, textG, keyZ, ht, hz0, Int.reduceEq, Int.reduceLE, *, zb, Bool.not_not, cond_true, cond_false, decide_true, decide_false]; done)
end Go.Proofs.YteobojeemflggaaGreat
set_option linter.unusedSimpArgs false
set_option linter.unusedVariables false
set_option maxRecDepth 20000
set_option maxHeartbeats 16000000
namespace Go.Proofs.YteobojeemflggaaGreat
open Go Go.Sx
open Nat renaming reduceBEq → zA, reduceBNe → zB, reduceAdd → zC, reduceSub → zD, reduceMul → zE, reduceLeDiff → zF, reduceLT → zG, reduceEqDiff → zH
open Int renaming reduceToNat → zI, reduceLE → zJ, reduceLT → zK, reduceEq → zL
open Bool renaming not_eq_true' → zM, not_eq_false' → zN
theorem goodGuard_c (g : Grd) : PC Tryz.prog 68 [Gt g] (Bo (treeG g)) := by
  have ih : ∀ k ∈ g.kids, PC Tryz.prog 68 [Gt k] (Bo (treeG k)) := fun k hk => goodGuard_c k
  rcases gkinds g.kind with hk | hk | hk | hk | hk | hk | hk | hk | hk | hk | hk | hk | hk | hk | hk | hk | hk | ⟨g1, g2, g3, g4, g5, g6, g7, g8, g9, g10, g11, g12, g13, g14, g15, g16, g17, ht⟩ <;> cases hiv : isVarB g.name
  all_goals first
    | exact good_a g ih hiv (by omega)
    | exact good_b g ih hiv (by omega)
    | exact good_c g ih hiv (by omega)
    | exact good_d g ih hiv (by omega)
    | exact good_e g ih hiv (by omega)
    | exact good_ofalse g ih hiv g1 g2 g3 g4 g5 g6 g7 g8 g9 g10 g11 g12 g13 g14 g15 g16 g17 ht
    | exact good_otrue g ih hiv g1 g2 g3 g4 g5 g6 g7 g8 g9 g10 g11 g12 g13 g14 g15 g16 g17 ht
termination_by cntG g
decreasing_by all_goals exact cnt_kid hk
theorem any_step {α : Type} {p : α → Bool} {l : List α} {k : Nat} {x : α} (hx : l[k]? = some x) : (l.drop k).any p = (p x || (l.drop (k + 1)).any p) := by
  obtain ⟨h1, e1⟩ := List.getElem?_eq_some_iff.1 hx
  rw [List.drop_eq_getElem_cons h1, e1, List.any_cons]
/-- evaluation of a valid guard, in the document -/
theorem refEvaluate_c (ns : List (List UInt8)) (vs : List Val) (g : Grd) (hg : treeG g = true) : PC Tryz.prog 36 [Gt g, Ns ns, Vs vs] (Bo (evG ns vs g)) := by
  have ih : ∀ k ∈ g.kids, PC Tryz.prog 36 [Gt k, Ns ns, Vs vs] (Bo (evG ns vs k)) := fun k hk => refEvaluate_c ns vs k (tree_kid hg hk)
  rw [evG_eq]
  rcases kindsV (tree_v hg) with hk | hk | hk | ⟨hk, k0, hk0⟩ | ⟨ht, d1, d2, d3, d4⟩
  ·
    refine PCB.of_body Tryz.func36 rfl (by decide) Tryz.ntmps36 Tryz.results36 rfl rfl rfl ?_ rfl rfl
    repeat' (first | (simp only [go_sem, zA, zB, zC, zD, zE, zF, zG, reduceCtorEq, zH, zI, zJ, zK, zL, encG_eq g, hk, Int.reduceEq]; all_goals fail_if_success guard_target =ₛ False) | (with_reducible first | ((first | refine seqVC_stepN rfl ?_ | refine seqVC_stepG rfl (by with_unfolding_all rfl) ?_ | refine AWP.seq ?_ | refine AWP.seqR (by kernel_rfl) ?_ | refine parVC_stepN rfl ?_ | refine parVC_stepG rfl (by with_unfolding_all rfl) ?_ | refine parEVC_stepN rfl ?_ | refine parEVC_stepG rfl (by with_unfolding_all rfl) ?_ | refine genVC_stepN rfl ?_ | refine genVC_stepG rfl (by with_unfolding_all rfl) ?_); intro K hK) | ((first | refine hK _ _ _ ?_ | refine hK _ _ ?_ | refine hK _ ?_); clear hK K) | refine seqVC_nil ?_ | refine parVC_nil ?_ | refine parEVC_nil ?_ | refine genVC_nil ?_ | refine AWP.block ?_ | (refine AWP.cond (by with_unfolding_all rfl) ?_ ?_ <;> intro h <;> (try simp only [zM, zN] at h) <;> try exact absurd h (by decide)) | refine AWP.skip ?_ | refine AWP.ret ?_ | refine AWP.exit ?_ | (refine ⟨fun h => ?_, fun h => ?_⟩ <;> (try simp only [zM, zN] at h) <;> try simp only [h]) | refine AWP.parR mixed (by kernel_rfl) fun K hK => ?_ | refine ⟨(by kernel_rfl : depB _ _ _ = true), ?_⟩ | refine Or.inl ?_) | (clear hK K))
    all_goals (first | exact fun _ h => (by cases h) | (refine fin0 ?_; first | rfl | (simp only [hk, Int.reduceEq, zb, cond_true, cond_false, decide_true, decide_false] <;> rfl)))
  ·
    refine PCB.of_body Tryz.func36 rfl (by decide) Tryz.ntmps36 Tryz.results36 rfl rfl rfl ?_ rfl rfl
    repeat' (first | (simp only [go_sem, zA, zB, zC, zD, zE, zF, zG, reduceCtorEq, zH, zI, zJ, zK, zL, encG_eq g, hk, Int.reduceEq, List.length_map]; all_goals fail_if_success guard_target =ₛ False) | (with_reducible first | ((first | refine seqVC_stepN rfl ?_ | refine seqVC_stepG rfl (by with_unfolding_all rfl) ?_ | refine AWP.seq ?_ | refine AWP.seqR (by kernel_rfl) ?_ | refine parVC_stepN rfl ?_ | refine parVC_stepG rfl (by with_unfolding_all rfl) ?_ | refine parEVC_stepN rfl ?_ | refine parEVC_stepG rfl (by with_unfolding_all rfl) ?_ | refine genVC_stepN rfl ?_ | refine genVC_stepG rfl (by with_unfolding_all rfl) ?_); intro K hK) | ((first | refine hK _ _ _ ?_ | refine hK _ _ ?_ | refine hK _ ?_); clear hK K) | refine seqVC_nil ?_ | refine parVC_nil ?_ | refine parEVC_nil ?_ | refine genVC_nil ?_ | refine AWP.block ?_ | (refine AWP.cond (by with_unfolding_all rfl) ?_ ?_ <;> intro h <;> (try simp only [zM, zN] at h) <;> try exact absurd h (by decide)) | refine AWP.skip ?_ | refine AWP.ret ?_ | refine AWP.exit ?_ | (refine ⟨fun h => ?_, fun h => ?_⟩ <;> (try simp only [zM, zN] at h) <;> try simp only [h]) | refine AWP.parR mixed (by kernel_rfl) fun K hK => ?_ | refine ⟨(by kernel_rfl : depB _ _ _ = true), ?_⟩ | refine Or.inl ?_) | (clear hK K))
    refine AWP.lenB 3 6 rfl rfl fun hlen0 => ?_
    (try rw [List.length_map] at hlen0)
    refine AWP.range (S := Unit) (g.kids) encG (fun k s => (7, I .i64 (k : Nat)) :: []) (fun k s => []) [1, 2, 3] [3] (fun k s => g.kids.all (evG ns vs) = (g.kids.drop k).all (evG ns vs)) (()) (by simp only [go_sem, zA, zB, zC, zD, zE, zF, zG, reduceCtorEq, zH, zI, zJ, zK, zL, encG_eq]; exact Gh.to [] (by repeat (first | exact trivial | refine ⟨rfl, ?_⟩ | refine ⟨by (simp only [go_sem, zA, zB, zC, zD, zE, zF, zG, reduceCtorEq, zH, zI, zJ, zK, zL, List.length_append, List.length_map, List.length_cons, List.length_nil, Nat.zero_add]) <;> rfl, ?_⟩)) (by repeat (first | exact trivial | refine ⟨rfl, ?_⟩ | refine ⟨by (simp only [go_sem, zA, zB, zC, zD, zE, zF, zG, reduceCtorEq, zH, zI, zJ, zK, zL, List.length_append, List.length_map, List.length_cons, List.length_nil, Nat.zero_add]) <;> rfl, ?_⟩)) rfl rfl rfl) ?_ ?_ ?_
    · rfl
    · intro k s x hlt hx hx' hb hok
      simp only [go_sem, zA, zB, zC, zD, zE, zF, zG, reduceCtorEq, zH, zI, zJ, zK, zL]
      have hix := ih x (List.mem_of_getElem? hx)
      rw [all_step hx] at hok
      cases hz : evG ns vs x <;> simp only [hz, Bool.true_and, Bool.false_and] at hok
      ·
        repeat' (first | (simp only [go_sem, zA, zB, zC, zD, zE, zF, zG, reduceCtorEq, zH, zI, zJ, zK, zL, encG_eq g, List.length_map, hb, hz]; all_goals fail_if_success guard_target =ₛ False) | (with_reducible first | ((first | refine seqVC_stepN rfl ?_ | refine seqVC_stepG rfl (by with_unfolding_all rfl) ?_ | refine AWP.seq ?_ | refine AWP.seqR (by kernel_rfl) ?_ | refine parVC_stepN rfl ?_ | refine parVC_stepG rfl (by with_unfolding_all rfl) ?_ | refine parEVC_stepN rfl ?_ | refine parEVC_stepG rfl (by with_unfolding_all rfl) ?_ | refine genVC_stepN rfl ?_ | refine genVC_stepG rfl (by with_unfolding_all rfl) ?_); intro K hK) | ((first | refine hK _ _ _ ?_ | refine hK _ _ ?_ | refine hK _ ?_); clear hK K) | refine seqVC_nil ?_ | refine parVC_nil ?_ | refine parEVC_nil ?_ | refine genVC_nil ?_ | refine AWP.block ?_ | (refine AWP.cond (by with_unfolding_all rfl) ?_ ?_ <;> intro h <;> (try simp only [zM, zN] at h) <;> try exact absurd h (by decide)) | refine AWP.skip ?_ | refine AWP.ret ?_ | refine AWP.exit ?_ | (refine ⟨fun h => ?_, fun h => ?_⟩ <;> (try simp only [zM, zN] at h) <;> try simp only [h]) | refine ⟨_, hix, ?_⟩ | refine ⟨by omega, encG x, hx', ?_⟩ | refine AWP.parR mixed (by kernel_rfl) fun K hK => ?_ | refine ⟨(by kernel_rfl : depB _ _ _ = true), ?_⟩ | refine Or.inl ?_) | (clear hK K))
        all_goals (first | exact fun _ h => (by cases h) | (refine fin0 ?_; first | rfl | (simp only [hok, hk, Int.reduceEq, zb, cond_true, cond_false, decide_true, decide_false] <;> rfl)))
      ·
        repeat' (first | (simp only [go_sem, zA, zB, zC, zD, zE, zF, zG, reduceCtorEq, zH, zI, zJ, zK, zL, encG_eq g, List.length_map, hb, hz]; all_goals fail_if_success guard_target =ₛ False) | (with_reducible first | ((first | refine seqVC_stepN rfl ?_ | refine seqVC_stepG rfl (by with_unfolding_all rfl) ?_ | refine AWP.seq ?_ | refine AWP.seqR (by kernel_rfl) ?_ | refine parVC_stepN rfl ?_ | refine parVC_stepG rfl (by with_unfolding_all rfl) ?_ | refine parEVC_stepN rfl ?_ | refine parEVC_stepG rfl (by with_unfolding_all rfl) ?_ | refine genVC_stepN rfl ?_ | refine genVC_stepG rfl (by with_unfolding_all rfl) ?_); intro K hK) | ((first | refine hK _ _ _ ?_ | refine hK _ _ ?_ | refine hK _ ?_); clear hK K) | refine seqVC_nil ?_ | refine parVC_nil ?_ | refine parEVC_nil ?_ | refine genVC_nil ?_ | refine AWP.block ?_ | (refine AWP.cond (by with_unfolding_all rfl) ?_ ?_ <;> intro h <;> (try simp only [zM, zN] at h) <;> try exact absurd h (by decide)) | refine AWP.skip ?_ | refine AWP.ret ?_ | refine AWP.exit ?_ | (refine ⟨fun h => ?_, fun h => ?_⟩ <;> (try simp only [zM, zN] at h) <;> try simp only [h]) | refine ⟨_, hix, ?_⟩ | refine ⟨by omega, encG x, hx', ?_⟩ | refine AWP.parR mixed (by kernel_rfl) fun K hK => ?_ | refine ⟨(by kernel_rfl : depB _ _ _ = true), ?_⟩ | refine Or.inl ?_) | (clear hK K))
        all_goals (rw [wrap_succ hlt hlen0])
        all_goals (refine ⟨(), ?_, Gh.to [] (by repeat (first | exact trivial | refine ⟨rfl, ?_⟩ | refine ⟨by (simp only [go_sem, zA, zB, zC, zD, zE, zF, zG, reduceCtorEq, zH, zI, zJ, zK, zL, List.length_append, List.length_map, List.length_cons, List.length_nil, Nat.zero_add]) <;> rfl, ?_⟩)) (by repeat (first | exact trivial | refine ⟨rfl, ?_⟩ | refine ⟨by (simp only [go_sem, zA, zB, zC, zD, zE, zF, zG, reduceCtorEq, zH, zI, zJ, zK, zL, List.length_append, List.length_map, List.length_cons, List.length_nil, Nat.zero_add]) <;> rfl, ?_⟩)) rfl rfl rfl⟩)
        all_goals exact hok
    · intro s hb hok
      simp only [go_sem, zA, zB, zC, zD, zE, zF, zG, reduceCtorEq, zH, zI, zJ, zK, zL]
      rw [all_end] at hok
      repeat' (first | (simp only [go_sem, zA, zB, zC, zD, zE, zF, zG, reduceCtorEq, zH, zI, zJ, zK, zL, encG_eq g, List.length_map, hb]; all_goals fail_if_success guard_target =ₛ False) | (with_reducible first | ((first | refine seqVC_stepN rfl ?_ | refine seqVC_stepG rfl (by with_unfolding_all rfl) ?_ | refine AWP.seq ?_ | refine AWP.seqR (by kernel_rfl) ?_ | refine parVC_stepN rfl ?_ | refine parVC_stepG rfl (by with_unfolding_all rfl) ?_ | refine parEVC_stepN rfl ?_ | refine parEVC_stepG rfl (by with_unfolding_all rfl) ?_ | refine genVC_stepN rfl ?_ | refine genVC_stepG rfl (by with_unfolding_all rfl) ?_); intro K hK) | ((first | refine hK _ _ _ ?_ | refine hK _ _ ?_ | refine hK _ ?_); clear hK K) | refine seqVC_nil ?_ | refine parVC_nil ?_ | refine parEVC_nil ?_ | refine genVC_nil ?_ | refine AWP.block ?_ | (refine AWP.cond (by with_unfolding_all rfl) ?_ ?_ <;> intro h <;> (try simp only [zM, zN] at h) <;> try exact absurd h (by decide)) | refine AWP.skip ?_ | refine AWP.ret ?_ | refine AWP.exit ?_ | (refine ⟨fun h => ?_, fun h => ?_⟩ <;> (try simp only [zM, zN] at h) <;> try simp only [h]) | refine AWP.parR mixed (by kernel_rfl) fun K hK => ?_ | refine ⟨(by kernel_rfl : depB _ _ _ = true), ?_⟩ | refine Or.inl ?_) | (clear hK K))
      all_goals (first | exact fun _ h => (by cases h) | (refine fin0 ?_; first | rfl | (simp only [hok, hk, Int.reduceEq, zb, cond_true, cond_false, decide_true, decide_false] <;> rfl)))
  ·
    refine PCB.of_body Tryz.func36 rfl (by decide) Tryz.ntmps36 Tryz.results36 rfl rfl rfl ?_ rfl rfl
    repeat' (first | (simp only [go_sem, zA, zB, zC, zD, zE, zF, zG, reduceCtorEq, zH, zI, zJ, zK, zL, encG_eq g, hk, Int.reduceEq, List.length_map]; all_goals fail_if_success guard_target =ₛ False) | (with_reducible first | ((first | refine seqVC_stepN rfl ?_ | refine seqVC_stepG rfl (by with_unfolding_all rfl) ?_ | refine AWP.seq ?_ | refine AWP.seqR (by kernel_rfl) ?_ | refine parVC_stepN rfl ?_ | refine parVC_stepG rfl (by with_unfolding_all rfl) ?_ | refine parEVC_stepN rfl ?_ | refine parEVC_stepG rfl (by with_unfolding_all rfl) ?_ | refine genVC_stepN rfl ?_ | refine genVC_stepG rfl (by with_unfolding_all rfl) ?_); intro K hK) | ((first | refine hK _ _ _ ?_ | refine hK _ _ ?_ | refine hK _ ?_); clear hK K) | refine seqVC_nil ?_ | refine parVC_nil ?_ | refine parEVC_nil ?_ | refine genVC_nil ?_ | refine AWP.block ?_ | (refine AWP.cond (by with_unfolding_all rfl) ?_ ?_ <;> intro h <;> (try simp only [zM, zN] at h) <;> try exact absurd h (by decide)) | refine AWP.skip ?_ | refine AWP.ret ?_ | refine AWP.exit ?_ | (refine ⟨fun h => ?_, fun h => ?_⟩ <;> (try simp only [zM, zN] at h) <;> try simp only [h]) | refine AWP.parR mixed (by kernel_rfl) fun K hK => ?_ | refine ⟨(by kernel_rfl : depB _ _ _ = true), ?_⟩ | refine Or.inl ?_) | (clear hK K))
    refine AWP.lenB 3 6 rfl rfl fun hlen1 => ?_
    (try rw [List.length_map] at hlen1)
    refine AWP.range (S := Unit) (g.kids) encG (fun k s => (8, I .i64 (k : Nat)) :: []) (fun k s => []) [1, 2, 3] [3] (fun k s => g.kids.any (evG ns vs) = (g.kids.drop k).any (evG ns vs)) (()) (by simp only [go_sem, zA, zB, zC, zD, zE, zF, zG, reduceCtorEq, zH, zI, zJ, zK, zL, encG_eq]; exact Gh.to [] (by repeat (first | exact trivial | refine ⟨rfl, ?_⟩ | refine ⟨by (simp only [go_sem, zA, zB, zC, zD, zE, zF, zG, reduceCtorEq, zH, zI, zJ, zK, zL, List.length_append, List.length_map, List.length_cons, List.length_nil, Nat.zero_add]) <;> rfl, ?_⟩)) (by repeat (first | exact trivial | refine ⟨rfl, ?_⟩ | refine ⟨by (simp only [go_sem, zA, zB, zC, zD, zE, zF, zG, reduceCtorEq, zH, zI, zJ, zK, zL, List.length_append, List.length_map, List.length_cons, List.length_nil, Nat.zero_add]) <;> rfl, ?_⟩)) rfl rfl rfl) ?_ ?_ ?_
    · rfl
    · intro k s x hlt hx hx' hb hok
      simp only [go_sem, zA, zB, zC, zD, zE, zF, zG, reduceCtorEq, zH, zI, zJ, zK, zL]
      have hix := ih x (List.mem_of_getElem? hx)
      rw [any_step hx] at hok
      cases hz : evG ns vs x <;> simp only [hz, Bool.true_or, Bool.false_or] at hok
      ·
        repeat' (first | (simp only [go_sem, zA, zB, zC, zD, zE, zF, zG, reduceCtorEq, zH, zI, zJ, zK, zL, encG_eq g, List.length_map, hb, hz]; all_goals fail_if_success guard_target =ₛ False) | (with_reducible first | ((first | refine seqVC_stepN rfl ?_ | refine seqVC_stepG rfl (by with_unfolding_all rfl) ?_ | refine AWP.seq ?_ | refine AWP.seqR (by kernel_rfl) ?_ | refine parVC_stepN rfl ?_ | refine parVC_stepG rfl (by with_unfolding_all rfl) ?_ | refine parEVC_stepN rfl ?_ | refine parEVC_stepG rfl (by with_unfolding_all rfl) ?_ | refine genVC_stepN rfl ?_ | refine genVC_stepG rfl (by with_unfolding_all rfl) ?_); intro K hK) | ((first | refine hK _ _ _ ?_ | refine hK _ _ ?_ | refine hK _ ?_); clear hK K) | refine seqVC_nil ?_ | refine parVC_nil ?_ | refine parEVC_nil ?_ | refine genVC_nil ?_ | refine AWP.block ?_ | (refine AWP.cond (by with_unfolding_all rfl) ?_ ?_ <;> intro h <;> (try simp only [zM, zN] at h) <;> try exact absurd h (by decide)) | refine AWP.skip ?_ | refine AWP.ret ?_ | refine AWP.exit ?_ | (refine ⟨fun h => ?_, fun h => ?_⟩ <;> (try simp only [zM, zN] at h) <;> try simp only [h]) | refine ⟨_, hix, ?_⟩ | refine ⟨by omega, encG x, hx', ?_⟩ | refine AWP.parR mixed (by kernel_rfl) fun K hK => ?_ | refine ⟨(by kernel_rfl : depB _ _ _ = true), ?_⟩ | refine Or.inl ?_) | (clear hK K))
        all_goals (rw [wrap_succ hlt hlen1])
        all_goals (refine ⟨(), ?_, Gh.to [] (by repeat (first | exact trivial | refine ⟨rfl, ?_⟩ | refine ⟨by (simp only [go_sem, zA, zB, zC, zD, zE, zF, zG, reduceCtorEq, zH, zI, zJ, zK, zL, List.length_append, List.length_map, List.length_cons, List.length_nil, Nat.zero_add]) <;> rfl, ?_⟩)) (by repeat (first | exact trivial | refine ⟨rfl, ?_⟩ | refine ⟨by (simp only [go_sem, zA, zB, zC, zD, zE, zF, zG, reduceCtorEq, zH, zI, zJ, zK, zL, List.length_append, List.length_map, List.length_cons, List.length_nil, Nat.zero_add]) <;> rfl, ?_⟩)) rfl rfl rfl⟩)
        all_goals exact hok
      ·
        repeat' (first | (simp only [go_sem, zA, zB, zC, zD, zE, zF, zG, reduceCtorEq, zH, zI, zJ, zK, zL, encG_eq g, List.length_map, hb, hz]; all_goals fail_if_success guard_target =ₛ False) | (with_reducible first | ((first | refine seqVC_stepN rfl ?_ | refine seqVC_stepG rfl (by with_unfolding_all rfl) ?_ | refine AWP.seq ?_ | refine AWP.seqR (by kernel_rfl) ?_ | refine parVC_stepN rfl ?_ | refine parVC_stepG rfl (by with_unfolding_all rfl) ?_ | refine parEVC_stepN rfl ?_ | refine parEVC_stepG rfl (by with_unfolding_all rfl) ?_ | refine genVC_stepN rfl ?_ | refine genVC_stepG rfl (by with_unfolding_all rfl) ?_); intro K hK) | ((first | refine hK _ _ _ ?_ | refine hK _ _ ?_ | refine hK _ ?_); clear hK K) | refine seqVC_nil ?_ | refine parVC_nil ?_ | refine parEVC_nil ?_ | refine genVC_nil ?_ | refine AWP.block ?_ | (refine AWP.cond (by with_unfolding_all rfl) ?_ ?_ <;> intro h <;> (try simp only [zM, zN] at h) <;> try exact absurd h (by decide)) | refine AWP.skip ?_ | refine AWP.ret ?_ | refine AWP.exit ?_ | (refine ⟨fun h => ?_, fun h => ?_⟩ <;> (try simp only [zM, zN] at h) <;> try simp only [h]) | refine ⟨_, hix, ?_⟩ | refine ⟨by omega, encG x, hx', ?_⟩ | refine AWP.parR mixed (by kernel_rfl) fun K hK => ?_ | refine ⟨(by kernel_rfl : depB _ _ _ = true), ?_⟩ | refine Or.inl ?_) | (clear hK K))
        all_goals (first | exact fun _ h => (by cases h) | (refine fin0 ?_; first | rfl | (simp only [hok, hk, Int.reduceEq, zb, cond_true, cond_false, decide_true, decide_false] <;> rfl)))
    · intro s hb hok
      simp only [go_sem, zA, zB, zC, zD, zE, zF, zG, reduceCtorEq, zH, zI, zJ, zK, zL]
      rw [List.drop_length] at hok
      repeat' (first | (simp only [go_sem, zA, zB, zC, zD, zE, zF, zG, reduceCtorEq, zH, zI, zJ, zK, zL, encG_eq g, List.length_map, hb]; all_goals fail_if_success guard_target =ₛ False) | (with_reducible first | ((first | refine seqVC_stepN rfl ?_ | refine seqVC_stepG rfl (by with_unfolding_all rfl) ?_ | refine AWP.seq ?_ | refine AWP.seqR (by kernel_rfl) ?_ | refine parVC_stepN rfl ?_ | refine parVC_stepG rfl (by with_unfolding_all rfl) ?_ | refine parEVC_stepN rfl ?_ | refine parEVC_stepG rfl (by with_unfolding_all rfl) ?_ | refine genVC_stepN rfl ?_ | refine genVC_stepG rfl (by with_unfolding_all rfl) ?_); intro K hK) | ((first | refine hK _ _ _ ?_ | refine hK _ _ ?_ | refine hK _ ?_); clear hK K) | refine seqVC_nil ?_ | refine parVC_nil ?_ | refine parEVC_nil ?_ | refine genVC_nil ?_ | refine AWP.block ?_ | (refine AWP.cond (by with_unfolding_all rfl) ?_ ?_ <;> intro h <;> (try simp only [zM, zN] at h) <;> try exact absurd h (by decide)) | refine AWP.skip ?_ | refine AWP.ret ?_ | refine AWP.exit ?_ | (refine ⟨fun h => ?_, fun h => ?_⟩ <;> (try simp only [zM, zN] at h) <;> try simp only [h]) | refine AWP.parR mixed (by kernel_rfl) fun K hK => ?_ | refine ⟨(by kernel_rfl : depB _ _ _ = true), ?_⟩ | refine Or.inl ?_) | (clear hK K))
      all_goals (first | exact fun _ h => (by cases h) | (refine fin0 ?_; first | rfl | (simp only [hok, hk, Int.reduceEq, List.any_nil, zb, cond_true, cond_false, decide_true, decide_false] <;> rfl)))
  · have hm : k0 ∈ g.kids := by rw [hk0]; simp
    have i0 := ih k0 hm
    have hk0' : (g.kids.map encG)[0]? = some (encG k0) := by rw [hk0]; rfl
    refine PCB.of_body Tryz.func36 rfl (by decide) Tryz.ntmps36 Tryz.results36 rfl rfl rfl ?_ rfl rfl
    repeat' (first | (simp only [go_sem, zA, zB, zC, zD, zE, zF, zG, reduceCtorEq, zH, zI, zJ, zK, zL, encG_eq g, hk, Int.reduceEq, List.length_map]; all_goals fail_if_success guard_target =ₛ False) | (with_reducible first | ((first | refine seqVC_stepN rfl ?_ | refine seqVC_stepG rfl (by with_unfolding_all rfl) ?_ | refine AWP.seq ?_ | refine AWP.seqR (by kernel_rfl) ?_ | refine parVC_stepN rfl ?_ | refine parVC_stepG rfl (by with_unfolding_all rfl) ?_ | refine parEVC_stepN rfl ?_ | refine parEVC_stepG rfl (by with_unfolding_all rfl) ?_ | refine genVC_stepN rfl ?_ | refine genVC_stepG rfl (by with_unfolding_all rfl) ?_); intro K hK) | ((first | refine hK _ _ _ ?_ | refine hK _ _ ?_ | refine hK _ ?_); clear hK K) | refine seqVC_nil ?_ | refine parVC_nil ?_ | refine parEVC_nil ?_ | refine genVC_nil ?_ | refine AWP.block ?_ | (refine AWP.cond (by with_unfolding_all rfl) ?_ ?_ <;> intro h <;> (try simp only [zM, zN] at h) <;> try exact absurd h (by decide)) | refine AWP.skip ?_ | refine AWP.ret ?_ | refine AWP.exit ?_ | (refine ⟨fun h => ?_, fun h => ?_⟩ <;> (try simp only [zM, zN] at h) <;> try simp only [h]) | refine ⟨_, i0, ?_⟩ | refine ⟨encG k0, hk0', ?_⟩ | refine ⟨by omega, encG k0, hk0', ?_⟩ | refine AWP.parR mixed (by kernel_rfl) fun K hK => ?_ | refine ⟨(by kernel_rfl : depB _ _ _ = true), ?_⟩ | refine Or.inl ?_) | (clear hK K))
    all_goals (first | exact fun _ h => (by cases h) | refine fin0 ?_)
    all_goals (simp only [hk, hk0, evHd, Int.reduceEq, zb, cond_true, cond_false, decide_true, decide_false])
  ·
    have hn : nameAt ns g = findI (fun x => decide (g.name = x)) 0 ns := rfl
    refine PCB.of_body Tryz.func36 rfl (by decide) Tryz.ntmps36 Tryz.results36 rfl rfl rfl ?_ rfl rfl
    repeat' (first | (simp only [go_sem, zA, zB, zC, zD, zE, zF, zG, reduceCtorEq, zH, zI, zJ, zK, zL, encG_eq g, d1, d2, d3, d4, List.length_map]; all_goals fail_if_success guard_target =ₛ False) | (with_reducible first | ((first | refine seqVC_stepN rfl ?_ | refine seqVC_stepG rfl (by with_unfolding_all rfl) ?_ | refine AWP.seq ?_ | refine AWP.seqR (by kernel_rfl) ?_ | refine parVC_stepN rfl ?_ | refine parVC_stepG rfl (by with_unfolding_all rfl) ?_ | refine parEVC_stepN rfl ?_ | refine parEVC_stepG rfl (by with_unfolding_all rfl) ?_ | refine genVC_stepN rfl ?_ | refine genVC_stepG rfl (by with_unfolding_all rfl) ?_); intro K hK) | ((first | refine hK _ _ _ ?_ | refine hK _ _ ?_ | refine hK _ ?_); clear hK K) | refine seqVC_nil ?_ | refine parVC_nil ?_ | refine parEVC_nil ?_ | refine genVC_nil ?_ | refine AWP.block ?_ | (refine AWP.cond (by with_unfolding_all rfl) ?_ ?_ <;> intro h <;> (try simp only [zM, zN] at h) <;> try exact absurd h (by decide)) | refine AWP.skip ?_ | refine AWP.ret ?_ | refine AWP.exit ?_ | (refine ⟨fun h => ?_, fun h => ?_⟩ <;> (try simp only [zM, zN] at h) <;> try simp only [h]) | refine AWP.parR mixed (by kernel_rfl) fun K hK => ?_ | refine ⟨(by kernel_rfl : depB _ _ _ = true), ?_⟩ | refine Or.inl ?_) | (clear hK K))
    refine AWP.len 1 rfl fun hlen2 => ?_
    (try rw [List.length_map] at hlen2)
    refine AWP.range (S := Unit) (ns) encStr (fun k s => (9, I .i64 (k : Nat)) :: []) (fun k s => []) [1, 2, 3] [3] (fun k s => nameAt ns g = findI (fun x => decide (g.name = x)) k (ns.drop k)) (()) (by simp only [go_sem, zA, zB, zC, zD, zE, zF, zG, reduceCtorEq, zH, zI, zJ, zK, zL, encG_eq]; exact Gh.to [] (by repeat (first | exact trivial | refine ⟨rfl, ?_⟩ | refine ⟨by (simp only [go_sem, zA, zB, zC, zD, zE, zF, zG, reduceCtorEq, zH, zI, zJ, zK, zL, List.length_append, List.length_map, List.length_cons, List.length_nil, Nat.zero_add]) <;> rfl, ?_⟩)) (by repeat (first | exact trivial | refine ⟨rfl, ?_⟩ | refine ⟨by (simp only [go_sem, zA, zB, zC, zD, zE, zF, zG, reduceCtorEq, zH, zI, zJ, zK, zL, List.length_append, List.length_map, List.length_cons, List.length_nil, Nat.zero_add]) <;> rfl, ?_⟩)) rfl rfl rfl) ?_ ?_ ?_
    · rfl
    · intro k s x hlt hx hx' hb hok
      simp only [go_sem, zA, zB, zC, zD, zE, zF, zG, reduceCtorEq, zH, zI, zJ, zK, zL]
      rw [findI_drop _ ns k x hx] at hok
      cases hz : decide (g.name = x) <;> simp only [hz, cond_true, cond_false] at hok <;> rw [show decide (g.name = x) = decide (x = g.name) by simp [eq_comm]] at hz
      ·
        repeat' (first | (simp only [go_sem, zA, zB, zC, zD, zE, zF, zG, reduceCtorEq, zH, zI, zJ, zK, zL, encG_eq g, encStr, List.length_map, hb, hz]; all_goals fail_if_success guard_target =ₛ False) | (with_reducible first | ((first | refine seqVC_stepN rfl ?_ | refine seqVC_stepG rfl (by with_unfolding_all rfl) ?_ | refine AWP.seq ?_ | refine AWP.seqR (by kernel_rfl) ?_ | refine parVC_stepN rfl ?_ | refine parVC_stepG rfl (by with_unfolding_all rfl) ?_ | refine parEVC_stepN rfl ?_ | refine parEVC_stepG rfl (by with_unfolding_all rfl) ?_ | refine genVC_stepN rfl ?_ | refine genVC_stepG rfl (by with_unfolding_all rfl) ?_); intro K hK) | ((first | refine hK _ _ _ ?_ | refine hK _ _ ?_ | refine hK _ ?_); clear hK K) | refine seqVC_nil ?_ | refine parVC_nil ?_ | refine parEVC_nil ?_ | refine genVC_nil ?_ | refine AWP.block ?_ | (refine AWP.cond (by with_unfolding_all rfl) ?_ ?_ <;> intro h <;> (try simp only [zM, zN] at h) <;> try exact absurd h (by decide)) | refine AWP.skip ?_ | refine AWP.ret ?_ | refine AWP.exit ?_ | (refine ⟨fun h => ?_, fun h => ?_⟩ <;> (try simp only [zM, zN] at h) <;> try simp only [h]) | refine ⟨by omega, encStr x, hx', ?_⟩ | refine AWP.parR mixed (by kernel_rfl) fun K hK => ?_ | refine ⟨(by kernel_rfl : depB _ _ _ = true), ?_⟩ | refine Or.inl ?_) | (clear hK K))
        all_goals (rw [wrap_succ hlt hlen2])
        all_goals (refine ⟨(), ?_, Gh.to [] (by repeat (first | exact trivial | refine ⟨rfl, ?_⟩ | refine ⟨by (simp only [go_sem, zA, zB, zC, zD, zE, zF, zG, reduceCtorEq, zH, zI, zJ, zK, zL, List.length_append, List.length_map, List.length_cons, List.length_nil, Nat.zero_add]) <;> rfl, ?_⟩)) (by repeat (first | exact trivial | refine ⟨rfl, ?_⟩ | refine ⟨by (simp only [go_sem, zA, zB, zC, zD, zE, zF, zG, reduceCtorEq, zH, zI, zJ, zK, zL, List.length_append, List.length_map, List.length_cons, List.length_nil, Nat.zero_add]) <;> rfl, ?_⟩)) rfl rfl rfl⟩)
        all_goals exact hok
      · have e0 : decide ((0 : Int) ≤ (k : Int)) = true := by simp
        by_cases hv : k < vs.length
        · obtain ⟨v, hv, hv', e1, _⟩ := at_lt (enc := encVal) hv
          have hval := valid_c v
          have hts := test_c g v ht
          rw [show Gt g = T.st (encG g) from rfl, encG_eq] at hts
          cases hz : treeB v <;> rw [hz] at hval
          iterate 2
            ·
              repeat' (first | (simp only [go_sem, zA, zB, zC, zD, zE, zF, zG, reduceCtorEq, zH, zI, zJ, zK, zL, encG_eq g, encStr, List.length_map, hb, hz, e1, ‹decide (x = g.name) = true›]; all_goals fail_if_success guard_target =ₛ False) | (with_reducible first | ((first | refine seqVC_stepN rfl ?_ | refine seqVC_stepG rfl (by with_unfolding_all rfl) ?_ | refine AWP.seq ?_ | refine AWP.seqR (by kernel_rfl) ?_ | refine parVC_stepN rfl ?_ | refine parVC_stepG rfl (by with_unfolding_all rfl) ?_ | refine parEVC_stepN rfl ?_ | refine parEVC_stepG rfl (by with_unfolding_all rfl) ?_ | refine genVC_stepN rfl ?_ | refine genVC_stepG rfl (by with_unfolding_all rfl) ?_); intro K hK) | ((first | refine hK _ _ _ ?_ | refine hK _ _ ?_ | refine hK _ ?_); clear hK K) | refine seqVC_nil ?_ | refine parVC_nil ?_ | refine parEVC_nil ?_ | refine genVC_nil ?_ | refine AWP.block ?_ | (refine AWP.cond (by with_unfolding_all rfl) ?_ ?_ <;> intro h <;> (try simp only [zM, zN] at h) <;> try exact absurd h (by decide)) | refine AWP.skip ?_ | refine AWP.ret ?_ | refine AWP.exit ?_ | (refine ⟨fun h => ?_, fun h => ?_⟩ <;> (try simp only [zM, zN] at h) <;> try simp only [h]) | refine ⟨_, hval, ?_⟩ | refine ⟨_, hts, ?_⟩ | refine ⟨by omega, encStr x, hx', ?_⟩ | refine ⟨by omega, encVal v, hv', ?_⟩ | refine AWP.parR mixed (by kernel_rfl) fun K hK => ?_ | refine ⟨(by kernel_rfl : depB _ _ _ = true), ?_⟩ | refine Or.inl ?_) | (clear hK K))
              all_goals (first | exact fun _ h => (by cases h) | (refine fin0 ?_; first | rfl | (simp only [atV, hok, e0, e1, hz, hv, d1, d2, d3, d4, Int.toNat_natCast, zb, cond_true, cond_false, decide_true, decide_false] <;> rfl)))
        · have e1 : decide ((k : Int) < (vs.length : Int)) = false := by simp; omega
          repeat' (first | (simp only [go_sem, zA, zB, zC, zD, zE, zF, zG, reduceCtorEq, zH, zI, zJ, zK, zL, encG_eq g, encStr, List.length_map, hb, hz, e1]; all_goals fail_if_success guard_target =ₛ False) | (with_reducible first | ((first | refine seqVC_stepN rfl ?_ | refine seqVC_stepG rfl (by with_unfolding_all rfl) ?_ | refine AWP.seq ?_ | refine AWP.seqR (by kernel_rfl) ?_ | refine parVC_stepN rfl ?_ | refine parVC_stepG rfl (by with_unfolding_all rfl) ?_ | refine parEVC_stepN rfl ?_ | refine parEVC_stepG rfl (by with_unfolding_all rfl) ?_ | refine genVC_stepN rfl ?_ | refine genVC_stepG rfl (by with_unfolding_all rfl) ?_); intro K hK) | ((first | refine hK _ _ _ ?_ | refine hK _ _ ?_ | refine hK _ ?_); clear hK K) | refine seqVC_nil ?_ | refine parVC_nil ?_ | refine parEVC_nil ?_ | refine genVC_nil ?_ | refine AWP.block ?_ | (refine AWP.cond (by with_unfolding_all rfl) ?_ ?_ <;> intro h <;> (try simp only [zM, zN] at h) <;> try exact absurd h (by decide)) | refine AWP.skip ?_ | refine AWP.ret ?_ | refine AWP.exit ?_ | (refine ⟨fun h => ?_, fun h => ?_⟩ <;> (try simp only [zM, zN] at h) <;> try simp only [h]) | refine ⟨by omega, encStr x, hx', ?_⟩ | refine AWP.parR mixed (by kernel_rfl) fun K hK => ?_ | refine ⟨(by kernel_rfl : depB _ _ _ = true), ?_⟩ | refine Or.inl ?_) | (clear hK K))
          all_goals (first | exact fun _ h => (by cases h) | (refine fin0 ?_; first | rfl | (simp only [atV, hok, e0, e1, d1, d2, d3, d4, zb, cond_true, cond_false, decide_true, decide_false] <;> rfl)))
    · intro s hb hok
      simp only [go_sem, zA, zB, zC, zD, zE, zF, zG, reduceCtorEq, zH, zI, zJ, zK, zL]
      rw [List.drop_length] at hok
      repeat' (first | (simp only [go_sem, zA, zB, zC, zD, zE, zF, zG, reduceCtorEq, zH, zI, zJ, zK, zL, encG_eq g, List.length_map, hb]; all_goals fail_if_success guard_target =ₛ False) | (with_reducible first | ((first | refine seqVC_stepN rfl ?_ | refine seqVC_stepG rfl (by with_unfolding_all rfl) ?_ | refine AWP.seq ?_ | refine AWP.seqR (by kernel_rfl) ?_ | refine parVC_stepN rfl ?_ | refine parVC_stepG rfl (by with_unfolding_all rfl) ?_ | refine parEVC_stepN rfl ?_ | refine parEVC_stepG rfl (by with_unfolding_all rfl) ?_ | refine genVC_stepN rfl ?_ | refine genVC_stepG rfl (by with_unfolding_all rfl) ?_); intro K hK) | ((first | refine hK _ _ _ ?_ | refine hK _ _ ?_ | refine hK _ ?_); clear hK K) | refine seqVC_nil ?_ | refine parVC_nil ?_ | refine parEVC_nil ?_ | refine genVC_nil ?_ | refine AWP.block ?_ | (refine AWP.cond (by with_unfolding_all rfl) ?_ ?_ <;> intro h <;> (try simp only [zM, zN] at h) <;> try exact absurd h (by decide)) | refine AWP.skip ?_ | refine AWP.ret ?_ | refine AWP.exit ?_ | (refine ⟨fun h => ?_, fun h => ?_⟩ <;> (try simp only [zM, zN] at h) <;> try simp only [h]) | refine AWP.parR mixed (by kernel_rfl) fun K hK => ?_ | refine ⟨(by kernel_rfl : depB _ _ _ = true), ?_⟩ | refine Or.inl ?_) | (clear hK K))
      all_goals (refine fin0 ?_; rw [hok]; rfl)
termination_by cntG g
decreasing_by exact cnt_kid hk
def okG (g : Grd) : Bool := !decide ((20 : Int) < (cntG g : Int)) && treeG g
def codeG (g : Grd) : Int := bif decide ((20 : Int) < (cntG g : Int)) then 2 else bif treeG g then 0 else 1
theorem validate_g (g : Grd) (hg : GSm g) : PC Tryz.prog 24 [Gt g] (I .i64 (codeG g)) := by
  have h1 := count_g g hg
  have h2 := validTreeG_c g
  refine PCB.of_body Tryz.func24 rfl (by decide) Tryz.ntmps24 Tryz.results24 rfl rfl rfl ?_ rfl rfl
  cases hz : decide ((20 : Int) < (cntG g : Int)) <;> cases ht : treeG g <;> rw [ht] at h2
  all_goals
    repeat' (first | (simp only [go_sem, zA, zB, zC, zD, zE, zF, zG, reduceCtorEq, zH, zI, zJ, zK, zL, hz]; all_goals fail_if_success guard_target =ₛ False) | (with_reducible first | ((first | refine seqVC_stepN rfl ?_ | refine AWP.seq ?_ | refine AWP.seqR (by kernel_rfl) ?_); intro K hK) | ((first | refine hK _ _ _ ?_ | refine hK _ _ ?_ | refine hK _ ?_); clear hK K) | refine seqVC_nil ?_ | refine AWP.block ?_ | (refine AWP.cond (by with_unfolding_all rfl) ?_ ?_ <;> intro h <;> (try simp only [zM, zN] at h) <;> try exact absurd h (by decide)) | refine AWP.skip ?_ | refine AWP.ret ?_ | refine AWP.exit ?_ | refine ⟨_, h1, ?_⟩ | refine ⟨_, h2, ?_⟩ | refine Or.inl ?_) | (clear hK K))
  all_goals (first | exact fun _ h => (by cases h) | (refine fin0 ?_; first | rfl | (simp only [codeG, hz, ht, zb, cond_true, cond_false, decide_true, decide_false] <;> rfl)))
theorem refValidate_g (g : Grd) (hg : GSm g) : PC Tryz.prog 35 [Gt g] (I .i64 (codeG g)) := by
  have h1 := guards_c g hg
  have h2 := goodGuard_c g
  refine PCB.of_body Tryz.func35 rfl (by decide) Tryz.ntmps35 Tryz.results35 rfl rfl rfl ?_ rfl rfl
  cases hz : decide ((20 : Int) < (cntG g : Int)) <;> cases ht : treeG g <;> rw [ht] at h2
  all_goals
    repeat' (first | (simp only [go_sem, zA, zB, zC, zD, zE, zF, zG, reduceCtorEq, zH, zI, zJ, zK, zL, hz]; all_goals fail_if_success guard_target =ₛ False) | (with_reducible first | ((first | refine seqVC_stepN rfl ?_ | refine AWP.seq ?_ | refine AWP.seqR (by kernel_rfl) ?_); intro K hK) | ((first | refine hK _ _ _ ?_ | refine hK _ _ ?_ | refine hK _ ?_); clear hK K) | refine seqVC_nil ?_ | refine AWP.block ?_ | (refine AWP.cond (by with_unfolding_all rfl) ?_ ?_ <;> intro h <;> (try simp only [zM, zN] at h) <;> try exact absurd h (by decide)) | refine AWP.skip ?_ | refine AWP.ret ?_ | refine AWP.exit ?_ | refine ⟨_, h1, ?_⟩ | refine ⟨_, h2, ?_⟩ | refine Or.inl ?_) | (clear hK K))
  all_goals (first | exact fun _ h => (by cases h) | (refine fin0 ?_; first | rfl | (simp only [codeG, hz, ht, zb, cond_true, cond_false, decide_true, decide_false] <;> rfl)))
def trueG : Grd := ⟨1, [], 0, [], ⟨0, []⟩, []⟩
def soundG (g : Grd) : Grd := bif okG g then g else trueG
theorem trueG_lit : Gt trueG = .st [.int .i64 1, .str [], .int .i64 0, .str [], .int .i64 0, .str [], .sl 7 []] := by rw [Gt, encG_eq]; rfl
theorem code_ok (g : Grd) : decide (codeG g = 0) = okG g := by
  unfold codeG okG
  cases decide ((20 : Int) < (cntG g : Int)) <;> cases treeG g <;> rfl
theorem sound_c (g : Grd) (hg : GSm g) : PC Tryz.prog 34 [Gt g] (Gt (soundG g)) := by
  have h1 := validate_g g hg
  have hc := code_ok g
  unfold soundG
  refine PCB.of_body Tryz.func34 rfl (by decide) Tryz.ntmps34 Tryz.results34 rfl rfl rfl ?_ rfl rfl
  cases hz : okG g <;> rw [hz] at hc
  all_goals
    repeat' (first | (simp only [go_sem, zA, zB, zC, zD, zE, zF, zG, reduceCtorEq, zH, zI, zJ, zK, zL, hc]; all_goals fail_if_success guard_target =ₛ False) | (with_reducible first | ((first | refine seqVC_stepN rfl ?_ | refine AWP.seq ?_ | refine AWP.seqR (by kernel_rfl) ?_); intro K hK) | ((first | refine hK _ _ _ ?_ | refine hK _ _ ?_ | refine hK _ ?_); clear hK K) | refine seqVC_nil ?_ | refine AWP.block ?_ | (refine AWP.cond (by with_unfolding_all rfl) ?_ ?_ <;> intro h <;> (try simp only [zM, zN] at h) <;> try exact absurd h (by decide)) | refine AWP.skip ?_ | refine AWP.ret ?_ | refine AWP.exit ?_ | refine ⟨_, h1, ?_⟩ | refine Or.inl ?_) | (clear hK K))
  all_goals (first | exact fun _ h => (by cases h) | refine fin0 ?_)
  all_goals (simp only [cond_true, cond_false, trueG_lit]; try rfl)
def evW (ns : List (List UInt8)) (vs : List Val) (g : Grd) : Bool := bif okG g then evG ns vs g else true
theorem ok_tree {g : Grd} (h : okG g = true) : treeG g = true := by unfold okG at h; rw [Bool.and_eq_true] at h; exact h.2
theorem true_tree : treeG trueG = true := by rw [treeG_eq]; rfl
theorem sound_tree (g : Grd) : treeG (soundG g) = true := by
  unfold soundG
  cases hz : okG g
  · exact true_tree
  · exact ok_tree hz
theorem evW_sound (ns : List (List UInt8)) (vs : List Val) (g : Grd) : evG ns vs (soundG g) = evW ns vs g := by
  unfold soundG evW
  cases okG g
  · rw [cond_false, cond_false, evG_eq]; rfl
  · rfl
theorem Evaluate_c (ns : List (List UInt8)) (vs : List Val) (hvs : ∀ v ∈ vs, Sm v) (g : Grd) (hg : GSm g) : PC Tryz.prog 12 [Gt g, Ns ns, Vs vs] (Bo (evW ns vs g)) := by
  have h1 := sound_c g hg
  have h2 := evaluate_c ns vs hvs (soundG g) (sound_tree g)
  rw [evW_sound] at h2
  refine PCB.of_body Tryz.func12 rfl (by decide) Tryz.ntmps12 Tryz.results12 rfl rfl rfl ?_ rfl rfl
  repeat' (first | (simp only [go_sem, zA, zB, zC, zD, zE, zF, zG, reduceCtorEq, zH, zI, zJ, zK, zL]; all_goals fail_if_success guard_target =ₛ False) | (with_reducible first | ((first | refine seqVC_stepN rfl ?_ | refine AWP.seq ?_ | refine AWP.seqR (by kernel_rfl) ?_); intro K hK) | ((first | refine hK _ _ _ ?_ | refine hK _ _ ?_ | refine hK _ ?_); clear hK K) | refine seqVC_nil ?_ | refine AWP.block ?_ | (refine AWP.cond (by with_unfolding_all rfl) ?_ ?_ <;> intro h <;> (try simp only [zM, zN] at h) <;> try exact absurd h (by decide)) | refine AWP.skip ?_ | refine AWP.ret ?_ | refine AWP.exit ?_ | refine ⟨_, h1, ?_⟩ | refine ⟨_, h2, ?_⟩ | refine Or.inl ?_) | (clear hK K))
  all_goals (first | exact fun _ h => (by cases h) | (refine fin0 ?_; first | rfl | (simp only [zb, cond_true, cond_false, decide_true, decide_false] <;> rfl)))
theorem EvaluateGuard_c (ns : List (List UInt8)) (vs : List Val) (g : Grd) (hg : GSm g) : PC Tryz.prog 14 [Gt g, Ns ns, Vs vs] (Bo (evW ns vs g)) := by
  have h1 := refValidate_g g hg
  have hc := code_ok g
  unfold evW
  cases hz : okG g <;> rw [hz] at hc
  ·
    refine PCB.of_body Tryz.func14 rfl (by decide) Tryz.ntmps14 Tryz.results14 rfl rfl rfl ?_ rfl rfl
    repeat' (first | (simp only [go_sem, zA, zB, zC, zD, zE, zF, zG, reduceCtorEq, zH, zI, zJ, zK, zL, hc]; all_goals fail_if_success guard_target =ₛ False) | (with_reducible first | ((first | refine seqVC_stepN rfl ?_ | refine AWP.seq ?_ | refine AWP.seqR (by kernel_rfl) ?_); intro K hK) | ((first | refine hK _ _ _ ?_ | refine hK _ _ ?_ | refine hK _ ?_); clear hK K) | refine seqVC_nil ?_ | refine AWP.block ?_ | (refine AWP.cond (by with_unfolding_all rfl) ?_ ?_ <;> intro h <;> (try simp only [zM, zN] at h) <;> try exact absurd h (by decide)) | refine AWP.skip ?_ | refine AWP.ret ?_ | refine AWP.exit ?_ | refine ⟨_, h1, ?_⟩ | refine Or.inl ?_) | (clear hK K))
    all_goals (first | exact fun _ h => (by cases h) | (refine fin0 ?_; first | rfl | (simp only [zb, cond_true, cond_false, decide_true, decide_false] <;> rfl)))
  · have h2 := refEvaluate_c ns vs g (ok_tree hz)
    refine PCB.of_body Tryz.func14 rfl (by decide) Tryz.ntmps14 Tryz.results14 rfl rfl rfl ?_ rfl rfl
    repeat' (first | (simp only [go_sem, zA, zB, zC, zD, zE, zF, zG, reduceCtorEq, zH, zI, zJ, zK, zL, hc]; all_goals fail_if_success guard_target =ₛ False) | (with_reducible first | ((first | refine seqVC_stepN rfl ?_ | refine AWP.seq ?_ | refine AWP.seqR (by kernel_rfl) ?_); intro K hK) | ((first | refine hK _ _ _ ?_ | refine hK _ _ ?_ | refine hK _ ?_); clear hK K) | refine seqVC_nil ?_ | refine AWP.block ?_ | (refine AWP.cond (by with_unfolding_all rfl) ?_ ?_ <;> intro h <;> (try simp only [zM, zN] at h) <;> try exact absurd h (by decide)) | refine AWP.skip ?_ | refine AWP.ret ?_ | refine AWP.exit ?_ | refine ⟨_, h1, ?_⟩ | refine ⟨_, h2, ?_⟩ | refine Or.inl ?_) | (clear hK K))
    all_goals (first | exact fun _ h => (by cases h) | (refine fin0 ?_; first | rfl | (simp only [zb, cond_true, cond_false, decide_true, decide_false] <;> rfl)))
def xyL : List (List UInt8) := [[88], [89]]
def nmG (s : Src) : List UInt8 := xyL.getD (nextV s 2).toNat []
def baseK (k : Int) (nm : List UInt8) (s : Src) : Grd × Src :=
  bif decide (k = 10) || decide (k = 12) then (⟨k, nm, nextV s 3, [], ⟨0, []⟩, []⟩, nextS s 3) else
  bif decide (k = 13) || decide (k = 16) then (⟨k, nm, numV s, [], ⟨0, []⟩, []⟩, nextS s 10) else
  bif decide (k = 14) then (⟨k, nm, 0, wordV s, ⟨0, []⟩, []⟩, nextS s 4) else
  bif decide (k = 15) then (⟨k, nm, 0, atomV s, ⟨0, []⟩, []⟩, nextS s 4) else
  bif decide (k = 17) then (⟨k, nm, 0, [], ⟨0, [97]⟩, []⟩, s) else (⟨k, nm, 0, [], ⟨0, []⟩, []⟩, s)
def baseG (s : Src) : Grd × Src := baseK (5 + nextV s 13) (nmG (nextS s 13)) (nextS (nextS s 13) 2)
def kidsG (k : Int) (l : List Grd) : Grd := ⟨k, [], 0, [], ⟨0, []⟩, l⟩
theorem kidsG_lit (k : Int) (l : List Grd) : Gt (kidsG k l) = .st [.int .i64 k, .str [], .int .i64 0, .str [], .int .i64 0, .str [], .sl 7 (l.map encG)] := by rw [Gt, encG_eq]; rfl
def madeG : Nat → Src → Grd × Src
  | 0, s => baseG s
  | d + 1, s =>
    bif decide (nextV s 5 = 0) then (kidsG 2 [(madeG d (nextS s 5)).1, (madeG d (madeG d (nextS s 5)).2).1], (madeG d (madeG d (nextS s 5)).2).2) else
    bif decide (nextV s 5 = 1) then (kidsG 3 [(madeG d (nextS s 5)).1, (madeG d (madeG d (nextS s 5)).2).1], (madeG d (madeG d (nextS s 5)).2).2) else
    bif decide (nextV s 5 = 2) then (kidsG 4 [(madeG d (nextS s 5)).1], (madeG d (nextS s 5)).2) else
    bif decide (nextV s 5 = 3) then (kidsG 1 [], nextS s 5) else baseG (nextS s 5)
theorem ok_baseG {s : Src} (h : s.ok) : (baseG s).2.ok := by
  have h2 := ok_next (ok_next h 13) 2
  unfold baseG baseK
  generalize 5 + nextV s 13 = k
  cases (decide (k = 10) || decide (k = 12)) <;> cases (decide (k = 13) || decide (k = 16)) <;> cases decide (k = 14) <;> cases decide (k = 15) <;> cases decide (k = 17) <;> first | exact ok_next h2 _ | exact h2
theorem ok_madeG : ∀ (d : Nat) (s : Src), s.ok → (madeG d s).2.ok
  | 0, s, h => ok_baseG h
  | d + 1, s, h => by
    have h1 := ok_next h 5
    have h2 := ok_madeG d _ h1
    have h3 := ok_madeG d _ h2
    unfold madeG
    cases decide (nextV s 5 = 0) <;> cases decide (nextV s 5 = 1) <;> cases decide (nextV s 5 = 2) <;> cases decide (nextV s 5 = 3) <;> first | exact h3 | exact h2 | exact h1 | exact ok_baseG h1
def MadeGC (f : Src → Grd × Src) (d : Nat) : Prop := ∀ s : Src, s.ok → PCB Tryz.prog 10 [Sp pin, I .i64 d] [(pin, srcB s)] (Gt (f s).1) [(pin, srcB (f s).2)]
theorem MadeGC.k {f : Src → Grd × Src} {d : Nat} (H : MadeGC f d) (k : Nat) (s : Src) (hs : s.ok) : PCBk Tryz.prog 10 [Sp k, I .i64 d] k (srcB s) (Gt (f s).1) (srcB (f s).2) := PCBk.mk k (H s hs)
theorem base_g : MadeGC (madeG 0) 0 := by
  intro s hs
  have a1 := nextV_in s (n := 13) (by omega)
  have a2 := nextV_in (nextS s 13) (n := 2) (by omega)
  have hw0 : IntKind.i64.wrap (5 + nextV s 13) = 5 + nextV s 13 := by rw [w64 (by omega)]
  rcases (show 5 + nextV s 13 = 5 ∨ 5 + nextV s 13 = 6 ∨ 5 + nextV s 13 = 7 ∨ 5 + nextV s 13 = 8 ∨ 5 + nextV s 13 = 9 ∨ 5 + nextV s 13 = 10 ∨ 5 + nextV s 13 = 11 ∨ 5 + nextV s 13 = 12 ∨ 5 + nextV s 13 = 13 ∨ 5 + nextV s 13 = 14 ∨ 5 + nextV s 13 = 15 ∨ 5 + nextV s 13 = 16 ∨ 5 + nextV s 13 = 17 by omega) with hq | hq | hq | hq | hq | hq | hq | hq | hq | hq | hq | hq | hq
  iterate 13
    ·
      have hw := hw0.trans hq
      refine PCB.of_body Tryz.func10 rfl (by decide) Tryz.ntmps10 Tryz.results10 rfl rfl rfl ?_ rfl rfl
      repeat' (first | (simp only [go_sem, zA, zB, zC, zD, zE, zF, zG, reduceCtorEq, zH, zI, zJ, zK, zL, pin, hw, Int.reduceEq, Int.natCast_zero]; all_goals fail_if_success guard_target =ₛ False) | (with_reducible first | ((first | refine seqVC_stepN rfl ?_ | refine AWP.seq ?_ | refine AWP.seqR (by kernel_rfl) ?_); intro K hK) | ((first | refine hK _ _ _ ?_ | refine hK _ _ ?_ | refine hK _ ?_); clear hK K) | refine seqVC_nil ?_ | refine AWP.block ?_ | (refine AWP.cond (by with_unfolding_all rfl) ?_ ?_ <;> intro h <;> (try simp only [zM, zN] at h) <;> try exact absurd h (by decide)) | refine AWP.skip ?_ | refine AWP.ret ?_ | refine AWP.exit ?_) | (refine ⟨1000000, _, _, _, next_k 1000000 _ (by repeat (first | with_reducible exact hs | with_reducible refine ok_next ?_ _)) _ (by omega), rfl, ?_⟩) | (refine ⟨1000000, _, _, _, word_k 1000000 _ (by repeat (first | with_reducible exact hs | with_reducible refine ok_next ?_ _)), rfl, ?_⟩) | (refine ⟨1000000, _, _, _, atomName_k 1000000 _ (by repeat (first | with_reducible exact hs | with_reducible refine ok_next ?_ _)), rfl, ?_⟩) | (refine ⟨1000000, _, _, _, number_k 1000000 _ (by repeat (first | with_reducible exact hs | with_reducible refine ok_next ?_ _)), rfl, ?_⟩) | ( refine ⟨a2.1, [.str (nmG (nextS s 13))], lit_get (fun x => [C.str x]) xyL [] a2, ?_⟩) | (with_reducible first | refine Or.inl ?_) | (clear hK K))
      all_goals (refine ⟨by simp only [madeG, baseG, baseK, hq, zb, cond_true, cond_false, decide_true, decide_false, Int.reduceEq, encG_eq]; rfl, fun x hx => ?_⟩)
      all_goals (simp only [List.mem_singleton] at hx; subst hx; simp [madeG, baseG, baseK, hq, pin])
theorem step_g (d : Nat) (hd : d ≤ 1000) (H : MadeGC (madeG d) d) : MadeGC (madeG (d + 1)) (d + 1) := by
  intro s hs
  have hs1 := ok_next hs 5
  have hs2 := ok_madeG d _ hs1
  have hp : decide ((0 : Int) < ((d + 1 : Nat) : Int)) = true := by simp only [decide_eq_true_eq]; omega
  have hm : IntKind.i64.wrap (((d + 1 : Nat) : Int) - 1) = (d : Int) := by rw [w64 (by omega)]; omega
  have hn := nextV_in s (n := 5) (by omega)
  rcases (show nextV s 5 = 0 ∨ nextV s 5 = 1 ∨ nextV s 5 = 2 ∨ nextV s 5 = 3 ∨ nextV s 5 = 4 by omega) with hk | hk | hk | hk | hk
  iterate 4
    ·
      refine PCB.of_body Tryz.func10 rfl (by decide) Tryz.ntmps10 Tryz.results10 rfl rfl rfl ?_ rfl rfl
      repeat' (first | (simp only [go_sem, zA, zB, zC, zD, zE, zF, zG, reduceCtorEq, zH, zI, zJ, zK, zL, pin, hp, hm, hk, Int.reduceEq]; all_goals fail_if_success guard_target =ₛ False) | (with_reducible first | ((first | refine seqVC_stepN rfl ?_ | refine AWP.seq ?_ | refine AWP.seqR (by kernel_rfl) ?_); intro K hK) | ((first | refine hK _ _ _ ?_ | refine hK _ _ ?_ | refine hK _ ?_); clear hK K) | refine seqVC_nil ?_ | refine AWP.block ?_ | (refine AWP.cond (by with_unfolding_all rfl) ?_ ?_ <;> intro h <;> (try simp only [zM, zN] at h) <;> try exact absurd h (by decide)) | refine AWP.skip ?_ | refine AWP.ret ?_ | refine AWP.exit ?_) | (refine ⟨1000000, _, _, _, next_k 1000000 _ hs _ (by omega), rfl, ?_⟩) | (refine ⟨1000000, _, _, _, H.k 1000000 _ hs1, rfl, ?_⟩) | (refine ⟨1000000, _, _, _, H.k 1000000 _ hs2, rfl, ?_⟩) | (with_reducible first | refine Or.inl ?_) | (clear hK K))
      all_goals (refine ⟨by simp only [madeG, hk, zb, cond_true, cond_false, decide_true, decide_false, Int.reduceEq]; rw [kidsG_lit]; rfl, fun x hx => ?_⟩)
      all_goals (simp only [List.mem_singleton] at hx; subst hx; simp [madeG, kidsG, hk, pin])
  have a1 := nextV_in (nextS s 5) (n := 13) (by omega)
  have a2 := nextV_in (nextS (nextS s 5) 13) (n := 2) (by omega)
  have hw0 : IntKind.i64.wrap (5 + nextV (nextS s 5) 13) = 5 + nextV (nextS s 5) 13 := by rw [w64 (by omega)]
  rcases (show 5 + nextV (nextS s 5) 13 = 5 ∨ 5 + nextV (nextS s 5) 13 = 6 ∨ 5 + nextV (nextS s 5) 13 = 7 ∨ 5 + nextV (nextS s 5) 13 = 8 ∨ 5 + nextV (nextS s 5) 13 = 9 ∨ 5 + nextV (nextS s 5) 13 = 10 ∨ 5 + nextV (nextS s 5) 13 = 11 ∨ 5 + nextV (nextS s 5) 13 = 12 ∨ 5 + nextV (nextS s 5) 13 = 13 ∨ 5 + nextV (nextS s 5) 13 = 14 ∨ 5 + nextV (nextS s 5) 13 = 15 ∨ 5 + nextV (nextS s 5) 13 = 16 ∨ 5 + nextV (nextS s 5) 13 = 17 by omega) with hq | hq | hq | hq | hq | hq | hq | hq | hq | hq | hq | hq | hq
  iterate 13
    ·
      have hw := hw0.trans hq
      refine PCB.of_body Tryz.func10 rfl (by decide) Tryz.ntmps10 Tryz.results10 rfl rfl rfl ?_ rfl rfl
      repeat' (first | (simp only [go_sem, zA, zB, zC, zD, zE, zF, zG, reduceCtorEq, zH, zI, zJ, zK, zL, pin, hw, Int.reduceEq, hp, hk]; all_goals fail_if_success guard_target =ₛ False) | (with_reducible first | ((first | refine seqVC_stepN rfl ?_ | refine AWP.seq ?_ | refine AWP.seqR (by kernel_rfl) ?_); intro K hK) | ((first | refine hK _ _ _ ?_ | refine hK _ _ ?_ | refine hK _ ?_); clear hK K) | refine seqVC_nil ?_ | refine AWP.block ?_ | (refine AWP.cond (by with_unfolding_all rfl) ?_ ?_ <;> intro h <;> (try simp only [zM, zN] at h) <;> try exact absurd h (by decide)) | refine AWP.skip ?_ | refine AWP.ret ?_ | refine AWP.exit ?_) | (refine ⟨1000000, _, _, _, next_k 1000000 _ (by repeat (first | with_reducible exact hs | with_reducible refine ok_next ?_ _)) _ (by omega), rfl, ?_⟩) | (refine ⟨1000000, _, _, _, word_k 1000000 _ (by repeat (first | with_reducible exact hs | with_reducible refine ok_next ?_ _)), rfl, ?_⟩) | (refine ⟨1000000, _, _, _, atomName_k 1000000 _ (by repeat (first | with_reducible exact hs | with_reducible refine ok_next ?_ _)), rfl, ?_⟩) | (refine ⟨1000000, _, _, _, number_k 1000000 _ (by repeat (first | with_reducible exact hs | with_reducible refine ok_next ?_ _)), rfl, ?_⟩) | ( refine ⟨a2.1, [.str (nmG (nextS (nextS s 5) 13))], lit_get (fun x => [C.str x]) xyL [] a2, ?_⟩) | (with_reducible first | refine Or.inl ?_) | (clear hK K))
      all_goals (refine ⟨by simp only [madeG, baseG, baseK, hk, hq, zb, cond_true, cond_false, decide_true, decide_false, Int.reduceEq, encG_eq]; rfl, fun x hx => ?_⟩)
      all_goals (simp only [List.mem_singleton] at hx; subst hx; simp [madeG, baseG, baseK, hk, hq, pin])
theorem made_g : ∀ d : Nat, d ≤ 1000 → MadeGC (madeG d) d
  | 0, _ => base_g
  | d + 1, h => step_g d (by omega) (made_g d (by omega))
theorem nm_var (s : Src) : isVarB (nmG s) = true := by
  have h := nextV_in s (n := 2) (by omega)
  have h2 : ∀ n : Nat, n < 2 → isVarB (xyL.getD n []) = true := by decide
  exact h2 _ (by omega)
theorem word_len (s : Src) : decide (((wordV s).length : Int) ≤ 64) = true := by
  have h := nextV_in s (n := 4) (by omega)
  have h2 : ∀ n : Nat, n < 4 → decide (((wordL.getD n []).length : Int) ≤ 64) = true := by decide
  exact h2 _ (by omega)
theorem atom_ok (s : Src) : isAtomB (atomV s) = true := by
  have h := nextV_in s (n := 4) (by omega)
  have h2 : ∀ n : Nat, n < 4 → isAtomB (atomL.getD n []) = true := by decide
  exact h2 _ (by omega)
theorem key_a : validKeyB ⟨0, [97]⟩ = true := by decide
theorem vG_base (s : Src) : vG (baseG s).1 = true ∧ (baseG s).1.kids = [] := by
  have a1 := nextV_in s (n := 13) (by omega)
  have a2 := nextV_in (nextS (nextS s 13) 2) (n := 3) (by omega)
  have d1 : decide (0 ≤ nextV (nextS (nextS s 13) 2) 3) = true := by simp; omega
  have d2 : decide (nextV (nextS (nextS s 13) 2) 3 ≤ 4) = true := by simp; omega
  have hn := nm_var (nextS s 13)
  have hw := word_len (nextS (nextS s 13) 2)
  have ha := atom_ok (nextS (nextS s 13) 2)
  rcases (show 5 + nextV s 13 = 5 ∨ 5 + nextV s 13 = 6 ∨ 5 + nextV s 13 = 7 ∨ 5 + nextV s 13 = 8 ∨ 5 + nextV s 13 = 9 ∨ 5 + nextV s 13 = 10 ∨ 5 + nextV s 13 = 11 ∨ 5 + nextV s 13 = 12 ∨ 5 + nextV s 13 = 13 ∨ 5 + nextV s 13 = 14 ∨ 5 + nextV s 13 = 15 ∨ 5 + nextV s 13 = 16 ∨ 5 + nextV s 13 = 17 by omega) with hq | hq | hq | hq | hq | hq | hq | hq | hq | hq | hq | hq | hq
  all_goals (unfold baseG; rw [hq])
  all_goals (refine ⟨?_, by simp [baseK]⟩)
  all_goals (simp [baseK, vG, badG, bodyG, connG, testG, intG, textG, keyZ, hn, hw, ha, key_a] <;> simp_all)
def bG : Nat → Nat
  | 0 => 1
  | d + 1 => 1 + 2 * bG d
theorem vG_kids (k : Int) (l : List Grd) (hk : (k = 2 ∧ l.length = 2) ∨ (k = 3 ∧ l.length = 2) ∨ (k = 4 ∧ l.length = 1) ∨ (k = 1 ∧ l.length = 0)) : vG (kidsG k l) = true := by
  rcases hk with ⟨rfl, h⟩ | ⟨rfl, h⟩ | ⟨rfl, h⟩ | ⟨rfl, h⟩ <;> simp [kidsG, vG, badG, bodyG, connG, testG, intG, textG, keyZ, h]
theorem tree_kids (k : Int) (l : List Grd) (h : vG (kidsG k l) = true) (hl : ∀ g ∈ l, treeG g = true) : treeG (kidsG k l) = true := by
  rw [treeG_eq, h, Bool.true_and, List.all_eq_true]
  exact hl
theorem cnt_kids (k : Int) (l : List Grd) : cntG (kidsG k l) = 1 + cntGs l := by rw [cntG_eq]; rfl
theorem tree_made : ∀ (d : Nat) (s : Src), treeG (madeG d s).1 = true ∧ cntG (madeG d s).1 ≤ bG d
  | 0, s => by
    obtain ⟨h1, h2⟩ := vG_base s
    show treeG (baseG s).1 = true ∧ cntG (baseG s).1 ≤ 1
    rw [treeG_eq, cntG_eq, h1, h2]; simp [cntGs]
  | d + 1, s => by
    obtain ⟨t1, c1⟩ := tree_made d (nextS s 5)
    obtain ⟨t2, c2⟩ := tree_made d (madeG d (nextS s 5)).2
    unfold madeG bG
    cases decide (nextV s 5 = 0) <;> cases decide (nextV s 5 = 1) <;> cases decide (nextV s 5 = 2) <;> cases decide (nextV s 5 = 3) <;> simp only [cond_true, cond_false]
    all_goals first
      | (refine ⟨tree_kids _ _ (vG_kids _ _ (by simp)) (by intro g hg; simp only [List.mem_cons, List.not_mem_nil, or_false] at hg; first | (rcases hg with rfl | rfl <;> assumption) | (subst hg; assumption) | exact absurd hg id), by rw [cnt_kids]; simp only [cntGs]; omega⟩)
      | (exact ⟨tree_kids 1 [] (vG_kids 1 [] (by simp)) (by simp), by rw [cnt_kids]; simp only [cntGs]; omega⟩)
      | (obtain ⟨h1, h2⟩ := vG_base (nextS s 5)
         rw [treeG_eq, cntG_eq, h1, h2]; simp [cntGs])
end Go.Proofs.YteobojeemflggaaGreat
set_option linter.unusedSimpArgs false
set_option linter.unusedVariables false
set_option maxRecDepth 20000
set_option maxHeartbeats 4000000
namespace Go.Proofs.YteobojeemflggaaGreat
open Go Go.Sx
open Nat renaming reduceBEq → zA, reduceBNe → zB, reduceAdd → zC, reduceSub → zD, reduceMul → zE, reduceLeDiff → zF, reduceLT → zG, reduceEqDiff → zH
open Int renaming reduceToNat → zI, reduceLE → zJ, reduceLT → zK, reduceEq → zL
open Bool renaming not_eq_true' → zM, not_eq_false' → zN
/-- the document's values -/
def intVal (n : Int) : Val := ⟨1, n, [], [], [], [], []⟩
def strVal (s : List UInt8) : Val := ⟨2, 0, s, [], [], [], []⟩
def atomVal (s : List UInt8) : Val := ⟨3, 0, s, [], [], [], []⟩
def pidVal (n : Int) : Val := ⟨4, n, [], [], [], [], []⟩
def nilVal : Val := ⟨5, 0, [], [], [], [], []⟩
def tupVal (l : List Val) : Val := ⟨6, 0, [], l, [], [], []⟩
def consVal (a b : Val) : Val := ⟨7, 0, [], [a, b], [], [], []⟩
abbrev Vt (v : Val) : T := .st (encVal v)
theorem refInt_c (n : Int) : PC Tryz.prog 25 [I .i64 n] (Vt (intVal n)) := by
  refine PCB.of_body Tryz.func25 rfl (by decide) Tryz.ntmps25 Tryz.results25 rfl rfl rfl ?_ rfl rfl
  repeat' (first | (simp only [go_sem, zA, zB, zC, zD, zE, zF, zG, reduceCtorEq, zH, zI, zJ, zK, zL]; all_goals fail_if_success guard_target =ₛ False) | (with_reducible first | ((first | refine seqVC_stepN rfl ?_ | refine AWP.seq ?_ | refine AWP.seqR (by kernel_rfl) ?_); intro K hK) | ((first | refine hK _ _ _ ?_ | refine hK _ _ ?_ | refine hK _ ?_); clear hK K) | refine seqVC_nil ?_ | refine AWP.block ?_ | (refine AWP.cond (by with_unfolding_all rfl) ?_ ?_ <;> intro h <;> (try simp only [zM, zN] at h) <;> try exact absurd h (by decide)) | refine AWP.skip ?_ | refine AWP.ret ?_ | refine AWP.exit ?_ | refine Or.inl ?_) | (clear hK K))
  all_goals (first | exact fun _ h => (by cases h) | refine fin0 ?_)
  all_goals (rw [Vt, encVal_eq]; rfl)
theorem refString_c (s : List UInt8) : PC Tryz.prog 45 [S s] (Vt (strVal s)) := by
  refine PCB.of_body Tryz.func45 rfl (by decide) Tryz.ntmps45 Tryz.results45 rfl rfl rfl ?_ rfl rfl
  repeat' (first | (simp only [go_sem, zA, zB, zC, zD, zE, zF, zG, reduceCtorEq, zH, zI, zJ, zK, zL]; all_goals fail_if_success guard_target =ₛ False) | (with_reducible first | ((first | refine seqVC_stepN rfl ?_ | refine AWP.seq ?_ | refine AWP.seqR (by kernel_rfl) ?_); intro K hK) | ((first | refine hK _ _ _ ?_ | refine hK _ _ ?_ | refine hK _ ?_); clear hK K) | refine seqVC_nil ?_ | refine AWP.block ?_ | (refine AWP.cond (by with_unfolding_all rfl) ?_ ?_ <;> intro h <;> (try simp only [zM, zN] at h) <;> try exact absurd h (by decide)) | refine AWP.skip ?_ | refine AWP.ret ?_ | refine AWP.exit ?_ | refine Or.inl ?_) | (clear hK K))
  all_goals (first | exact fun _ h => (by cases h) | refine fin0 ?_)
  all_goals (rw [Vt, encVal_eq]; rfl)
theorem refAtomV_c (s : List UInt8) : PC Tryz.prog 46 [S s] (Vt (atomVal s)) := by
  refine PCB.of_body Tryz.func46 rfl (by decide) Tryz.ntmps46 Tryz.results46 rfl rfl rfl ?_ rfl rfl
  repeat' (first | (simp only [go_sem, zA, zB, zC, zD, zE, zF, zG, reduceCtorEq, zH, zI, zJ, zK, zL]; all_goals fail_if_success guard_target =ₛ False) | (with_reducible first | ((first | refine seqVC_stepN rfl ?_ | refine AWP.seq ?_ | refine AWP.seqR (by kernel_rfl) ?_); intro K hK) | ((first | refine hK _ _ _ ?_ | refine hK _ _ ?_ | refine hK _ ?_); clear hK K) | refine seqVC_nil ?_ | refine AWP.block ?_ | (refine AWP.cond (by with_unfolding_all rfl) ?_ ?_ <;> intro h <;> (try simp only [zM, zN] at h) <;> try exact absurd h (by decide)) | refine AWP.skip ?_ | refine AWP.ret ?_ | refine AWP.exit ?_ | refine Or.inl ?_) | (clear hK K))
  all_goals (first | exact fun _ h => (by cases h) | refine fin0 ?_)
  all_goals (rw [Vt, encVal_eq]; rfl)
theorem refPid_c (n : Int) : PC Tryz.prog 93 [I .i64 n] (Vt (pidVal n)) := by
  refine PCB.of_body Tryz.func93 rfl (by decide) Tryz.ntmps93 Tryz.results93 rfl rfl rfl ?_ rfl rfl
  repeat' (first | (simp only [go_sem, zA, zB, zC, zD, zE, zF, zG, reduceCtorEq, zH, zI, zJ, zK, zL]; all_goals fail_if_success guard_target =ₛ False) | (with_reducible first | ((first | refine seqVC_stepN rfl ?_ | refine AWP.seq ?_ | refine AWP.seqR (by kernel_rfl) ?_); intro K hK) | ((first | refine hK _ _ _ ?_ | refine hK _ _ ?_ | refine hK _ ?_); clear hK K) | refine seqVC_nil ?_ | refine AWP.block ?_ | (refine AWP.cond (by with_unfolding_all rfl) ?_ ?_ <;> intro h <;> (try simp only [zM, zN] at h) <;> try exact absurd h (by decide)) | refine AWP.skip ?_ | refine AWP.ret ?_ | refine AWP.exit ?_ | refine Or.inl ?_) | (clear hK K))
  all_goals (first | exact fun _ h => (by cases h) | refine fin0 ?_)
  all_goals (rw [Vt, encVal_eq]; rfl)
theorem refNil_c : PC Tryz.prog 26 [] (Vt nilVal) := by
  refine PCB.of_body Tryz.func26 rfl (by decide) Tryz.ntmps26 Tryz.results26 rfl rfl rfl ?_ rfl rfl
  repeat' (first | (simp only [go_sem, zA, zB, zC, zD, zE, zF, zG, reduceCtorEq, zH, zI, zJ, zK, zL]; all_goals fail_if_success guard_target =ₛ False) | (with_reducible first | ((first | refine seqVC_stepN rfl ?_ | refine AWP.seq ?_ | refine AWP.seqR (by kernel_rfl) ?_); intro K hK) | ((first | refine hK _ _ _ ?_ | refine hK _ _ ?_ | refine hK _ ?_); clear hK K) | refine seqVC_nil ?_ | refine AWP.block ?_ | (refine AWP.cond (by with_unfolding_all rfl) ?_ ?_ <;> intro h <;> (try simp only [zM, zN] at h) <;> try exact absurd h (by decide)) | refine AWP.skip ?_ | refine AWP.ret ?_ | refine AWP.exit ?_ | refine Or.inl ?_) | (clear hK K))
  all_goals (first | exact fun _ h => (by cases h) | refine fin0 ?_)
  all_goals (rw [Vt, encVal_eq]; rfl)
theorem copies_n (l : List Val) (hl : l.length ≤ 100000000) : PCN Tryz.prog 85 [.one (.dat (.sl 7 (l.map encVal)))] (.one (.own 0 l.length)) (.row 7 (l.map encVal)) := by
  refine PCN.of_body 4 Tryz.func85 rfl (by decide) Tryz.ntmps85 Tryz.results85 rfl rfl ?_
  refine AWP.ghQ ?_
  repeat' (first | (simp only [go_sem, zA, zB, zC, zD, zE, zF, zG, reduceCtorEq, zH, zI, zJ, zK, zL, List.length_map]; all_goals fail_if_success guard_target =ₛ False) | (with_reducible first | ((first | refine seqVC_stepN rfl ?_ | refine AWP.seq ?_ | refine AWP.seqR (by kernel_rfl) ?_); intro K hK) | ((first | refine hK _ _ _ ?_ | refine hK _ _ ?_ | refine hK _ ?_); clear hK K) | refine seqVC_nil ?_ | refine AWP.block ?_ | (refine AWP.cond (by with_unfolding_all rfl) ?_ ?_ <;> intro h <;> (try simp only [zM, zN] at h) <;> try exact absurd h (by decide)) | refine AWP.skip ?_ | refine AWP.ret ?_ | refine AWP.exit ?_ | refine ⟨(by omega : _ ≤ _), ?_⟩ | refine Or.inl ?_) | (clear hK K))
  refine ⟨_, Gh.refl _, ?_⟩
  simp only [go_sem, zA, zB, zC, zD, zE, zF, zG, reduceCtorEq, zH, zI, zJ, zK, zL, List.length_map]
  first | exact ⟨rfl, fun x hx => hx⟩ | exact fun x hx => hx
theorem copies_c (l : List Val) (hl : l.length ≤ 100000000) : PC Tryz.prog 85 [.one (.dat (.sl 7 (l.map encVal)))] (.one (.dat (.sl 7 (l.map encVal)))) := by
  refine PCB.of_body Tryz.func85 rfl (by decide) Tryz.ntmps85 Tryz.results85 rfl rfl rfl ?_ rfl rfl
  refine AWP.ghQ ?_
  repeat' (first | (simp only [go_sem, zA, zB, zC, zD, zE, zF, zG, reduceCtorEq, zH, zI, zJ, zK, zL, List.length_map]; all_goals fail_if_success guard_target =ₛ False) | (with_reducible first | ((first | refine seqVC_stepN rfl ?_ | refine AWP.seq ?_ | refine AWP.seqR (by kernel_rfl) ?_); intro K hK) | ((first | refine hK _ _ _ ?_ | refine hK _ _ ?_ | refine hK _ ?_); clear hK K) | refine seqVC_nil ?_ | refine AWP.block ?_ | (refine AWP.cond (by with_unfolding_all rfl) ?_ ?_ <;> intro h <;> (try simp only [zM, zN] at h) <;> try exact absurd h (by decide)) | refine AWP.skip ?_ | refine AWP.ret ?_ | refine AWP.exit ?_ | refine ⟨(by omega : _ ≤ _), ?_⟩ | refine Or.inl ?_) | (clear hK K))
  refine ⟨_, Gh.freeze 4 rfl rfl (by simp only [go_sem, zA, zB, zC, zD, zE, zF, zG, reduceCtorEq, zH, zI, zJ, zK, zL, List.length_map]) (by simp only [go_sem, zA, zB, zC, zD, zE, zF, zG, reduceCtorEq, zH, zI, zJ, zK, zL, List.length_map]), ?_⟩
  simp only [go_sem, zA, zB, zC, zD, zE, zF, zG, reduceCtorEq, zH, zI, zJ, zK, zL, List.length_map]
  all_goals (first | exact fun _ h => (by cases h) | refine fin0 ?_)
  all_goals rfl
theorem refTuple_c (l : List Val) (hl : l.length ≤ 100000000) : PC Tryz.prog 47 [.one (.dat (.sl 7 (l.map encVal)))] (Vt (tupVal l)) := by
  have h := copies_c l hl
  refine PCB.of_body Tryz.func47 rfl (by decide) Tryz.ntmps47 Tryz.results47 rfl rfl rfl ?_ rfl rfl
  repeat' (first | (simp only [go_sem, zA, zB, zC, zD, zE, zF, zG, reduceCtorEq, zH, zI, zJ, zK, zL]; all_goals fail_if_success guard_target =ₛ False) | (with_reducible first | ((first | refine seqVC_stepN rfl ?_ | refine AWP.seq ?_ | refine AWP.seqR (by kernel_rfl) ?_); intro K hK) | ((first | refine hK _ _ _ ?_ | refine hK _ _ ?_ | refine hK _ ?_); clear hK K) | refine seqVC_nil ?_ | refine AWP.block ?_ | (refine AWP.cond (by with_unfolding_all rfl) ?_ ?_ <;> intro h <;> (try simp only [zM, zN] at h) <;> try exact absurd h (by decide)) | refine AWP.skip ?_ | refine AWP.ret ?_ | refine AWP.exit ?_ | refine ⟨_, h, ?_⟩ | refine Or.inl ?_) | (clear hK K))
  all_goals (first | exact fun _ h => (by cases h) | refine fin0 ?_)
  all_goals (rw [Vt, encVal_eq]; rfl)
theorem refCons_c (a b : Val) : PC Tryz.prog 48 [Vt a, Vt b] (Vt (consVal a b)) := by
  refine PCB.of_body Tryz.func48 rfl (by decide) Tryz.ntmps48 Tryz.results48 rfl rfl rfl ?_ rfl rfl
  repeat' (first | (simp only [go_sem, zA, zB, zC, zD, zE, zF, zG, reduceCtorEq, zH, zI, zJ, zK, zL]; all_goals fail_if_success guard_target =ₛ False) | (with_reducible first | ((first | refine seqVC_stepN rfl ?_ | refine AWP.seq ?_ | refine AWP.seqR (by kernel_rfl) ?_); intro K hK) | ((first | refine hK _ _ _ ?_ | refine hK _ _ ?_ | refine hK _ ?_); clear hK K) | refine seqVC_nil ?_ | refine AWP.block ?_ | (refine AWP.cond (by with_unfolding_all rfl) ?_ ?_ <;> intro h <;> (try simp only [zM, zN] at h) <;> try exact absurd h (by decide)) | refine AWP.skip ?_ | refine AWP.ret ?_ | refine AWP.exit ?_ | refine Or.inl ?_) | (clear hK K))
  all_goals (first | exact fun _ h => (by cases h) | refine fin0 ?_)
  all_goals (rw [Vt, encVal_eq (consVal a b)]; rfl)
/-- a leaf -/
def leafK (k : Int) (s : Src) : Val × Src :=
  bif decide (k = 0) then (intVal (numV s), nextS s 10) else
  bif decide (k = 1) then (atomVal (atomV s), nextS s 4) else
  bif decide (k = 2) then (strVal (wordV s), nextS s 4) else
  bif decide (k = 3) then (pidVal (nextV s 3), nextS s 3) else
  bif decide (k = 4) then (nilVal, s) else (tupVal [], s)
def leafV (s : Src) : Val × Src := leafK (nextV s 6) (nextS s 6)
theorem tup_nil : PC Tryz.prog 47 [.one (.dat (.sl 7 []))] (Vt (tupVal [])) := by
  have h := refTuple_c [] (by simp)
  rw [List.map_nil] at h
  exact h
theorem leaf_c (s : Src) (hs : s.ok) : PCB Tryz.prog 55 [Sp pin] [(pin, srcB s)] (Vt (leafV s).1) [(pin, srcB (leafV s).2)] := by
  have hv := nextV_in s (n := 6) (by omega)
  have hk : nextV s 6 = 0 ∨ nextV s 6 = 1 ∨ nextV s 6 = 2 ∨ nextV s 6 = 3 ∨ nextV s 6 = 4 ∨ nextV s 6 = 5 := by omega
  have hs1 := ok_next hs 6
  rcases hk with hk | hk | hk | hk | hk | hk
  all_goals (rw [leafV, hk])
  all_goals
    refine PCB.of_body Tryz.func55 rfl (by decide) Tryz.ntmps55 Tryz.results55 rfl rfl rfl ?_ rfl rfl
    repeat' (first | (simp only [go_sem, zA, zB, zC, zD, zE, zF, zG, reduceCtorEq, zH, zI, zJ, zK, zL, pin, hk]; all_goals fail_if_success guard_target =ₛ False) | (with_reducible first | ((first | refine seqVC_stepN rfl ?_ | refine AWP.seq ?_ | refine AWP.seqR (by kernel_rfl) ?_); intro K hK) | ((first | refine hK _ _ _ ?_ | refine hK _ _ ?_ | refine hK _ ?_); clear hK K) | refine seqVC_nil ?_ | refine AWP.block ?_ | (refine AWP.cond (by with_unfolding_all rfl) ?_ ?_ <;> intro h <;> (try simp only [zM, zN] at h) <;> try exact absurd h (by decide)) | refine AWP.skip ?_ | refine AWP.ret ?_ | refine AWP.exit ?_ | refine ⟨_, refInt_c _, ?_⟩ | refine ⟨_, refAtomV_c _, ?_⟩ | refine ⟨_, refString_c _, ?_⟩ | refine ⟨_, refPid_c _, ?_⟩ | refine ⟨_, refNil_c, ?_⟩ | refine ⟨_, tup_nil, ?_⟩) | (refine ⟨1000000, _, _, _, next_k 1000000 _ (by repeat (first | with_reducible exact hs | with_reducible refine ok_next ?_ _)) _ (by omega), rfl, ?_⟩) | (refine ⟨1000000, _, _, _, number_k 1000000 _ hs1, rfl, ?_⟩) | (refine ⟨1000000, _, _, _, atomName_k 1000000 _ hs1, rfl, ?_⟩) | (refine ⟨1000000, _, _, _, word_k 1000000 _ hs1, rfl, ?_⟩) | (with_reducible first | refine Or.inl ?_) | (clear hK K))
  all_goals (first | refine ⟨rfl, fun x hx => ?_⟩ | refine fun x hx => ?_)
  all_goals (simp only [List.mem_singleton] at hx; subst hx; simp [leafK, pin])
theorem leaf_k (k : Nat) (s : Src) (hs : s.ok) : PCBk Tryz.prog 55 [Sp k] k (srcB s) (Vt (leafV s).1) (srcB (leafV s).2) := PCBk.mk k (leaf_c s hs)
theorem ok_leafK (k : Int) {s : Src} (h : s.ok) : (leafK k s).2.ok := by
  unfold leafK
  cases decide (k = 0) <;> cases decide (k = 1) <;> cases decide (k = 2) <;> cases decide (k = 3) <;> cases decide (k = 4) <;> first | exact h | exact ok_next h _
theorem ok_leaf {s : Src} (h : s.ok) : (leafV s).2.ok := ok_leafK _ (ok_next h 6)
/-- labels -/
def labL : List (List UInt8) := [[65], [66], [67]]
def labelV (s : Src) : List UInt8 := labL.getD (nextV s 3).toNat []
theorem label_c (s : Src) (hs : s.ok) : PCB Tryz.prog 59 [Sp pin] [(pin, srcB s)] (S (labelV s)) [(pin, srcB (nextS s 3))] := by
  refine PCB.of_body Tryz.func59 rfl (by decide) Tryz.ntmps59 Tryz.results59 rfl rfl rfl ?_ rfl rfl
  have hv := nextV_in s (n := 3) (by omega)
  repeat' (first | (simp only [go_sem, zA, zB, zC, zD, zE, zF, zG, reduceCtorEq, zH, zI, zJ, zK, zL, pin]; all_goals fail_if_success guard_target =ₛ False) | (with_reducible first | ((first | refine seqVC_stepN rfl ?_ | refine AWP.seq ?_ | refine AWP.seqR (by kernel_rfl) ?_); intro K hK) | ((first | refine hK _ _ _ ?_ | refine hK _ _ ?_ | refine hK _ ?_); clear hK K) | refine seqVC_nil ?_ | refine AWP.block ?_ | (refine AWP.cond (by with_unfolding_all rfl) ?_ ?_ <;> intro h <;> (try simp only [zM, zN] at h) <;> try exact absurd h (by decide)) | refine AWP.skip ?_ | refine AWP.ret ?_ | refine AWP.exit ?_) | (refine ⟨1000000, _, _, _, next_k 1000000 s hs 3 (by omega), rfl, ?_⟩) | ( refine ⟨hv.1, [.str (labelV s)], lit_get (fun x => [C.str x]) labL [] hv, ?_⟩) | (with_reducible first | refine Or.inl ?_) | (clear hK K))
  all_goals exact fun x hx => hx
theorem label_k (k : Nat) (s : Src) (hs : s.ok) : PCBk Tryz.prog 59 [Sp k] k (srcB s) (S (labelV s)) (srcB (nextS s 3)) := PCBk.mk k (label_c s hs)
/-- the first place at which p does not hold -/
def tw {α : Type} (p : α → Bool) : List α → Nat
  | [] => 0
  | x :: l => bif p x then 1 + tw p l else 0
theorem tw_step {α : Type} {p : α → Bool} {l : List α} {k : Nat} {x : α} (hx : l[k]? = some x) : tw p (l.drop k) = bif p x then 1 + tw p (l.drop (k + 1)) else 0 := by
  obtain ⟨h1, e1⟩ := List.getElem?_eq_some_iff.1 hx
  rw [List.drop_eq_getElem_cons h1, e1]; rfl
theorem tw_end {α : Type} {p : α → Bool} {l : List α} : tw p (l.drop l.length) = 0 := by rw [List.drop_length]; rfl
def putAt {α : Type} (k : Nat) (x : α) (l : List α) : List α := l.take k ++ [x] ++ l.drop k
theorem putAt_len {α : Type} (k : Nat) (x : α) (l : List α) : (putAt k x l).length = l.length + 1 := by
  unfold putAt; simp; omega
def insS (s : List (List UInt8)) (x : List UInt8) : List (List UInt8) :=
  bif decide (s[tw (fun y => Op.bytesLess y x) s]? = some x) then s else putAt (tw (fun y => Op.bytesLess y x) s) x s
def sortedV (l : List (List UInt8)) : List (List UInt8) := l.foldl insS []
theorem foldl_take {α β : Type} {f : β → α → β} {b : β} {l : List α} {k : Nat} {x : α} (hx : l[k]? = some x) : (l.take (k + 1)).foldl f b = f ((l.take k).foldl f b) x := by
  rw [List.take_add_one, hx]; simp
theorem insS_len (s : List (List UInt8)) (x : List UInt8) : (insS s x).length ≤ s.length + 1 := by
  unfold insS; cases decide (s[tw (fun y => Op.bytesLess y x) s]? = some x) <;> simp [putAt_len]
theorem take_map' {α : Type} (f : α → List C) (l : List α) (k : Nat) : List.take k (l.map f) = (l.take k).map f := by rw [List.map_take]
theorem drop_map' {α : Type} (f : α → List C) (l : List α) (k : Nat) : List.drop k (l.map f) = (l.drop k).map f := by rw [List.map_drop]
theorem str_put (s : List (List UInt8)) (k : Nat) (x : List UInt8) : (List.map encStr (s.take k) ++ [[C.str x]]) ++ List.map encStr (s.drop k) = (putAt k x s).map encStr := by
  unfold putAt; simp [encStr]
theorem str_end (s : List (List UInt8)) (x : List UInt8) : (List.map encStr s ++ [[C.str x]]) ++ List.map encStr (s.drop s.length) = (putAt s.length x s).map encStr := by
  unfold putAt; simp [encStr]
theorem sorted_c (l : List (List UInt8)) (hl : l.length ≤ 1000000) : PC Tryz.prog 60 [.one (.dat (.sl 1 (l.map encStr)))] (.one (.dat (.sl 1 ((sortedV l).map encStr)))) := by
  refine PCB.of_body Tryz.func60 rfl (by decide) Tryz.ntmps60 Tryz.results60 rfl rfl rfl ?_ rfl rfl
  repeat' (first | (simp only [go_sem, zA, zB, zC, zD, zE, zF, zG, reduceCtorEq, zH, zI, zJ, zK, zL, List.length_map]; all_goals fail_if_success guard_target =ₛ False) | (with_reducible first | ((first | refine seqVC_stepN rfl ?_ | refine seqVC_stepG rfl (by with_unfolding_all rfl) ?_ | refine AWP.seq ?_ | refine AWP.seqR (by kernel_rfl) ?_ | refine parVC_stepN rfl ?_ | refine parVC_stepG rfl (by with_unfolding_all rfl) ?_ | refine parEVC_stepN rfl ?_ | refine parEVC_stepG rfl (by with_unfolding_all rfl) ?_ | refine genVC_stepN rfl ?_ | refine genVC_stepG rfl (by with_unfolding_all rfl) ?_); intro K hK) | ((first | refine hK _ _ _ ?_ | refine hK _ _ ?_ | refine hK _ ?_); clear hK K) | refine seqVC_nil ?_ | refine parVC_nil ?_ | refine parEVC_nil ?_ | refine genVC_nil ?_ | refine AWP.block ?_ | (refine AWP.cond (by with_unfolding_all rfl) ?_ ?_ <;> intro h <;> (try simp only [zM, zN] at h) <;> try exact absurd h (by decide)) | refine AWP.skip ?_ | refine AWP.ret ?_ | refine AWP.exit ?_ | (refine ⟨fun h => ?_, fun h => ?_⟩ <;> (try simp only [zM, zN] at h) <;> try simp only [h]) | (refine AWP.segP (id := 10) 6 mixed (by kernel_rfl) fun K hK => ?_; simp only [List.take_succ_cons, List.take_zero, List.drop_succ_cons, List.drop_zero]) | refine AWP.parR mixed (by kernel_rfl) fun K hK => ?_ | refine ⟨(by kernel_rfl : depB _ _ _ = true), ?_⟩ | refine Or.inl ?_) | (clear hK K))
  refine AWP.gh (Gh.nilrow 3 900 rfl rfl rfl rfl) ?_
  refine AWP.gh (Gh.freeze 900 rfl rfl (by simp only [go_sem, zA, zB, zC, zD, zE, zF, zG, reduceCtorEq, zH, zI, zJ, zK, zL]) (by simp only [go_sem, zA, zB, zC, zD, zE, zF, zG, reduceCtorEq, zH, zI, zJ, zK, zL])) ?_
  simp only [go_sem, zA, zB, zC, zD, zE, zF, zG, reduceCtorEq, zH, zI, zJ, zK, zL]
  refine AWP.len 0 rfl fun hlen0 => ?_
  (try rw [List.length_map] at hlen0)
  refine AWP.range (S := List (List UInt8)) (l) encStr (fun k s => (4, I .i64 (k : Nat)) :: [(3, .one (.dat (.sl 1 (s.map encStr))))]) (fun k s => []) [0] [] (fun k s => Is s ((l.take k).foldl insS []) ∧ s.length ≤ k) ([]) (by simp only [go_sem, zA, zB, zC, zD, zE, zF, zG, reduceCtorEq, zH, zI, zJ, zK, zL]; exact Gh.to [] (by repeat (first | exact trivial | refine ⟨rfl, ?_⟩ | refine ⟨by (simp only [go_sem, zA, zB, zC, zD, zE, zF, zG, reduceCtorEq, zH, zI, zJ, zK, zL, List.length_append, List.length_map, List.length_cons, List.length_nil, Nat.zero_add]) <;> rfl, ?_⟩)) (by repeat (first | exact trivial | refine ⟨rfl, ?_⟩ | refine ⟨by (simp only [go_sem, zA, zB, zC, zD, zE, zF, zG, reduceCtorEq, zH, zI, zJ, zK, zL, List.length_append, List.length_map, List.length_cons, List.length_nil, Nat.zero_add]) <;> rfl, ?_⟩)) rfl rfl rfl) ?_ ?_ ?_
  · exact ⟨rfl, Nat.le_refl _⟩
  · intro k s x hlt hx hx' hb hok
    obtain ⟨hok, hsl⟩ := hok
    simp only [go_sem, zA, zB, zC, zD, zE, zF, zG, reduceCtorEq, zH, zI, zJ, zK, zL]
    repeat' (first | (simp only [go_sem, zA, zB, zC, zD, zE, zF, zG, reduceCtorEq, zH, zI, zJ, zK, zL, List.length_map, hb]; all_goals fail_if_success guard_target =ₛ False) | (with_reducible first | ((first | refine seqVC_stepN rfl ?_ | refine seqVC_stepG rfl (by with_unfolding_all rfl) ?_ | refine AWP.seq ?_ | refine AWP.seqR (by kernel_rfl) ?_ | refine parVC_stepN rfl ?_ | refine parVC_stepG rfl (by with_unfolding_all rfl) ?_ | refine parEVC_stepN rfl ?_ | refine parEVC_stepG rfl (by with_unfolding_all rfl) ?_ | refine genVC_stepN rfl ?_ | refine genVC_stepG rfl (by with_unfolding_all rfl) ?_); intro K hK) | ((first | refine hK _ _ _ ?_ | refine hK _ _ ?_ | refine hK _ ?_); clear hK K) | refine seqVC_nil ?_ | refine parVC_nil ?_ | refine parEVC_nil ?_ | refine genVC_nil ?_ | refine AWP.block ?_ | (refine AWP.cond (by with_unfolding_all rfl) ?_ ?_ <;> intro h <;> (try simp only [zM, zN] at h) <;> try exact absurd h (by decide)) | refine AWP.skip ?_ | refine AWP.ret ?_ | refine AWP.exit ?_ | (refine ⟨fun h => ?_, fun h => ?_⟩ <;> (try simp only [zM, zN] at h) <;> try simp only [h]) | (refine AWP.segP (id := 10) 6 mixed (by kernel_rfl) fun K hK => ?_; simp only [List.take_succ_cons, List.take_zero, List.drop_succ_cons, List.drop_zero]) | refine AWP.parR mixed (by kernel_rfl) fun K hK => ?_ | refine ⟨(by kernel_rfl : depB _ _ _ = true), ?_⟩ | refine Or.inl ?_) | (clear hK K))
    refine AWP.loopF (X := Nat) (fun j => [(5, I .i64 j)]) (fun j => []) [0, 3, 4] [] (fun j => j ≤ s.length ∧ tw (fun y => Op.bytesLess y x) s = j + tw (fun y => Op.bytesLess y x) (s.drop j)) (fun j => s.length - j) (0) (by simp only [go_sem, zA, zB, zC, zD, zE, zF, zG, reduceCtorEq, zH, zI, zJ, zK, zL]; exact Gh.to [] (by repeat (first | exact trivial | refine ⟨rfl, ?_⟩ | refine ⟨by (simp only [go_sem, zA, zB, zC, zD, zE, zF, zG, reduceCtorEq, zH, zI, zJ, zK, zL, List.length_append, List.length_map, List.length_cons, List.length_nil, Nat.zero_add]) <;> rfl, ?_⟩)) (by repeat (first | exact trivial | refine ⟨rfl, ?_⟩ | refine ⟨by (simp only [go_sem, zA, zB, zC, zD, zE, zF, zG, reduceCtorEq, zH, zI, zJ, zK, zL, List.length_append, List.length_map, List.length_cons, List.length_nil, Nat.zero_add]) <;> rfl, ?_⟩)) rfl rfl rfl) ?_ ?_
    · exact ⟨Nat.zero_le _, by simp⟩
    rintro j ⟨hj, hp⟩
    simp only [go_sem, zA, zB, zC, zD, zE, zF, zG, reduceCtorEq, zH, zI, zJ, zK, zL]
    by_cases hjl : j < s.length
    · obtain ⟨y, hy, hy', hbj, _⟩ := at_lt (enc := encStr) hjl
      rw [tw_step hy] at hp
      cases hz : Op.bytesLess y x <;> simp only [hz, cond_true, cond_false, Nat.add_zero] at hp
      · cases hyx : decide (y = x)
        ·
          repeat' (first | (simp only [go_sem, zA, zB, zC, zD, zE, zF, zG, reduceCtorEq, zH, zI, zJ, zK, zL, List.length_map, hbj, hb, hz, hyx, encStr, Int.toNat_natCast, List.drop_zero, List.take_length, take_map', drop_map', str_put, str_end]; all_goals fail_if_success guard_target =ₛ False) | (with_reducible first | ((first | refine seqVC_stepN rfl ?_ | refine seqVC_stepG rfl (by with_unfolding_all rfl) ?_ | refine AWP.seq ?_ | refine AWP.seqR (by kernel_rfl) ?_ | refine parVC_stepN rfl ?_ | refine parVC_stepG rfl (by with_unfolding_all rfl) ?_ | refine parEVC_stepN rfl ?_ | refine parEVC_stepG rfl (by with_unfolding_all rfl) ?_ | refine genVC_stepN rfl ?_ | refine genVC_stepG rfl (by with_unfolding_all rfl) ?_); intro K hK) | ((first | refine hK _ _ _ ?_ | refine hK _ _ ?_ | refine hK _ ?_); clear hK K) | refine seqVC_nil ?_ | refine parVC_nil ?_ | refine parEVC_nil ?_ | refine genVC_nil ?_ | refine AWP.block ?_ | (refine AWP.cond (by with_unfolding_all rfl) ?_ ?_ <;> intro h <;> (try simp only [zM, zN] at h) <;> try exact absurd h (by decide)) | refine AWP.skip ?_ | refine AWP.ret ?_ | refine AWP.exit ?_ | (refine ⟨fun h => ?_, fun h => ?_⟩ <;> (try simp only [zM, zN] at h) <;> try simp only [h]) | refine ⟨by omega, encStr x, hx', ?_⟩ | refine ⟨by omega, encStr y, hy', ?_⟩ | (refine ⟨(by first | omega | (simp only [List.length_append, List.length_map, List.length_take, List.length_drop, List.length_cons, List.length_nil, List.length_replicate]; omega) : _ ≤ _), ?_⟩) | refine ⟨by omega, by omega, ?_⟩ | (refine AWP.genR (id := 10) [6, 10] [48] mixed (by kernel_rfl) fun K hK => ?_; simp only [Bx.outs, Bx.drop, cond_true, cond_false, Nat.reduceBEq, go_sem]) | refine AWP.parR mixed (by kernel_rfl) fun K hK => ?_ | refine ⟨(by kernel_rfl : depB _ _ _ = true), ?_⟩ | refine Or.inl ?_) | (clear hK K))
          all_goals (rw [wrap_succ hlt hlen0])
          all_goals (refine ⟨putAt j x s, ?_, ?_⟩)
          all_goals (try first
            | (refine Gh.trans (Gh.freeze 59 rfl rfl (by simp only [go_sem, zA, zB, zC, zD, zE, zF, zG, reduceCtorEq, zH, zI, zJ, zK, zL, List.length_map, List.length_append]) (by simp only [go_sem, zA, zB, zC, zD, zE, zF, zG, reduceCtorEq, zH, zI, zJ, zK, zL, List.length_map, List.length_append])) ?_; simp only [go_sem, zA, zB, zC, zD, zE, zF, zG, reduceCtorEq, zH, zI, zJ, zK, zL, List.length_map, List.length_append]; exact Gh.to [] (by repeat (first | exact trivial | refine ⟨rfl, ?_⟩ | refine ⟨by (simp only [go_sem, zA, zB, zC, zD, zE, zF, zG, reduceCtorEq, zH, zI, zJ, zK, zL, List.length_append, List.length_map, List.length_cons, List.length_nil, Nat.zero_add]) <;> rfl, ?_⟩)) (by repeat (first | exact trivial | refine ⟨rfl, ?_⟩ | refine ⟨by (simp only [go_sem, zA, zB, zC, zD, zE, zF, zG, reduceCtorEq, zH, zI, zJ, zK, zL, List.length_append, List.length_map, List.length_cons, List.length_nil, Nat.zero_add]) <;> rfl, ?_⟩)) rfl rfl rfl)
            | (exact Gh.to [] (by repeat (first | exact trivial | refine ⟨rfl, ?_⟩ | refine ⟨by (simp only [go_sem, zA, zB, zC, zD, zE, zF, zG, reduceCtorEq, zH, zI, zJ, zK, zL, List.length_append, List.length_map, List.length_cons, List.length_nil, Nat.zero_add]) <;> rfl, ?_⟩)) (by repeat (first | exact trivial | refine ⟨rfl, ?_⟩ | refine ⟨by (simp only [go_sem, zA, zB, zC, zD, zE, zF, zG, reduceCtorEq, zH, zI, zJ, zK, zL, List.length_append, List.length_map, List.length_cons, List.length_nil, Nat.zero_add]) <;> rfl, ?_⟩)) rfl rfl rfl))
          all_goals (refine ⟨?_, by rw [putAt_len]; omega⟩; rw [Is, foldl_take hx, ← hok, insS, hp, hy]; rw [show decide (some y = some x) = decide (y = x) from by simp, hyx]; try rfl)
        ·
          repeat' (first | (simp only [go_sem, zA, zB, zC, zD, zE, zF, zG, reduceCtorEq, zH, zI, zJ, zK, zL, List.length_map, hbj, hb, hz, hyx, encStr]; all_goals fail_if_success guard_target =ₛ False) | (with_reducible first | ((first | refine seqVC_stepN rfl ?_ | refine seqVC_stepG rfl (by with_unfolding_all rfl) ?_ | refine AWP.seq ?_ | refine AWP.seqR (by kernel_rfl) ?_ | refine parVC_stepN rfl ?_ | refine parVC_stepG rfl (by with_unfolding_all rfl) ?_ | refine parEVC_stepN rfl ?_ | refine parEVC_stepG rfl (by with_unfolding_all rfl) ?_ | refine genVC_stepN rfl ?_ | refine genVC_stepG rfl (by with_unfolding_all rfl) ?_); intro K hK) | ((first | refine hK _ _ _ ?_ | refine hK _ _ ?_ | refine hK _ ?_); clear hK K) | refine seqVC_nil ?_ | refine parVC_nil ?_ | refine parEVC_nil ?_ | refine genVC_nil ?_ | refine AWP.block ?_ | (refine AWP.cond (by with_unfolding_all rfl) ?_ ?_ <;> intro h <;> (try simp only [zM, zN] at h) <;> try exact absurd h (by decide)) | refine AWP.skip ?_ | refine AWP.ret ?_ | refine AWP.exit ?_ | (refine ⟨fun h => ?_, fun h => ?_⟩ <;> (try simp only [zM, zN] at h) <;> try simp only [h]) | refine ⟨by omega, encStr x, hx', ?_⟩ | refine ⟨by omega, encStr y, hy', ?_⟩ | (refine AWP.segP (id := 10) 6 mixed (by kernel_rfl) fun K hK => ?_; simp only [List.take_succ_cons, List.take_zero, List.drop_succ_cons, List.drop_zero]) | refine AWP.parR mixed (by kernel_rfl) fun K hK => ?_ | refine ⟨(by kernel_rfl : depB _ _ _ = true), ?_⟩ | refine Or.inl ?_) | (clear hK K))
          all_goals (rw [wrap_succ hlt hlen0])
          all_goals (refine ⟨s, ?_, Gh.to [] (by repeat (first | exact trivial | refine ⟨rfl, ?_⟩ | refine ⟨by (simp only [go_sem, zA, zB, zC, zD, zE, zF, zG, reduceCtorEq, zH, zI, zJ, zK, zL, List.length_append, List.length_map, List.length_cons, List.length_nil, Nat.zero_add]) <;> rfl, ?_⟩)) (by repeat (first | exact trivial | refine ⟨rfl, ?_⟩ | refine ⟨by (simp only [go_sem, zA, zB, zC, zD, zE, zF, zG, reduceCtorEq, zH, zI, zJ, zK, zL, List.length_append, List.length_map, List.length_cons, List.length_nil, Nat.zero_add]) <;> rfl, ?_⟩)) rfl rfl rfl⟩)
          all_goals (refine ⟨?_, by omega⟩; rw [Is, foldl_take hx, ← hok, insS, hp, hy]; rw [show decide (some y = some x) = decide (y = x) from by simp, hyx]; try rfl)
      ·
        repeat' (first | (simp only [go_sem, zA, zB, zC, zD, zE, zF, zG, reduceCtorEq, zH, zI, zJ, zK, zL, List.length_map, hbj, hz, encStr]; all_goals fail_if_success guard_target =ₛ False) | (with_reducible first | ((first | refine seqVC_stepN rfl ?_ | refine seqVC_stepG rfl (by with_unfolding_all rfl) ?_ | refine AWP.seq ?_ | refine AWP.seqR (by kernel_rfl) ?_ | refine parVC_stepN rfl ?_ | refine parVC_stepG rfl (by with_unfolding_all rfl) ?_ | refine parEVC_stepN rfl ?_ | refine parEVC_stepG rfl (by with_unfolding_all rfl) ?_ | refine genVC_stepN rfl ?_ | refine genVC_stepG rfl (by with_unfolding_all rfl) ?_); intro K hK) | ((first | refine hK _ _ _ ?_ | refine hK _ _ ?_ | refine hK _ ?_); clear hK K) | refine seqVC_nil ?_ | refine parVC_nil ?_ | refine parEVC_nil ?_ | refine genVC_nil ?_ | refine AWP.block ?_ | (refine AWP.cond (by with_unfolding_all rfl) ?_ ?_ <;> intro h <;> (try simp only [zM, zN] at h) <;> try exact absurd h (by decide)) | refine AWP.skip ?_ | refine AWP.ret ?_ | refine AWP.exit ?_ | (refine ⟨fun h => ?_, fun h => ?_⟩ <;> (try simp only [zM, zN] at h) <;> try simp only [h]) | refine ⟨by omega, encStr x, hx', ?_⟩ | refine ⟨by omega, encStr y, hy', ?_⟩ | (refine AWP.segP (id := 10) 6 mixed (by kernel_rfl) fun K hK => ?_; simp only [List.take_succ_cons, List.take_zero, List.drop_succ_cons, List.drop_zero]) | refine AWP.parR mixed (by kernel_rfl) fun K hK => ?_ | refine ⟨(by kernel_rfl : depB _ _ _ = true), ?_⟩ | refine Or.inl ?_) | (clear hK K))
        all_goals (rw [wrap_succ hjl (by omega)])
        all_goals (refine ⟨j + 1, by omega, ⟨by omega, by omega⟩, Gh.to [] (by repeat (first | exact trivial | refine ⟨rfl, ?_⟩ | refine ⟨by (simp only [go_sem, zA, zB, zC, zD, zE, zF, zG, reduceCtorEq, zH, zI, zJ, zK, zL, List.length_append, List.length_map, List.length_cons, List.length_nil, Nat.zero_add]) <;> rfl, ?_⟩)) (by repeat (first | exact trivial | refine ⟨rfl, ?_⟩ | refine ⟨by (simp only [go_sem, zA, zB, zC, zD, zE, zF, zG, reduceCtorEq, zH, zI, zJ, zK, zL, List.length_append, List.length_map, List.length_cons, List.length_nil, Nat.zero_add]) <;> rfl, ?_⟩)) rfl rfl rfl⟩)
    · have hjs : j = s.length := by omega
      subst hjs
      have hbj : decide ((s.length : Int) < (s.length : Int)) = false := by simp
      rw [tw_end, Nat.add_zero] at hp
      have hnone : s[s.length]? = none := by simp
      repeat' (first | (simp only [go_sem, zA, zB, zC, zD, zE, zF, zG, reduceCtorEq, zH, zI, zJ, zK, zL, List.length_map, hbj, hb, encStr, Int.toNat_natCast, List.drop_zero, List.take_length, take_map', drop_map', str_put, str_end]; all_goals fail_if_success guard_target =ₛ False) | (with_reducible first | ((first | refine seqVC_stepN rfl ?_ | refine seqVC_stepG rfl (by with_unfolding_all rfl) ?_ | refine AWP.seq ?_ | refine AWP.seqR (by kernel_rfl) ?_ | refine parVC_stepN rfl ?_ | refine parVC_stepG rfl (by with_unfolding_all rfl) ?_ | refine parEVC_stepN rfl ?_ | refine parEVC_stepG rfl (by with_unfolding_all rfl) ?_ | refine genVC_stepN rfl ?_ | refine genVC_stepG rfl (by with_unfolding_all rfl) ?_); intro K hK) | ((first | refine hK _ _ _ ?_ | refine hK _ _ ?_ | refine hK _ ?_); clear hK K) | refine seqVC_nil ?_ | refine parVC_nil ?_ | refine parEVC_nil ?_ | refine genVC_nil ?_ | refine AWP.block ?_ | (refine AWP.cond (by with_unfolding_all rfl) ?_ ?_ <;> intro h <;> (try simp only [zM, zN] at h) <;> try exact absurd h (by decide)) | refine AWP.skip ?_ | refine AWP.ret ?_ | refine AWP.exit ?_ | (refine ⟨fun h => ?_, fun h => ?_⟩ <;> (try simp only [zM, zN] at h) <;> try simp only [h]) | refine ⟨by omega, encStr x, hx', ?_⟩ | (refine ⟨(by first | omega | (simp only [List.length_append, List.length_map, List.length_take, List.length_drop, List.length_cons, List.length_nil, List.length_replicate]; omega) : _ ≤ _), ?_⟩) | refine ⟨by omega, by omega, ?_⟩ | (refine AWP.genR (id := 10) [6, 10] [48] mixed (by kernel_rfl) fun K hK => ?_; simp only [Bx.outs, Bx.drop, cond_true, cond_false, Nat.reduceBEq, go_sem]) | refine AWP.parR mixed (by kernel_rfl) fun K hK => ?_ | refine ⟨(by kernel_rfl : depB _ _ _ = true), ?_⟩ | refine Or.inl ?_) | (clear hK K))
      all_goals (rw [wrap_succ hlt hlen0])
      all_goals (refine ⟨putAt s.length x s, ?_, ?_⟩)
      all_goals (try first
        | (refine Gh.trans (Gh.freeze 59 rfl rfl (by simp only [go_sem, zA, zB, zC, zD, zE, zF, zG, reduceCtorEq, zH, zI, zJ, zK, zL, List.length_map, List.length_append]) (by simp only [go_sem, zA, zB, zC, zD, zE, zF, zG, reduceCtorEq, zH, zI, zJ, zK, zL, List.length_map, List.length_append])) ?_; simp only [go_sem, zA, zB, zC, zD, zE, zF, zG, reduceCtorEq, zH, zI, zJ, zK, zL, List.length_map, List.length_append]; exact Gh.to [] (by repeat (first | exact trivial | refine ⟨rfl, ?_⟩ | refine ⟨by (simp only [go_sem, zA, zB, zC, zD, zE, zF, zG, reduceCtorEq, zH, zI, zJ, zK, zL, List.length_append, List.length_map, List.length_cons, List.length_nil, Nat.zero_add]) <;> rfl, ?_⟩)) (by repeat (first | exact trivial | refine ⟨rfl, ?_⟩ | refine ⟨by (simp only [go_sem, zA, zB, zC, zD, zE, zF, zG, reduceCtorEq, zH, zI, zJ, zK, zL, List.length_append, List.length_map, List.length_cons, List.length_nil, Nat.zero_add]) <;> rfl, ?_⟩)) rfl rfl rfl)
        | (exact Gh.to [] (by repeat (first | exact trivial | refine ⟨rfl, ?_⟩ | refine ⟨by (simp only [go_sem, zA, zB, zC, zD, zE, zF, zG, reduceCtorEq, zH, zI, zJ, zK, zL, List.length_append, List.length_map, List.length_cons, List.length_nil, Nat.zero_add]) <;> rfl, ?_⟩)) (by repeat (first | exact trivial | refine ⟨rfl, ?_⟩ | refine ⟨by (simp only [go_sem, zA, zB, zC, zD, zE, zF, zG, reduceCtorEq, zH, zI, zJ, zK, zL, List.length_append, List.length_map, List.length_cons, List.length_nil, Nat.zero_add]) <;> rfl, ?_⟩)) rfl rfl rfl))
      all_goals (refine ⟨?_, by rw [putAt_len]; omega⟩; rw [Is, foldl_take hx, ← hok, insS, hp, hnone]; try rfl)
  · intro s hb hok
    simp only [go_sem, zA, zB, zC, zD, zE, zF, zG, reduceCtorEq, zH, zI, zJ, zK, zL]
    repeat' (first | (simp only [go_sem, zA, zB, zC, zD, zE, zF, zG, reduceCtorEq, zH, zI, zJ, zK, zL, List.length_map, hb]; all_goals fail_if_success guard_target =ₛ False) | (with_reducible first | ((first | refine seqVC_stepN rfl ?_ | refine seqVC_stepG rfl (by with_unfolding_all rfl) ?_ | refine AWP.seq ?_ | refine AWP.seqR (by kernel_rfl) ?_ | refine parVC_stepN rfl ?_ | refine parVC_stepG rfl (by with_unfolding_all rfl) ?_ | refine parEVC_stepN rfl ?_ | refine parEVC_stepG rfl (by with_unfolding_all rfl) ?_ | refine genVC_stepN rfl ?_ | refine genVC_stepG rfl (by with_unfolding_all rfl) ?_); intro K hK) | ((first | refine hK _ _ _ ?_ | refine hK _ _ ?_ | refine hK _ ?_); clear hK K) | refine seqVC_nil ?_ | refine parVC_nil ?_ | refine parEVC_nil ?_ | refine genVC_nil ?_ | refine AWP.block ?_ | (refine AWP.cond (by with_unfolding_all rfl) ?_ ?_ <;> intro h <;> (try simp only [zM, zN] at h) <;> try exact absurd h (by decide)) | refine AWP.skip ?_ | refine AWP.ret ?_ | refine AWP.exit ?_ | (refine ⟨fun h => ?_, fun h => ?_⟩ <;> (try simp only [zM, zN] at h) <;> try simp only [h]) | (refine AWP.segP (id := 10) 6 mixed (by kernel_rfl) fun K hK => ?_; simp only [List.take_succ_cons, List.take_zero, List.drop_succ_cons, List.drop_zero]) | refine AWP.parR mixed (by kernel_rfl) fun K hK => ?_ | refine ⟨(by kernel_rfl : depB _ _ _ = true), ?_⟩ | refine Or.inl ?_) | (clear hK K))
    all_goals (first | exact fun _ h => (by cases h) | refine fin0 ?_)
    all_goals (rw [show s = _ from hok.1, List.take_length]; rfl)
/-- no datum of it has a contract -/
inductive NoNodes : Dat → Prop
  | mk (d : Dat) (h : d.nodes = []) (hk : ∀ k ∈ d.kids, NoNodes k) : NoNodes d
theorem NoNodes.nodes {d : Dat} (h : NoNodes d) : d.nodes = [] := by cases h; assumption
theorem NoNodes.kid {d : Dat} (h : NoNodes d) : ∀ k ∈ d.kids, NoNodes k := by cases h; assumption
theorem eqKeyT (x y : KeyD) : eqStT Tryz.prog 6 33 (encKey x) (encKey y) = some (decide (x.kind = y.kind) && (decide (x.text = y.text) && true)) := by kernel_rfl
theorem keyEq (x y : KeyD) : (decide (x.kind = y.kind) && decide (x.text = y.text)) = decide (x = y) := by
  obtain ⟨a, b⟩ := x; obtain ⟨c, d⟩ := y
  rw [← Bool.coe_iff_coe]; simp
end Go.Proofs.YteobojeemflggaaGreat
set_option linter.unusedVariables false
set_option linter.unusedSimpArgs false
namespace Go.Sx
variable {P : Program} {n : Nat} {σ : AS} {Q : Exit → AS → Prop}
theorem gen_sound2 {κ : Kap} {M0 : Mem} {l : List Oper} {fx : Nat → Bx} {t : Nat → T} {b : Nat → Bx} {e : Nat → Bool} {jn : Nat → Option Nat} {env0 : Env} {Q' : Exit → Act → World → Prop}
    (hback : Back l) (hpairs : Pairs l) (hord : EffOrdG l e)
    (hs : ∀ i o, l[i]? = some o → OSpecG P n l (fx i) o (envA l t (fun _ => true) env0 i) (b i) (t i) (b (i + 1)) (e i) (jn i)) (hf : ∀ i m, i < l.length → m ≤ l.length → (∀ j, j < m → e j = true → depB l j i = false) → ∀ x ∈ fx i, x ∈ b m)
    (hfr : ∀ g k j, jn g = some j → g < k → k < l.length → (t k).fresh j = true ∨ depB l k g = true)
    (hQ : ∀ a w, St κ M0 n ⟨envA l t (fun _ => true) env0 l.length, b l.length⟩ a w → Q' .normal a w) :
    ∀ (fuel : Nat) (listed : Array Bool) (a : Act) (w : World), cnt l listed = fuel → Mid κ M0 n l t b e env0 listed a w →
      wpAny P .any l.toArray Q' fuel listed a w := by
  have hbc : ∀ i, i < l.length → e i = false → b (i + 1) = b i := by
    intro i hi he
    rcases (hs i l[i] (by simp [hi])).2 with ⟨_, ⟨_, _, _, h⟩ | ⟨h, _⟩ | ⟨_, h, _⟩⟩ | ⟨_, _, h, _⟩
    · exact h
    · rw [he] at h; cases h
    · rw [he] at h; cases h
    · exact h
  have done : ∀ (listed : Array Bool) (a : Act) (w : World), Mid κ M0 n l t b e env0 listed a w → (∀ i, i < l.length → listed.getD i false = true) → Q' .normal a w := by
    intro listed a w hm hall
    obtain ⟨M, ν, m, h1, h2, h3, h4, h5, h6, h7, h8⟩ := hm.st
    refine hQ a w ⟨M, ν, h1, h2, h3, ?_, ?_⟩
    · intro d u hu
      refine h4 d u ?_
      rw [envA_same l t (xs listed) (fun _ => true) env0 d l.length (fun j o hj _ _ => hall j hj)]
      exact hu
    · have : b l.length = b m := const_b hbc m l.length h5 (Nat.le_refl _) (fun j hj1 hj2 => by
        cases hj : e j with
        | false => rfl
        | true => have := (h6 j hj2 hj).1 (hall j hj2); omega)
      simp only [this]
      exact ⟨h7, h8⟩
  have hord' : ∀ listed : Array Bool, Closed l listed → ∀ i j, i < j → j < l.length → e i = true → e j = true → listed.getD j false = true → listed.getD i false = true := by
    intro listed hc i j hij hj hei hej hx
    exact dep_of (hord i j hij hj hei hej) (List.getElem?_eq_getElem hj) hc (fun e' he' hb' => hc j l[j] (List.getElem?_eq_getElem hj) hx e' he' hb')
  intro fuel
  induction fuel with
  | zero =>
    intro listed a w hfuel hm
    have hall := cnt_zero hfuel
    exact ⟨ready_none hm.size hall, done listed a w hm hall⟩
  | succ fuel ih =>
    intro listed a w hfuel hm
    refine ⟨fun hr => done listed a w hm (ready_least hback hm.size hr), fun i hi => ?_⟩
    obtain ⟨h0, oi, hoi, hall⟩ := mem_ready.1 hi
    have hil : i < l.length := by have := (Array.getElem?_eq_some_iff.1 hoi).1; simpa using this
    have hoi' : l[i]? = some oi := by simpa using hoi
    have hisz : i < listed.size := by rw [hm.size]; exact hil
    have hxi : listed.getD i false = false := by simp [hisz] at h0 ⊢; exact h0
    obtain ⟨M, ν, m, h1, h2, h3, h4, h5, h6, h7, h8⟩ := hm.st
    obtain ⟨hd, hspec⟩ := hs i oi hoi'
    have look : ∀ d, d ∈ oi.looksAt l.toArray → (envA l t (xs listed) env0 l.length).lookup d = (envA l t (fun _ => true) env0 i).lookup d := by
      intro d hdm
      rw [envA_skip l t (xs listed) env0 d i l.length (by omega) ?_, envA_same l t (xs listed) (fun _ => true) env0 d i ?_]
      · intro j o hj ho hod
        rcases hpairs j i o oi hj ho hoi' with ⟨e', he', hb', hon⟩ | hap
        · exact hon ▸ hall e' he' hb'
        · exact absurd hdm ((Oper.apart_spec hap).1 d hod)
      · intro j o hj hjl ho hod
        by_cases hji : i = j
        · subst hji; exact hxi
        · cases hxj : xs listed j with
          | false => rfl
          | true =>
            rcases hpairs i j oi o (by omega) hoi' ho with ⟨e', he', hb', hon⟩ | hap
            · have := hm.closed j o ho hxj e' he' hb'
              rw [hon, hxi] at this; cases this
            · exact absurd hdm ((Oper.apart_spec hap).2.2 d hod)
    have hclosed : Closed l (listed.setIfInBounds i true) := by
      intro j oj hj hx e' he' hb'
      by_cases hji : i = j
      · subst hji
        rw [hoi'] at hj; cases hj
        exact getD_set_true (hall e' he' hb')
      · rw [getD_set_ne false hji] at hx
        exact getD_set_true (hm.closed j oj hj hx e' he' hb')
    have hcount : cnt l (listed.setIfInBounds i true) = fuel := by
      have := cnt_set hm.size hil hxi; omega
    have after : ∀ (M' : Mem) (ν' : Nu) (v : Value) (w' : World) (m' : Nat), M.ext κ M' → EnvOk M ν' a.tmps (envA l t (xs listed) env0 l.length) → (t i).rep M' ν' v → m' ≤ l.length →
        (∀ j, j < l.length → e j = true → ((listed.setIfInBounds i true).getD j false = true ↔ j < m')) → Sat κ M' ν' (b m') w' → (∀ k, pin ≤ k → ν' k = κ.nu k) →
        Mid κ M0 n l t b e env0 (listed.setIfInBounds i true) (a.put oi.dst v) w' := by
      intro M' ν' v w' m' hle h4 hr hm' hem hsat hpin
      refine ⟨by simpa using hm.size, hclosed, M', ν', m', h1.trans hle, by rw [Act.put_size]; exact h2, by rw [Act.put_defers']; exact h3, ?_, hm', hem, hsat, hpin⟩
      have hput := EnvOk.put (df := a.defers) (h4.mono hle.1) (dst := oi.dst) (v := v) (t := t i) (fun d he => by rw [h2]; exact dstOk_spec hd d he) hr
      intro k u hu
      refine hput k u ?_
      rw [putE_lookup]
      by_cases hk : oi.dst = some k
      · rw [if_pos hk]
        have e1 := envA_skip l t (xs (listed.setIfInBounds i true)) env0 k (i + 1) l.length (by omega) (fun j o hj hjl ho hod => by
          cases hxj : xs (listed.setIfInBounds i true) j with
          | false => rfl
          | true =>
            have hne : i ≠ j := by omega
            have hxj' : listed.getD j false = true := by rw [← getD_set_ne false hne]; exact hxj
            rcases hpairs i j oi o (by omega) hoi' ho with ⟨e', he', hb', hon⟩ | hap
            · have := hm.closed j o ho hxj' e' he' hb'
              rw [hon, hxi] at this; cases this
            · exact absurd hod ((Oper.apart_spec hap).2.1 k hk))
        rw [e1] at hu
        have hself : xs (listed.setIfInBounds i true) i = true := by simp [xs, hisz]
        rw [envA, hself] at hu
        simp only [cond_true, putE_lookup, hoi', Option.bind_some, hk, if_true] at hu
        exact hu
      · rw [if_neg hk]
        have e2 := envA_same l t (xs (listed.setIfInBounds i true)) (xs listed) env0 k l.length (fun j o hj ho hod => by
          have hne : i ≠ j := fun h => by subst h; rw [hoi'] at ho; cases ho; exact hk hod
          exact getD_set_ne false hne)
        rw [← e2]; exact hu
    have hon : EnvOn M ν a (envA l t (fun _ => true) env0 i) oi := by
      intro d u hdo hu
      refine h4 d u ?_
      rw [look d (looksAt_op hdo)]; exact hu
    have hgd : ∀ g want d u, oi.guard = some (g, want) → (l[g]?).bind (·.dst) = some d → (envA l t (fun _ => true) env0 i).lookup d = some u → u.rep M ν (a.tmps.getD d undef) := by
      intro g want d u hg hgd hu
      refine h4 d u ?_
      rw [look d (looksAt_guard hg hgd)]; exact hu
    have samem : e i = false → ∀ j, j < l.length → e j = true → ((listed.setIfInBounds i true).getD j false = true ↔ j < m) := by
      intro hei j hj hej
      have hne : i ≠ j := fun h => by subst h; rw [hei] at hej; cases hej
      rw [getD_set_ne false hne]; exact h6 j hj hej
    -- what an operation that turns boxes finds and leaves
    have effm : e i = true → b i = b m ∧ ∀ j, j < l.length → e j = true → ((listed.setIfInBounds i true).getD j false = true ↔ j < i + 1) := by
      intro hei
      have hmi : m ≤ i := by
        rcases Nat.lt_or_ge i m with h | h
        · have := (h6 i hil hei).2 h; rw [hxi] at this; cases this
        · exact h
      have prev : ∀ j, j < i → e j = true → listed.getD j false = true := by
        intro j hj hej
        have hself : (listed.setIfInBounds i true).getD i false = true := by simp [hisz]
        have := hord' _ hclosed j i hj hil hej hei hself
        rwa [getD_set_ne false (by omega)] at this
      refine ⟨const_b hbc m i hmi (by omega) (fun j hj1 hj2 => by
        cases hj : e j with
        | false => rfl
        | true => have := (h6 j (by omega) hj).1 (prev j hj2 hj); omega), fun j hj hej => ?_⟩
      by_cases hji : i = j
      · subst hji; simp [hisz]
      · rw [getD_set_ne false hji]
        constructor
        · intro hx
          rcases Nat.lt_or_ge i j with h | h
          · have := hord' _ hm.closed i j h hj hei hej hx
            rw [hxi] at this; cases this
          · omega
        · intro hx
          exact prev j (by omega) hej
    unfold wpOp
    rw [hoi]
    simp only []
    rcases hspec with ⟨hg, ⟨hei, hjn, hop, hbb⟩ | ⟨hei, hjn, hop⟩ | ⟨k, hei, hjn, hop, hkp, hfk⟩⟩ | ⟨hg, ht, hbb, hei, hjn⟩
    · rw [if_pos (wanted_of hg hgd)]
      left
      refine Oper.wp_mono_Q (Oper.wp_mono ?_ (hop κ M ν a w (b m) (hf i m hil h5 (fun j hj hej => by
        cases hdp : depB l j i with
        | false => rfl
        | true =>
          have hjl : j < l.length := by omega
          have hlj := (h6 j hjl hej).2 hj
          have := dep_of hdp (List.getElem?_eq_getElem hjl) hm.closed (fun e' he' hb' => hm.closed j l[j] (List.getElem?_eq_getElem hjl) hlj e' he' hb')
          rw [hxi] at this; cases this)) hon h7))
      rintro a' w' ⟨v, M', rfl, hle, hr, hsat⟩
      exact ih _ _ _ hcount (after M' ν v w' m hle h4 hr h5 (samem hei) hsat h8)
    · rw [if_pos (wanted_of hg hgd)]
      left
      obtain ⟨hbm, hem⟩ := effm hei
      refine Oper.wp_mono_Q (Oper.wp_mono ?_ (hop κ M ν a w hon (by rw [hbm]; exact h7)))
      rintro a' w' ⟨v, M', rfl, hle, hr, hsat⟩
      exact ih _ _ _ hcount (after M' ν v w' (i + 1) hle h4 hr hil hem hsat h8)
    · rw [if_pos (wanted_of hg hgd)]
      left
      obtain ⟨hbm, hem⟩ := effm hei
      refine Oper.wp_mono_Q (Oper.wp_mono ?_ (hop κ M ν a w hon (by rw [hbm]; exact h7)))
      rintro a' w' ⟨v, M', ν', rfl, hle, hν, hr, hsat⟩
      obtain ⟨hf0, hft⟩ := fresh_envA i hfk
      have hfresh : Env.fresh k (envA l t (xs listed) env0 l.length) = true := by
        refine envA_fresh' hf0 l.length (fun q hq hx hdq => ?_)
        rcases Nat.lt_trichotomy q i with h | h | h
        · exact hft q h hdq
        · subst h; unfold xs at hx; rw [hxi] at hx; cases hx
        · rcases hfr i q k hjn h hq with h' | h'
          · exact h'
          · exfalso
            have := dep_of h' (List.getElem?_eq_getElem hq) hm.closed (fun e' he' hb' => hm.closed q l[q] (List.getElem?_eq_getElem hq) hx e' he' hb')
            rw [hxi] at this; cases this
      exact ih _ _ _ hcount (after M' ν' v w' (i + 1) hle (h4.fresh hfresh hν) hr hil hem hsat (fun q hq => by rw [hν q (by omega)]; exact h8 q hq))
    · rw [unwanted_of hg hgd]
      simp only [Bool.false_eq_true, if_false]
      refine ih _ _ _ hcount (after M ν undef w m (Mem.ext.refl κ M) h4 (by rw [ht]; simp [undefT, T.rep, Cell.rep, C.rep]) h5 (samem hei) h7 h8)
/-- all that is done from j0 on waits for the operation i -/
def earlyB (all : List Oper) (es : List Nat) (j0 i : Nat) : Bool := es.all fun e => Nat.blt e j0 || depB all e i
def fxOf (ear : List Nat) (fixB fixC : Bx) (i : Nat) : Bx := bif memN i ear then fixC else fixB
def genVC2 (P : Program) (all : List Oper) (es ear : List Nat) (fixB : Bx) (j0 : Nat) (fixC : Bx) : Nat → List (Nat × Nat) → List Oper → Env → Bx → (Env → Bx → Prop) → Prop
  | _, _, [], env, B, K => K env B
  | i, gs, o :: os, env, B, K => guardT all env o
      (bif memN i es then effVC P o env B fun t B' => bxSub B' fixB ∧ (bif decide (i < j0) then bxSub B' fixC else True) ∧ FreshOr all i t gs ∧ genVC2 P all es ear fixB j0 fixC (i + 1) (gsNext i o gs) os (putE env o.dst t) B' K
       else pureVC P o env (fxOf ear fixB fixC i) fun t => FreshOr all i t gs ∧ genVC2 P all es ear fixB j0 fixC (i + 1) gs os (putE env o.dst t) B K)
      (genVC2 P all es ear fixB j0 fixC (i + 1) gs os (putE env o.dst undefT) B K)
theorem gen_trace2 (all : List Oper) (es ear : List Nat) (fixB : Bx) (j0 : Nat) (fixC : Bx) (K : Env → Bx → Prop) : ∀ (l : List Oper) (i0 : Nat) (gs : List (Nat × Nat)) (env : Env) (B : Bx), dstsOk n l = true → (∀ x ∈ fixB, x ∈ B) → (i0 ≤ j0 → ∀ x ∈ fixC, x ∈ B) → genVC2 P all es ear fixB j0 fixC i0 gs l env B K →
    ∃ (t : Nat → T) (b : Nat → Bx) (e : Nat → Bool) (jn : Nat → Option Nat), b 0 = B ∧ (∀ i o, l[i]? = some o → OSpecG P n all (fxOf ear fixB fixC (i0 + i)) o (envA l t (fun _ => true) env i) (b i) (t i) (b (i + 1)) (e i) (jn i)) ∧
      (∀ i, i ≤ l.length → ∀ x ∈ fixB, x ∈ b i) ∧ (∀ i, i ≤ l.length → i0 + i ≤ j0 → ∀ x ∈ fixC, x ∈ b i) ∧ (∀ i, e i = true → memN (i0 + i) es = true) ∧ (∀ i, i < l.length → FreshOr all (i0 + i) (t i) gs) ∧
      (∀ g k j, jn g = some j → g < k → k < l.length → (t k).fresh j = true ∨ depB all (i0 + k) (i0 + g) = true) ∧ K (envA l t (fun _ => true) env l.length) (b l.length)
  | [], i0, gs, env, B, _, hB, hC, h => ⟨fun _ => undefT, fun _ => B, fun _ => false, fun _ => none, rfl, fun i o ho => by simp at ho, fun i _ => hB, fun i hi hx => hC (by omega), fun i h => (by cases h), fun i hi => by simp at hi, fun _ _ _ h => (by cases h), h⟩
  | o :: os, i0, gs, env, B, hd, hB, hC, h => by
    simp only [dstsOk, List.all_cons, Bool.and_eq_true] at hd
    obtain ⟨⟨hd1, hd2⟩, hd3⟩ := hd
    have step : ∃ (t0 : T) (B' : Bx) (e0 : Bool) (jz : Option Nat) (gs' : List (Nat × Nat)), OSpecG P n all (fxOf ear fixB fixC i0) o env B t0 B' e0 jz ∧ (∀ x ∈ fixB, x ∈ B') ∧ (i0 + 1 ≤ j0 → ∀ x ∈ fixC, x ∈ B') ∧ (e0 = true → memN i0 es = true) ∧ FreshOr all i0 t0 gs ∧
        (∀ p ∈ gs, p ∈ gs') ∧ (∀ j, jz = some j → (i0, j) ∈ gs') ∧ genVC2 P all es ear fixB j0 fixC (i0 + 1) gs' os (putE env o.dst t0) B' K := by
      rcases guardT_true h with ⟨hg, hx⟩ | ⟨hg, hx⟩
      · cases hm : memN i0 es with
        | true =>
          rw [hm] at hx
          simp only [cond_true] at hx
          have hcx : ∀ {B' : Bx}, (bif decide (i0 < j0) then bxSub B' fixC else True) → i0 + 1 ≤ j0 → bxSub B' fixC := by
            intro B' hc hx
            have : decide (i0 < j0) = true := by simp; omega
            rw [this] at hc; exact hc
          have sub : ∀ p ∈ gs, p ∈ gsNext i0 o gs := fun p hp => by unfold gsNext; cases makes o <;> simp [hp]
          rcases effVC_makes hx with ⟨t, hop, h1, hc, h2, h3⟩ | ⟨t, B', hop, h1, hc, h2, h3⟩ | ⟨hmk, t, B', hop, hfr, h1, hc, h2, h3⟩
          · refine ⟨t, B, true, none, _, ⟨hd1, .inl ⟨hg, .inr (.inl ⟨rfl, rfl, hop.e⟩)⟩⟩, hB, fun hx => hC (by omega), fun _ => rfl, h2, sub, fun j hj => (by cases hj), h3⟩
          · exact ⟨t, B', true, none, _, ⟨hd1, .inl ⟨hg, .inr (.inl ⟨rfl, rfl, hop⟩)⟩⟩, bxSub_spec h1, fun hx => bxSub_spec (hcx hc hx), fun _ => rfl, h2, sub, fun j hj => (by cases hj), h3⟩
          · refine ⟨t, B', true, some (dstN o), _, ⟨hd1, .inl ⟨hg, .inr (.inr ⟨dstN o, rfl, rfl, hop, Nat.le_of_ble_eq_true hd2, hfr⟩)⟩⟩, bxSub_spec h1, fun hx => bxSub_spec (hcx hc hx), fun _ => rfl, h2, sub, fun j hj => ?_, h3⟩
            cases hj
            unfold gsNext; rw [hmk]; simp
        | false =>
          rw [hm] at hx
          simp only [cond_false] at hx
          obtain ⟨t, hop, h2, h3⟩ := pureVC_sound hx
          exact ⟨t, B, false, none, gs, ⟨hd1, .inl ⟨hg, .inl ⟨rfl, rfl, hop, rfl⟩⟩⟩, hB, fun hx => hC (by omega), fun h => (by cases h), h2, fun _ h => h, fun j hj => (by cases hj), h3⟩
      · exact ⟨undefT, B, false, none, gs, ⟨hd1, .inr ⟨hg, rfl, rfl, rfl, rfl⟩⟩, hB, fun hx => hC (by omega), fun h => (by cases h), FreshOr_un gs, fun _ h => h, fun j hj => (by cases hj), hx⟩
    obtain ⟨t0, B', e0, jz, gs', hspec, hfix, hfixC, he0, hfr0, hsub, hj0, hk⟩ := step
    obtain ⟨t, b, e, jn, hb0, hs, hf, hfC, he, hfr, hjj, hK⟩ := gen_trace2 all es ear fixB j0 fixC K os (i0 + 1) gs' _ B' hd3 hfix hfixC hk
    refine ⟨fun i => match i with | 0 => t0 | i + 1 => t i, fun i => match i with | 0 => B | i + 1 => b i, fun i => match i with | 0 => e0 | i + 1 => e i, fun i => match i with | 0 => jz | i + 1 => jn i, rfl, ?_, ?_, ?_, ?_, ?_, ?_, ?_⟩
    · intro i o' ho
      cases i with
      | zero => simp at ho; subst ho; rw [← hb0] at hspec; exact hspec
      | succ i =>
        rw [envA_cons]
        have := hs i o' (by simpa using ho)
        rwa [show i0 + 1 + i = i0 + (i + 1) by omega] at this
    · intro i hi
      cases i with
      | zero => exact hB
      | succ i => exact hf i (by simpa using hi)
    · intro i hi hx
      cases i with
      | zero => exact hC (by omega)
      | succ i => exact hfC i (by simpa using hi) (by omega)
    · intro i hi
      cases i with
      | zero => exact he0 hi
      | succ i => have := he i hi; rwa [show i0 + 1 + i = i0 + (i + 1) by omega] at this
    · intro i hi
      cases i with
      | zero => exact hfr0
      | succ i =>
        have := hfr i (by simpa using hi)
        rw [show i0 + 1 + i = i0 + (i + 1) by omega] at this
        exact gen_trace.FreshOr_sub hsub this
    · intro g k j hg hgk hk'
      cases k with
      | zero => omega
      | succ k =>
        cases g with
        | zero =>
          have := FreshOr_spec (hfr k (by simpa using hk')) (i0, j) (hj0 j hg)
          rwa [show i0 + 1 + k = i0 + (k + 1) by omega] at this
        | succ g =>
          have := hjj g k j hg (by omega) (by simpa using hk')
          rwa [show i0 + 1 + k = i0 + (k + 1) by omega, show i0 + 1 + g = i0 + (g + 1) by omega] at this
    · rw [List.length_cons, envA_cons]; exact hK
/-- THE RULE: es: the operations that turn or make boxes; ks: the names of the boxes that they turn; of these, ks' before j0 -/
theorem AWP.genR2 {id : Nat} {l : List Oper} {env : Env} {B : Bx} (es ks : List Nat) (ear : List Nat) (j0 : Nat) (ks' : List Nat) (hm : P.follows .mixedOrders = true) (hl : (genOk n l es && ear.all fun i => earlyB l es j0 i) = true)
    (h : ∀ K : Env → Bx → Prop, (∀ e b, Q .normal ⟨e, b⟩ → K e b) → genVC2 P l es ear (Bx.outs B ks) j0 (Bx.outs B ks') 0 [] l env B K) : AWP P n (.region id l.toArray true) ⟨env, B⟩ Q := by
  rw [Bool.and_eq_true] at hl
  obtain ⟨hl, hear⟩ := hl
  simp only [genOk, Bool.and_eq_true] at hl
  intro κ M0 a w hs
  obtain ⟨hback, hpairs, _⟩ := lex_pairs hl.1
  obtain ⟨t, b, e, jn, hb0, hsp, hf, hfC, he, _, hjj, hK⟩ := gen_trace2 l es ear (Bx.outs B ks) j0 (Bx.outs B ks') _ l 0 [] env B hl.2.1 (fun x hx => Bx.outs_sub hx) (fun _ x hx => Bx.outs_sub hx) (h (fun e b => Q .normal ⟨e, b⟩) (fun _ _ k => k))
  have hord : EffOrdG l e := fun i k hik hk hei hek => esOk_spec hl.2.2 i (memN_spec (by simpa using he i hei)) k (memN_spec (by simpa using he k hek)) hik
  refine wp_region_any hm ?_
  have hsz : l.toArray.size = l.length := by simp
  rw [hsz]
  have hrep : ∀ j, (Array.replicate l.length false).getD j false = false := fun j => rep_getD _ j
  have hbc : ∀ i, i < l.length → e i = false → b (i + 1) = b i := by
    intro i hi hei
    rcases (hsp i l[i] (by simp [hi])).2 with ⟨_, ⟨_, _, _, h⟩ | ⟨h, _⟩ | ⟨_, h, _⟩⟩ | ⟨_, _, h, _⟩
    · exact h
    · rw [hei] at h; cases h
    · rw [hei] at h; cases h
    · exact h
  refine gen_sound2 (fx := fun i => fxOf ear (Bx.outs B ks) (Bx.outs B ks') i) hback hpairs hord (fun i o ho => by have := hsp i o ho; rwa [Nat.zero_add] at this) ?_ (fun g k j hg hgk hk => by have := hjj g k j hg hgk hk; simpa using this) (fun a w s => ⟨_, s, hK⟩) l.length _ a _ ?_ (mid_start (σ := ⟨env, B⟩) hb0 hs)
  · intro i m hi hm hdep x hx
    unfold fxOf at hx
    cases hE0 : memN i ear with
    | false => rw [hE0] at hx; exact hf m hm x hx
    | true =>
      have hE := List.all_eq_true.1 hear i (memN_spec hE0)
      rw [hE0] at hx
      simp only [cond_true] at hx
      rcases Nat.le_total m j0 with hmj | hmj
      · exact hfC m hm (by omega) x hx
      · have hno : ∀ j, j0 ≤ j → j < m → e j = false := by
          intro j hj1 hj2
          cases hej : e j with
          | false => rfl
          | true =>
            have hmem := memN_spec (he j hej)
            rw [Nat.zero_add] at hmem
            have h1 := List.all_eq_true.1 hE j hmem
            simp only [Bool.or_eq_true] at h1
            rcases h1 with h1 | h1
            · have : j < j0 := by simpa using h1
              omega
            · have := hdep j hj2 hej
              rw [h1] at this; cases this
        have hbb : b m = b j0 := by
          have := const_b hbc j0 m hmj hm (fun j hj1 hj2 => hno j hj1 hj2)
          first | exact this | exact this.symm
        rw [hbb]
        exact hfC j0 (by omega) (by omega) x hx
  · unfold cnt
    have hfil : (List.range l.length).filter (fun i => !(Array.replicate l.length false).getD i false) = List.range l.length := by
      rw [List.filter_eq_self]
      intro x _
      simp only [hrep x, Bool.not_false]
    rw [hfil, List.length_range]
theorem gen2VC_nil {all : List Oper} {es ear : List Nat} {fixB : Bx} {j0 : Nat} {fixC : Bx} {i : Nat} {gs : List (Nat × Nat)} {env : Env} {B : Bx} {K : Env → Bx → Prop} (h : K env B) : genVC2 P all es ear fixB j0 fixC i gs [] env B K := h
def genOpVC2 (P : Program) (all : List Oper) (es ear : List Nat) (fixB : Bx) (j0 : Nat) (fixC : Bx) (i : Nat) (gs : List (Nat × Nat)) (o : Oper) (env : Env) (B : Bx) (K' : List (Nat × Nat) → Env → Bx → Prop) : Prop :=
  bif memN i es then effVC P o env B fun t B' => bxSub B' fixB ∧ (bif decide (i < j0) then bxSub B' fixC else True) ∧ FreshOr all i t gs ∧ K' (gsNext i o gs) (putE env o.dst t) B'
  else pureVC P o env (fxOf ear fixB fixC i) fun t => FreshOr all i t gs ∧ K' gs (putE env o.dst t) B
theorem gen2VC_stepN {all os : List Oper} {es ear : List Nat} {fixB : Bx} {j0 : Nat} {fixC : Bx} {i : Nat} {gs : List (Nat × Nat)} {o : Oper} {env : Env} {B : Bx} {K : Env → Bx → Prop} (hg : o.guard = none)
    (h : ∀ K' : List (Nat × Nat) → Env → Bx → Prop, (∀ gs e b, genVC2 P all es ear fixB j0 fixC (i + 1) gs os e b K → K' gs e b) → genOpVC2 P all es ear fixB j0 fixC i gs o env B K') : genVC2 P all es ear fixB j0 fixC i gs (o :: os) env B K :=
  guardT_none hg (h (fun gs e b => genVC2 P all es ear fixB j0 fixC (i + 1) gs os e b K) fun _ _ _ q => q)
theorem gen2VC_stepG {all os : List Oper} {es ear : List Nat} {fixB : Bx} {j0 : Nat} {fixC : Bx} {i : Nat} {gs : List (Nat × Nat)} {o : Oper} {env : Env} {B : Bx} {K : Env → Bx → Prop} {j d : Nat} {want : Bool} (hg : o.guard = some (j, want)) (hd : (all[j]?).bind (·.dst) = some d)
    (h : ∀ K' : List (Nat × Nat) → Env → Bx → Prop, (∀ gs e b, genVC2 P all es ear fixB j0 fixC (i + 1) gs os e b K → K' gs e b) → guardE (env.lookup d) want (genOpVC2 P all es ear fixB j0 fixC i gs o env B K') (K' gs (putE env o.dst undefT) B)) : genVC2 P all es ear fixB j0 fixC i gs (o :: os) env B K :=
  guardT_some hg hd (h (fun gs e b => genVC2 P all es ear fixB j0 fixC (i + 1) gs os e b K) fun _ _ _ q => q)
attribute [go_sem] genOpVC2 fxOf
end Go.Sx
