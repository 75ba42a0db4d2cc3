/- A part of the proof: lemmas about the walk of the program and about plain integers and lists. No conditions beyond those that each lemma states. -/
import Derived.Test.YteobojeemflggaaGreatGv11
import Derived.Test.YteobojeemflggaaGreatGv10
import Derived.Test.YteobojeemflggaaGreatGv13
import Derived.Test.YteobojeemflggaaGreatGv14
import Derived.Test.YteobojeemflggaaGreatGv12
import Derived.Test.YteobojeemflggaaGreatGv6
import Derived.Shelf.SortM.Plain
import Derived.Shelf.SortM.SortNone
import Derived.Shelf.SlicesG.CompactS
import Derived.Test.YteobojeemflggaaGreatGv8
import Derived.Test.YteobojeemflggaaGreatGv9
import Derived.Test.YteobojeemflggaaGreatGv5
import Derived.Test.YteobojeemflggaaGreatProg
set_option linter.unusedSimpArgs false
set_option linter.unusedVariables false
set_option maxRecDepth 20000
set_option maxHeartbeats 16000000
namespace Go.Proofs.YteobojeemflggaaGreat
open Go Go.Sx
open Nat renaming reduceBEq → zA, reduceBNe → zB, reduceAdd → zC, reduceSub → zD, reduceMul → zE, reduceLeDiff → zF, reduceLT → zG, reduceEqDiff → zH
open Int renaming reduceToNat → zI, reduceLE → zJ, reduceLT → zK, reduceEq → zL
open Bool renaming not_eq_true' → zM, not_eq_false' → zN
theorem var_ne2 {s : List UInt8} (h : isVarB s = true) : decide (s = []) = false := by
  cases s with
  | nil => exact absurd h (by decide)
  | cons a l => simp
set_option maxHeartbeats 64000000 in
theorem good_e (g : Grd) (ih : ∀ k ∈ g.kids, PC Tryz.prog 68 [Gt k] (Bo (treeG k))) (hiv : isVarB g.name = true) (hk : g.kind = 11 ∨ g.kind = 12 ∨ g.kind = 13 ∨ g.kind = 14 ∨ g.kind = 15 ∨ g.kind = 16 ∨ g.kind = 17) : PC Tryz.prog 68 [Gt g] (Bo (treeG g)) := by
  have htr := treeG_eq g
  have hz0 : decide ((0 : Int) < (g.kids.length : Int)) = !decide ((g.kids.length : Int) = 0) := by rw [← Bool.coe_iff_coe]; simp only [decide_eq_true_eq, Bool.not_eq_true', decide_eq_false_iff_not]; omega
  have hne := var_ne2 hiv
  rcases hk with hk | hk | hk | hk | hk | hk | hk
  iterate 7
    ·
      refine PCB.of_body Tryz.func68 rfl (by decide) Tryz.ntmps68 Tryz.results68 rfl rfl rfl ?_ rfl rfl
      repeat' (first | (with_reducible refine AWP.join (id := 8) (fun b : Bool => [(7, Bo b)]) (fun _ => []) [1, 3] [1] (fun b => Is (vG g) b) ?_ ?_) | (simp only [go_sem, zA, zB, zC, zD, zE, zF, zG, reduceCtorEq, zH, zI, zJ, zK, zL, encG_eq g, hk, hiv, Int.reduceEq, List.length_map]; all_goals fail_if_success guard_target =ₛ False) | (with_reducible first | ((first | refine seqVC_stepN rfl ?_ | refine seqVC_stepG rfl (by with_unfolding_all rfl) ?_ | refine AWP.seq ?_ | refine AWP.seqR (by kernel_rfl) ?_); intro K hK) | ((first | refine hK _ _ _ ?_ | refine hK _ _ ?_ | refine hK _ ?_); clear hK K) | refine seqVC_nil ?_ | refine AWP.block ?_ | (refine AWP.cond (by with_unfolding_all rfl) ?_ ?_ <;> intro h <;> (try simp only [zM, zN] at h) <;> try exact absurd h (by decide)) | refine AWP.skip ?_ | refine AWP.ret ?_ | refine AWP.exit ?_ | (refine ⟨fun h => ?_, fun h => ?_⟩ <;> (try simp only [zM, zN] at h) <;> try simp only [h]) | refine ⟨_, refIsVariable_c _, ?_⟩ | refine ⟨_, isAtom_c _, ?_⟩ | refine ⟨_, validKey_e _, ?_⟩ | refine Or.inl ?_) | (clear hK K))
      any_goals (refine fin0 ?_; rw [htr]; simp only [vG, badG, bodyG, connG, testG, intG, textG, keyZ, hk, hz0, Int.reduceEq, Int.reduceLE, *, zb, Bool.not_not, cond_true, cond_false, decide_true, decide_false]; done)
      any_goals (refine ⟨_, ?_, Gh.to [] (by repeat (first | exact trivial | refine ⟨rfl, ?_⟩ | refine ⟨by (simp only [go_sem, zA, zB, zC, zD, zE, zF, zG, reduceCtorEq, zH, zI, zJ, zK, zL, List.length_append, List.length_map, List.length_cons, List.length_nil, Nat.zero_add]) <;> rfl, ?_⟩)) (by repeat (first | exact trivial | refine ⟨rfl, ?_⟩ | refine ⟨by (simp only [go_sem, zA, zB, zC, zD, zE, zF, zG, reduceCtorEq, zH, zI, zJ, zK, zL, List.length_append, List.length_map, List.length_cons, List.length_nil, Nat.zero_add]) <;> rfl, ?_⟩)) rfl rfl rfl⟩; unfold Is; simp only [vG, badG, bodyG, connG, testG, intG, textG, keyZ, hk, hz0, Int.reduceEq, Int.reduceLE, *, zb, Bool.not_not, cond_true, cond_false, decide_true, decide_false]; done)
      intro b hvb
      try simp only [go_sem, zA, zB, zC, zD, zE, zF, zG, reduceCtorEq, zH, zI, zJ, zK, zL]
      repeat' (first | (simp only [go_sem, zA, zB, zC, zD, zE, zF, zG, reduceCtorEq, zH, zI, zJ, zK, zL, encG_eq g, List.length_map]; all_goals fail_if_success guard_target =ₛ False) | (with_reducible first | ((first | refine seqVC_stepN rfl ?_ | refine seqVC_stepG rfl (by with_unfolding_all rfl) ?_ | refine AWP.seq ?_ | refine AWP.seqR (by kernel_rfl) ?_); intro K hK) | ((first | refine hK _ _ _ ?_ | refine hK _ _ ?_ | refine hK _ ?_); clear hK K) | refine seqVC_nil ?_ | refine AWP.block ?_ | (refine AWP.cond (by with_unfolding_all rfl) ?_ ?_ <;> intro h <;> (try simp only [zM, zN] at h) <;> try exact absurd h (by decide)) | refine AWP.skip ?_ | refine AWP.ret ?_ | refine AWP.exit ?_ | (refine ⟨fun h => ?_, fun h => ?_⟩ <;> (try simp only [zM, zN] at h) <;> try simp only [h]) | refine Or.inl ?_) | (clear hK K))
      refine AWP.lenB 1 6 rfl rfl fun hlen0 => ?_
      (try rw [List.length_map] at hlen0)
      refine AWP.range (S := Bool) (g.kids) encG (fun k s => (8, I .i64 (k : Nat)) :: [(7, Bo s)]) (fun k s => []) [1, 3] [1] (fun k s => Is s (b && (g.kids.take k).all treeG)) (b) (by simp only [go_sem, zA, zB, zC, zD, zE, zF, zG, reduceCtorEq, zH, zI, zJ, zK, zL, encG_eq]; exact Gh.to [] (by repeat (first | exact trivial | refine ⟨rfl, ?_⟩ | refine ⟨by (simp only [go_sem, zA, zB, zC, zD, zE, zF, zG, reduceCtorEq, zH, zI, zJ, zK, zL, List.length_append, List.length_map, List.length_cons, List.length_nil, Nat.zero_add]) <;> rfl, ?_⟩)) (by repeat (first | exact trivial | refine ⟨rfl, ?_⟩ | refine ⟨by (simp only [go_sem, zA, zB, zC, zD, zE, zF, zG, reduceCtorEq, zH, zI, zJ, zK, zL, List.length_append, List.length_map, List.length_cons, List.length_nil, Nat.zero_add]) <;> rfl, ?_⟩)) rfl rfl rfl) ?_ ?_ ?_
      · simp [Is]
      · intro k s x hlt hx hx' hb hok
        simp only [go_sem, zA, zB, zC, zD, zE, zF, zG, reduceCtorEq, zH, zI, zJ, zK, zL]
        have hix := ih x (List.mem_of_getElem? hx)
        have hat := all_take (p := treeG) hx
        cases s
        ·
          repeat' (first | (simp only [go_sem, zA, zB, zC, zD, zE, zF, zG, reduceCtorEq, zH, zI, zJ, zK, zL, encG_eq g, List.length_map, hb]; all_goals fail_if_success guard_target =ₛ False) | (with_reducible first | ((first | refine seqVC_stepN rfl ?_ | refine seqVC_stepG rfl (by with_unfolding_all rfl) ?_ | refine AWP.seq ?_ | refine AWP.seqR (by kernel_rfl) ?_); intro K hK) | ((first | refine hK _ _ _ ?_ | refine hK _ _ ?_ | refine hK _ ?_); clear hK K) | refine seqVC_nil ?_ | refine AWP.block ?_ | (refine AWP.cond (by with_unfolding_all rfl) ?_ ?_ <;> intro h <;> (try simp only [zM, zN] at h) <;> try exact absurd h (by decide)) | refine AWP.skip ?_ | refine AWP.ret ?_ | refine AWP.exit ?_ | (refine ⟨fun h => ?_, fun h => ?_⟩ <;> (try simp only [zM, zN] at h) <;> try simp only [h]) | refine Or.inl ?_) | (clear hK K))
          all_goals (rw [wrap_succ hlt hlen0])
          all_goals (refine ⟨false, ?_, Gh.to [] (by repeat (first | exact trivial | refine ⟨rfl, ?_⟩ | refine ⟨by (simp only [go_sem, zA, zB, zC, zD, zE, zF, zG, reduceCtorEq, zH, zI, zJ, zK, zL, List.length_append, List.length_map, List.length_cons, List.length_nil, Nat.zero_add]) <;> rfl, ?_⟩)) (by repeat (first | exact trivial | refine ⟨rfl, ?_⟩ | refine ⟨by (simp only [go_sem, zA, zB, zC, zD, zE, zF, zG, reduceCtorEq, zH, zI, zJ, zK, zL, List.length_append, List.length_map, List.length_cons, List.length_nil, Nat.zero_add]) <;> rfl, ?_⟩)) rfl rfl rfl⟩)
          all_goals (show false = _; rw [hat, ← Bool.and_assoc, ← show false = _ from hok]; rfl)
        ·
          repeat' (first | (simp only [go_sem, zA, zB, zC, zD, zE, zF, zG, reduceCtorEq, zH, zI, zJ, zK, zL, encG_eq g, List.length_map, hb]; all_goals fail_if_success guard_target =ₛ False) | (with_reducible first | ((first | refine seqVC_stepN rfl ?_ | refine seqVC_stepG rfl (by with_unfolding_all rfl) ?_ | refine AWP.seq ?_ | refine AWP.seqR (by kernel_rfl) ?_); intro K hK) | ((first | refine hK _ _ _ ?_ | refine hK _ _ ?_ | refine hK _ ?_); clear hK K) | refine seqVC_nil ?_ | refine AWP.block ?_ | (refine AWP.cond (by with_unfolding_all rfl) ?_ ?_ <;> intro h <;> (try simp only [zM, zN] at h) <;> try exact absurd h (by decide)) | refine AWP.skip ?_ | refine AWP.ret ?_ | refine AWP.exit ?_ | (refine ⟨fun h => ?_, fun h => ?_⟩ <;> (try simp only [zM, zN] at h) <;> try simp only [h]) | refine ⟨_, hix, ?_⟩ | refine ⟨by omega, encG x, hx', ?_⟩ | refine Or.inl ?_) | (clear hK K))
          all_goals (rw [wrap_succ hlt hlen0])
          all_goals (refine ⟨treeG x, ?_, Gh.to [] (by repeat (first | exact trivial | refine ⟨rfl, ?_⟩ | refine ⟨by (simp only [go_sem, zA, zB, zC, zD, zE, zF, zG, reduceCtorEq, zH, zI, zJ, zK, zL, List.length_append, List.length_map, List.length_cons, List.length_nil, Nat.zero_add]) <;> rfl, ?_⟩)) (by repeat (first | exact trivial | refine ⟨rfl, ?_⟩ | refine ⟨by (simp only [go_sem, zA, zB, zC, zD, zE, zF, zG, reduceCtorEq, zH, zI, zJ, zK, zL, List.length_append, List.length_map, List.length_cons, List.length_nil, Nat.zero_add]) <;> rfl, ?_⟩)) rfl rfl rfl⟩)
          all_goals (show treeG x = _; rw [hat, ← Bool.and_assoc, ← show true = _ from hok]; rfl)
      · intro s hb hok
        simp only [go_sem, zA, zB, zC, zD, zE, zF, zG, reduceCtorEq, zH, zI, zJ, zK, zL]
        rw [Is, List.take_length] at hok
        repeat' (first | (simp only [go_sem, zA, zB, zC, zD, zE, zF, zG, reduceCtorEq, zH, zI, zJ, zK, zL, encG_eq g, List.length_map, hb]; all_goals fail_if_success guard_target =ₛ False) | (with_reducible first | ((first | refine seqVC_stepN rfl ?_ | refine seqVC_stepG rfl (by with_unfolding_all rfl) ?_ | refine AWP.seq ?_ | refine AWP.seqR (by kernel_rfl) ?_); intro K hK) | ((first | refine hK _ _ _ ?_ | refine hK _ _ ?_ | refine hK _ ?_); clear hK K) | refine seqVC_nil ?_ | refine AWP.block ?_ | (refine AWP.cond (by with_unfolding_all rfl) ?_ ?_ <;> intro h <;> (try simp only [zM, zN] at h) <;> try exact absurd h (by decide)) | refine AWP.skip ?_ | refine AWP.ret ?_ | refine AWP.exit ?_ | (refine ⟨fun h => ?_, fun h => ?_⟩ <;> (try simp only [zM, zN] at h) <;> try simp only [h]) | refine Or.inl ?_) | (clear hK K))
        all_goals (refine fin0 ?_; rw [htr, show vG g = b from hvb, show s = _ from hok])
end Go.Proofs.YteobojeemflggaaGreat
set_option linter.unusedSimpArgs false
set_option linter.unusedVariables false
set_option maxRecDepth 20000
set_option maxHeartbeats 16000000
namespace Go.Proofs.YteobojeemflggaaGreat
open Go Go.Sx
open Nat renaming reduceBEq → zA, reduceBNe → zB, reduceAdd → zC, reduceSub → zD, reduceMul → zE, reduceLeDiff → zF, reduceLT → zG, reduceEqDiff → zH
open Int renaming reduceToNat → zI, reduceLE → zJ, reduceLT → zK, reduceEq → zL
open Bool renaming not_eq_true' → zM, not_eq_false' → zN
set_option maxHeartbeats 64000000 in
theorem good_ofalse (g : Grd) (ih : ∀ k ∈ g.kids, PC Tryz.prog 68 [Gt k] (Bo (treeG k))) (hiv : isVarB g.name = false) (g1 : decide (g.kind = 1) = false) (g2 : decide (g.kind = 2) = false) (g3 : decide (g.kind = 3) = false) (g4 : decide (g.kind = 4) = false) (g5 : decide (g.kind = 5) = false) (g6 : decide (g.kind = 6) = false) (g7 : decide (g.kind = 7) = false) (g8 : decide (g.kind = 8) = false) (g9 : decide (g.kind = 9) = false) (g10 : decide (g.kind = 10) = false) (g11 : decide (g.kind = 11) = false) (g12 : decide (g.kind = 12) = false) (g13 : decide (g.kind = 13) = false) (g14 : decide (g.kind = 14) = false) (g15 : decide (g.kind = 15) = false) (g16 : decide (g.kind = 16) = false) (g17 : decide (g.kind = 17) = false) (ht : testG g.kind = false) : PC Tryz.prog 68 [Gt g] (Bo (treeG g)) := by
  have htr := treeG_eq g
  have hz0 : decide ((0 : Int) < (g.kids.length : Int)) = !decide ((g.kids.length : Int) = 0) := by rw [← Bool.coe_iff_coe]; simp only [decide_eq_true_eq, Bool.not_eq_true', decide_eq_false_iff_not]; omega
  have hr : (decide (1 ≤ g.kind) = false ∧ decide (5 ≤ g.kind) = false ∧ decide (1 ≤ g.kind) = false) ∨ (decide (1 ≤ g.kind) = true ∧ decide (5 ≤ g.kind) = true ∧ decide (g.kind ≤ 17) = false) := by
    simp only [decide_eq_false_iff_not, decide_eq_true_eq] at *
    omega
  rcases hr with ⟨r1, r2, r3⟩ | ⟨r1, r2, r3⟩
  iterate 2
    ·
      refine PCB.of_body Tryz.func68 rfl (by decide) Tryz.ntmps68 Tryz.results68 rfl rfl rfl ?_ rfl rfl
      repeat' (first | (with_reducible refine AWP.join (id := 8) (fun b : Bool => [(7, Bo b)]) (fun _ => []) [1, 3] [1] (fun b => Is (vG g) b) ?_ ?_) | (simp only [go_sem, zA, zB, zC, zD, zE, zF, zG, reduceCtorEq, zH, zI, zJ, zK, zL, encG_eq g, hiv, r1, r2, r3, g1, g2, g3, g4, g5, g6, g7, g8, g9, g10, g11, g12, g13, g14, g15, g16, g17, List.length_map]; all_goals fail_if_success guard_target =ₛ False) | (with_reducible first | ((first | refine seqVC_stepN rfl ?_ | refine seqVC_stepG rfl (by with_unfolding_all rfl) ?_ | refine AWP.seq ?_ | refine AWP.seqR (by kernel_rfl) ?_); intro K hK) | ((first | refine hK _ _ _ ?_ | refine hK _ _ ?_ | refine hK _ ?_); clear hK K) | refine seqVC_nil ?_ | refine AWP.block ?_ | (refine AWP.cond (by with_unfolding_all rfl) ?_ ?_ <;> intro h <;> (try simp only [zM, zN] at h) <;> try exact absurd h (by decide)) | refine AWP.skip ?_ | refine AWP.ret ?_ | refine AWP.exit ?_ | (refine ⟨fun h => ?_, fun h => ?_⟩ <;> (try simp only [zM, zN] at h) <;> try simp only [h]) | refine ⟨_, refIsVariable_c _, ?_⟩ | refine Or.inl ?_) | (clear hK K))
      any_goals (refine fin0 ?_; rw [htr]; simp only [vG, badG, bodyG, connG, testG, intG, textG, keyZ, ht, hz0, Int.reduceEq, Int.reduceLE, *, zb, Bool.not_not, cond_true, cond_false, decide_true, decide_false]; done)
      any_goals (refine ⟨_, ?_, Gh.to [] (by repeat (first | exact trivial | refine ⟨rfl, ?_⟩ | refine ⟨by (simp only [go_sem, zA, zB, zC, zD, zE, zF, zG, reduceCtorEq, zH, zI, zJ, zK, zL, List.length_append, List.length_map, List.length_cons, List.length_nil, Nat.zero_add]) <;> rfl, ?_⟩)) (by repeat (first | exact trivial | refine ⟨rfl, ?_⟩ | refine ⟨by (simp only [go_sem, zA, zB, zC, zD, zE, zF, zG, reduceCtorEq, zH, zI, zJ, zK, zL, List.length_append, List.length_map, List.length_cons, List.length_nil, Nat.zero_add]) <;> rfl, ?_⟩)) rfl rfl rfl⟩; unfold Is; simp only [vG, badG, bodyG, connG, testG, intG, textG, keyZ, ht, hz0, Int.reduceEq, Int.reduceLE, *, zb, Bool.not_not, cond_true, cond_false, decide_true, decide_false]; done)
      intro b hvb
      try simp only [go_sem, zA, zB, zC, zD, zE, zF, zG, reduceCtorEq, zH, zI, zJ, zK, zL]
      repeat' (first | (simp only [go_sem, zA, zB, zC, zD, zE, zF, zG, reduceCtorEq, zH, zI, zJ, zK, zL, encG_eq g, List.length_map]; all_goals fail_if_success guard_target =ₛ False) | (with_reducible first | ((first | refine seqVC_stepN rfl ?_ | refine seqVC_stepG rfl (by with_unfolding_all rfl) ?_ | refine AWP.seq ?_ | refine AWP.seqR (by kernel_rfl) ?_); intro K hK) | ((first | refine hK _ _ _ ?_ | refine hK _ _ ?_ | refine hK _ ?_); clear hK K) | refine seqVC_nil ?_ | refine AWP.block ?_ | (refine AWP.cond (by with_unfolding_all rfl) ?_ ?_ <;> intro h <;> (try simp only [zM, zN] at h) <;> try exact absurd h (by decide)) | refine AWP.skip ?_ | refine AWP.ret ?_ | refine AWP.exit ?_ | (refine ⟨fun h => ?_, fun h => ?_⟩ <;> (try simp only [zM, zN] at h) <;> try simp only [h]) | refine Or.inl ?_) | (clear hK K))
      refine AWP.lenB 1 6 rfl rfl fun hlen0 => ?_
      (try rw [List.length_map] at hlen0)
      refine AWP.range (S := Bool) (g.kids) encG (fun k s => (8, I .i64 (k : Nat)) :: [(7, Bo s)]) (fun k s => []) [1, 3] [1] (fun k s => Is s (b && (g.kids.take k).all treeG)) (b) (by simp only [go_sem, zA, zB, zC, zD, zE, zF, zG, reduceCtorEq, zH, zI, zJ, zK, zL, encG_eq]; exact Gh.to [] (by repeat (first | exact trivial | refine ⟨rfl, ?_⟩ | refine ⟨by (simp only [go_sem, zA, zB, zC, zD, zE, zF, zG, reduceCtorEq, zH, zI, zJ, zK, zL, List.length_append, List.length_map, List.length_cons, List.length_nil, Nat.zero_add]) <;> rfl, ?_⟩)) (by repeat (first | exact trivial | refine ⟨rfl, ?_⟩ | refine ⟨by (simp only [go_sem, zA, zB, zC, zD, zE, zF, zG, reduceCtorEq, zH, zI, zJ, zK, zL, List.length_append, List.length_map, List.length_cons, List.length_nil, Nat.zero_add]) <;> rfl, ?_⟩)) rfl rfl rfl) ?_ ?_ ?_
      · simp [Is]
      · intro k s x hlt hx hx' hb hok
        simp only [go_sem, zA, zB, zC, zD, zE, zF, zG, reduceCtorEq, zH, zI, zJ, zK, zL]
        have hix := ih x (List.mem_of_getElem? hx)
        have hat := all_take (p := treeG) hx
        cases s
        ·
          repeat' (first | (simp only [go_sem, zA, zB, zC, zD, zE, zF, zG, reduceCtorEq, zH, zI, zJ, zK, zL, encG_eq g, List.length_map, hb]; all_goals fail_if_success guard_target =ₛ False) | (with_reducible first | ((first | refine seqVC_stepN rfl ?_ | refine seqVC_stepG rfl (by with_unfolding_all rfl) ?_ | refine AWP.seq ?_ | refine AWP.seqR (by kernel_rfl) ?_); intro K hK) | ((first | refine hK _ _ _ ?_ | refine hK _ _ ?_ | refine hK _ ?_); clear hK K) | refine seqVC_nil ?_ | refine AWP.block ?_ | (refine AWP.cond (by with_unfolding_all rfl) ?_ ?_ <;> intro h <;> (try simp only [zM, zN] at h) <;> try exact absurd h (by decide)) | refine AWP.skip ?_ | refine AWP.ret ?_ | refine AWP.exit ?_ | (refine ⟨fun h => ?_, fun h => ?_⟩ <;> (try simp only [zM, zN] at h) <;> try simp only [h]) | refine Or.inl ?_) | (clear hK K))
          all_goals (rw [wrap_succ hlt hlen0])
          all_goals (refine ⟨false, ?_, Gh.to [] (by repeat (first | exact trivial | refine ⟨rfl, ?_⟩ | refine ⟨by (simp only [go_sem, zA, zB, zC, zD, zE, zF, zG, reduceCtorEq, zH, zI, zJ, zK, zL, List.length_append, List.length_map, List.length_cons, List.length_nil, Nat.zero_add]) <;> rfl, ?_⟩)) (by repeat (first | exact trivial | refine ⟨rfl, ?_⟩ | refine ⟨by (simp only [go_sem, zA, zB, zC, zD, zE, zF, zG, reduceCtorEq, zH, zI, zJ, zK, zL, List.length_append, List.length_map, List.length_cons, List.length_nil, Nat.zero_add]) <;> rfl, ?_⟩)) rfl rfl rfl⟩)
          all_goals (show false = _; rw [hat, ← Bool.and_assoc, ← show false = _ from hok]; rfl)
        ·
          repeat' (first | (simp only [go_sem, zA, zB, zC, zD, zE, zF, zG, reduceCtorEq, zH, zI, zJ, zK, zL, encG_eq g, List.length_map, hb]; all_goals fail_if_success guard_target =ₛ False) | (with_reducible first | ((first | refine seqVC_stepN rfl ?_ | refine seqVC_stepG rfl (by with_unfolding_all rfl) ?_ | refine AWP.seq ?_ | refine AWP.seqR (by kernel_rfl) ?_); intro K hK) | ((first | refine hK _ _ _ ?_ | refine hK _ _ ?_ | refine hK _ ?_); clear hK K) | refine seqVC_nil ?_ | refine AWP.block ?_ | (refine AWP.cond (by with_unfolding_all rfl) ?_ ?_ <;> intro h <;> (try simp only [zM, zN] at h) <;> try exact absurd h (by decide)) | refine AWP.skip ?_ | refine AWP.ret ?_ | refine AWP.exit ?_ | (refine ⟨fun h => ?_, fun h => ?_⟩ <;> (try simp only [zM, zN] at h) <;> try simp only [h]) | refine ⟨_, hix, ?_⟩ | refine ⟨by omega, encG x, hx', ?_⟩ | refine Or.inl ?_) | (clear hK K))
          all_goals (rw [wrap_succ hlt hlen0])
          all_goals (refine ⟨treeG x, ?_, Gh.to [] (by repeat (first | exact trivial | refine ⟨rfl, ?_⟩ | refine ⟨by (simp only [go_sem, zA, zB, zC, zD, zE, zF, zG, reduceCtorEq, zH, zI, zJ, zK, zL, List.length_append, List.length_map, List.length_cons, List.length_nil, Nat.zero_add]) <;> rfl, ?_⟩)) (by repeat (first | exact trivial | refine ⟨rfl, ?_⟩ | refine ⟨by (simp only [go_sem, zA, zB, zC, zD, zE, zF, zG, reduceCtorEq, zH, zI, zJ, zK, zL, List.length_append, List.length_map, List.length_cons, List.length_nil, Nat.zero_add]) <;> rfl, ?_⟩)) rfl rfl rfl⟩)
          all_goals (show treeG x = _; rw [hat, ← Bool.and_assoc, ← show true = _ from hok]; rfl)
      · intro s hb hok
        simp only [go_sem, zA, zB, zC, zD, zE, zF, zG, reduceCtorEq, zH, zI, zJ, zK, zL]
        rw [Is, List.take_length] at hok
        repeat' (first | (simp only [go_sem, zA, zB, zC, zD, zE, zF, zG, reduceCtorEq, zH, zI, zJ, zK, zL, encG_eq g, List.length_map, hb]; all_goals fail_if_success guard_target =ₛ False) | (with_reducible first | ((first | refine seqVC_stepN rfl ?_ | refine seqVC_stepG rfl (by with_unfolding_all rfl) ?_ | refine AWP.seq ?_ | refine AWP.seqR (by kernel_rfl) ?_); intro K hK) | ((first | refine hK _ _ _ ?_ | refine hK _ _ ?_ | refine hK _ ?_); clear hK K) | refine seqVC_nil ?_ | refine AWP.block ?_ | (refine AWP.cond (by with_unfolding_all rfl) ?_ ?_ <;> intro h <;> (try simp only [zM, zN] at h) <;> try exact absurd h (by decide)) | refine AWP.skip ?_ | refine AWP.ret ?_ | refine AWP.exit ?_ | (refine ⟨fun h => ?_, fun h => ?_⟩ <;> (try simp only [zM, zN] at h) <;> try simp only [h]) | refine Or.inl ?_) | (clear hK K))
        all_goals (refine fin0 ?_; rw [htr, show vG g = b from hvb, show s = _ from hok])
set_option maxHeartbeats 64000000 in
theorem good_otrue (g : Grd) (ih : ∀ k ∈ g.kids, PC Tryz.prog 68 [Gt k] (Bo (treeG k))) (hiv : isVarB g.name = true) (g1 : decide (g.kind = 1) = false) (g2 : decide (g.kind = 2) = false) (g3 : decide (g.kind = 3) = false) (g4 : decide (g.kind = 4) = false) (g5 : decide (g.kind = 5) = false) (g6 : decide (g.kind = 6) = false) (g7 : decide (g.kind = 7) = false) (g8 : decide (g.kind = 8) = false) (g9 : decide (g.kind = 9) = false) (g10 : decide (g.kind = 10) = false) (g11 : decide (g.kind = 11) = false) (g12 : decide (g.kind = 12) = false) (g13 : decide (g.kind = 13) = false) (g14 : decide (g.kind = 14) = false) (g15 : decide (g.kind = 15) = false) (g16 : decide (g.kind = 16) = false) (g17 : decide (g.kind = 17) = false) (ht : testG g.kind = false) : PC Tryz.prog 68 [Gt g] (Bo (treeG g)) := by
  have htr := treeG_eq g
  have hz0 : decide ((0 : Int) < (g.kids.length : Int)) = !decide ((g.kids.length : Int) = 0) := by rw [← Bool.coe_iff_coe]; simp only [decide_eq_true_eq, Bool.not_eq_true', decide_eq_false_iff_not]; omega
  have hne := var_ne hiv
  have hr : (decide (1 ≤ g.kind) = false ∧ decide (5 ≤ g.kind) = false ∧ decide (1 ≤ g.kind) = false) ∨ (decide (1 ≤ g.kind) = true ∧ decide (5 ≤ g.kind) = true ∧ decide (g.kind ≤ 17) = false) := by
    simp only [decide_eq_false_iff_not, decide_eq_true_eq] at *
    omega
  rcases hr with ⟨r1, r2, r3⟩ | ⟨r1, r2, r3⟩
  iterate 2
    ·
      refine PCB.of_body Tryz.func68 rfl (by decide) Tryz.ntmps68 Tryz.results68 rfl rfl rfl ?_ rfl rfl
      repeat' (first | (simp only [go_sem, zA, zB, zC, zD, zE, zF, zG, reduceCtorEq, zH, zI, zJ, zK, zL, encG_eq g, hiv, r1, r2, r3, g1, g2, g3, g4, g5, g6, g7, g8, g9, g10, g11, g12, g13, g14, g15, g16, g17, List.length_map]; all_goals fail_if_success guard_target =ₛ False) | (with_reducible first | ((first | refine seqVC_stepN rfl ?_ | refine seqVC_stepG rfl (by with_unfolding_all rfl) ?_ | refine AWP.seq ?_ | refine AWP.seqR (by kernel_rfl) ?_); intro K hK) | ((first | refine hK _ _ _ ?_ | refine hK _ _ ?_ | refine hK _ ?_); clear hK K) | refine seqVC_nil ?_ | refine AWP.block ?_ | (refine AWP.cond (by with_unfolding_all rfl) ?_ ?_ <;> intro h <;> (try simp only [zM, zN] at h) <;> try exact absurd h (by decide)) | refine AWP.skip ?_ | refine AWP.ret ?_ | refine AWP.exit ?_ | (refine ⟨fun h => ?_, fun h => ?_⟩ <;> (try simp only [zM, zN] at h) <;> try simp only [h]) | refine ⟨_, refIsVariable_c _, ?_⟩ | refine Or.inl ?_) | (clear hK K))
      any_goals (refine fin0 ?_; rw [htr]; simp only [vG, badG, bodyG, connG, testG, intG, textG, keyZ, ht, hz0, Int.reduceEq, Int.reduceLE, *, zb, Bool.not_not, cond_true, cond_false, decide_true, decide_false]; done)
end Go.Proofs.YteobojeemflggaaGreat
set_option linter.unusedSimpArgs false
set_option linter.unusedVariables false
set_option maxRecDepth 20000
set_option maxHeartbeats 16000000
namespace Go.Proofs.YteobojeemflggaaGreat
open Go Go.Sx
open Nat renaming reduceBEq → zA, reduceBNe → zB, reduceAdd → zC, reduceSub → zD, reduceMul → zE, reduceLeDiff → zF, reduceLT → zG, reduceEqDiff → zH
open Int renaming reduceToNat → zI, reduceLE → zJ, reduceLT → zK, reduceEq → zL
open Bool renaming not_eq_true' → zM, not_eq_false' → zN
theorem goodGuard_c (g : Grd) : PC Tryz.prog 68 [Gt g] (Bo (treeG g)) := by
  have ih : ∀ k ∈ g.kids, PC Tryz.prog 68 [Gt k] (Bo (treeG k)) := fun k hk => goodGuard_c k
  rcases gkinds g.kind with hk | hk | hk | hk | hk | hk | hk | hk | hk | hk | hk | hk | hk | hk | hk | hk | hk | ⟨g1, g2, g3, g4, g5, g6, g7, g8, g9, g10, g11, g12, g13, g14, g15, g16, g17, ht⟩ <;> cases hiv : isVarB g.name
  all_goals first
    | exact good_a g ih hiv (by omega)
    | exact good_b g ih hiv (by omega)
    | exact good_c g ih hiv (by omega)
    | exact good_d g ih hiv (by omega)
    | exact good_e g ih hiv (by omega)
    | exact good_ofalse g ih hiv g1 g2 g3 g4 g5 g6 g7 g8 g9 g10 g11 g12 g13 g14 g15 g16 g17 ht
    | exact good_otrue g ih hiv g1 g2 g3 g4 g5 g6 g7 g8 g9 g10 g11 g12 g13 g14 g15 g16 g17 ht
termination_by cntG g
decreasing_by all_goals exact cnt_kid hk
def okG (g : Grd) : Bool := !decide ((20 : Int) < (cntG g : Int)) && treeG g
def codeG (g : Grd) : Int := bif decide ((20 : Int) < (cntG g : Int)) then 2 else bif treeG g then 0 else 1
theorem validate_g (g : Grd) (hg : GSm g) : PC Tryz.prog 24 [Gt g] (I .i64 (codeG g)) := by
  have h1 := count_g g hg
  have h2 := validTreeG_c g
  refine PCB.of_body Tryz.func24 rfl (by decide) Tryz.ntmps24 Tryz.results24 rfl rfl rfl ?_ rfl rfl
  cases hz : decide ((20 : Int) < (cntG g : Int)) <;> cases ht : treeG g <;> rw [ht] at h2
  all_goals
    repeat' (first | (simp only [go_sem, zA, zB, zC, zD, zE, zF, zG, reduceCtorEq, zH, zI, zJ, zK, zL, hz]; all_goals fail_if_success guard_target =ₛ False) | (with_reducible first | ((first | refine seqVC_stepN rfl ?_ | refine AWP.seq ?_ | refine AWP.seqR (by kernel_rfl) ?_); intro K hK) | ((first | refine hK _ _ _ ?_ | refine hK _ _ ?_ | refine hK _ ?_); clear hK K) | refine seqVC_nil ?_ | refine AWP.block ?_ | (refine AWP.cond (by with_unfolding_all rfl) ?_ ?_ <;> intro h <;> (try simp only [zM, zN] at h) <;> try exact absurd h (by decide)) | refine AWP.skip ?_ | refine AWP.ret ?_ | refine AWP.exit ?_ | refine ⟨_, h1, ?_⟩ | refine ⟨_, h2, ?_⟩ | refine Or.inl ?_) | (clear hK K))
  all_goals (first | exact fun _ h => (by cases h) | (refine fin0 ?_; first | rfl | (simp only [codeG, hz, ht, zb, cond_true, cond_false, decide_true, decide_false] <;> rfl)))
theorem refValidate_g (g : Grd) (hg : GSm g) : PC Tryz.prog 35 [Gt g] (I .i64 (codeG g)) := by
  have h1 := guards_c g hg
  have h2 := goodGuard_c g
  refine PCB.of_body Tryz.func35 rfl (by decide) Tryz.ntmps35 Tryz.results35 rfl rfl rfl ?_ rfl rfl
  cases hz : decide ((20 : Int) < (cntG g : Int)) <;> cases ht : treeG g <;> rw [ht] at h2
  all_goals
    repeat' (first | (simp only [go_sem, zA, zB, zC, zD, zE, zF, zG, reduceCtorEq, zH, zI, zJ, zK, zL, hz]; all_goals fail_if_success guard_target =ₛ False) | (with_reducible first | ((first | refine seqVC_stepN rfl ?_ | refine AWP.seq ?_ | refine AWP.seqR (by kernel_rfl) ?_); intro K hK) | ((first | refine hK _ _ _ ?_ | refine hK _ _ ?_ | refine hK _ ?_); clear hK K) | refine seqVC_nil ?_ | refine AWP.block ?_ | (refine AWP.cond (by with_unfolding_all rfl) ?_ ?_ <;> intro h <;> (try simp only [zM, zN] at h) <;> try exact absurd h (by decide)) | refine AWP.skip ?_ | refine AWP.ret ?_ | refine AWP.exit ?_ | refine ⟨_, h1, ?_⟩ | refine ⟨_, h2, ?_⟩ | refine Or.inl ?_) | (clear hK K))
  all_goals (first | exact fun _ h => (by cases h) | (refine fin0 ?_; first | rfl | (simp only [codeG, hz, ht, zb, cond_true, cond_false, decide_true, decide_false] <;> rfl)))
def trueG : Grd := ⟨1, [], 0, [], ⟨0, []⟩, []⟩
def soundG (g : Grd) : Grd := bif okG g then g else trueG
theorem trueG_lit : Gt trueG = .st [.int .i64 1, .str [], .int .i64 0, .str [], .int .i64 0, .str [], .sl 7 []] := by rw [Gt, encG_eq]; rfl
theorem code_ok (g : Grd) : decide (codeG g = 0) = okG g := by
  unfold codeG okG
  cases decide ((20 : Int) < (cntG g : Int)) <;> cases treeG g <;> rfl
theorem sound_c (g : Grd) (hg : GSm g) : PC Tryz.prog 34 [Gt g] (Gt (soundG g)) := by
  have h1 := validate_g g hg
  have hc := code_ok g
  unfold soundG
  refine PCB.of_body Tryz.func34 rfl (by decide) Tryz.ntmps34 Tryz.results34 rfl rfl rfl ?_ rfl rfl
  cases hz : okG g <;> rw [hz] at hc
  all_goals
    repeat' (first | (simp only [go_sem, zA, zB, zC, zD, zE, zF, zG, reduceCtorEq, zH, zI, zJ, zK, zL, hc]; all_goals fail_if_success guard_target =ₛ False) | (with_reducible first | ((first | refine seqVC_stepN rfl ?_ | refine AWP.seq ?_ | refine AWP.seqR (by kernel_rfl) ?_); intro K hK) | ((first | refine hK _ _ _ ?_ | refine hK _ _ ?_ | refine hK _ ?_); clear hK K) | refine seqVC_nil ?_ | refine AWP.block ?_ | (refine AWP.cond (by with_unfolding_all rfl) ?_ ?_ <;> intro h <;> (try simp only [zM, zN] at h) <;> try exact absurd h (by decide)) | refine AWP.skip ?_ | refine AWP.ret ?_ | refine AWP.exit ?_ | refine ⟨_, h1, ?_⟩ | refine Or.inl ?_) | (clear hK K))
  all_goals (first | exact fun _ h => (by cases h) | refine fin0 ?_)
  all_goals (simp only [cond_true, cond_false, trueG_lit]; try rfl)
def evW (ns : List (List UInt8)) (vs : List Val) (g : Grd) : Bool := bif okG g then evG ns vs g else true
theorem ok_tree {g : Grd} (h : okG g = true) : treeG g = true := by unfold okG at h; rw [Bool.and_eq_true] at h; exact h.2
theorem true_tree : treeG trueG = true := by rw [treeG_eq]; rfl
theorem sound_tree (g : Grd) : treeG (soundG g) = true := by
  unfold soundG
  cases hz : okG g
  · exact true_tree
  · exact ok_tree hz
theorem evW_sound (ns : List (List UInt8)) (vs : List Val) (g : Grd) : evG ns vs (soundG g) = evW ns vs g := by
  unfold soundG evW
  cases okG g
  · rw [cond_false, cond_false, evG_eq]; rfl
  · rfl
theorem Evaluate_c (ns : List (List UInt8)) (vs : List Val) (hvs : ∀ v ∈ vs, Sm v) (g : Grd) (hg : GSm g) : PC Tryz.prog 12 [Gt g, Ns ns, Vs vs] (Bo (evW ns vs g)) := by
  have h1 := sound_c g hg
  have h2 := evaluate_c ns vs hvs (soundG g) (sound_tree g)
  rw [evW_sound] at h2
  refine PCB.of_body Tryz.func12 rfl (by decide) Tryz.ntmps12 Tryz.results12 rfl rfl rfl ?_ rfl rfl
  repeat' (first | (simp only [go_sem, zA, zB, zC, zD, zE, zF, zG, reduceCtorEq, zH, zI, zJ, zK, zL]; all_goals fail_if_success guard_target =ₛ False) | (with_reducible first | ((first | refine seqVC_stepN rfl ?_ | refine AWP.seq ?_ | refine AWP.seqR (by kernel_rfl) ?_); intro K hK) | ((first | refine hK _ _ _ ?_ | refine hK _ _ ?_ | refine hK _ ?_); clear hK K) | refine seqVC_nil ?_ | refine AWP.block ?_ | (refine AWP.cond (by with_unfolding_all rfl) ?_ ?_ <;> intro h <;> (try simp only [zM, zN] at h) <;> try exact absurd h (by decide)) | refine AWP.skip ?_ | refine AWP.ret ?_ | refine AWP.exit ?_ | refine ⟨_, h1, ?_⟩ | refine ⟨_, h2, ?_⟩ | refine Or.inl ?_) | (clear hK K))
  all_goals (first | exact fun _ h => (by cases h) | (refine fin0 ?_; first | rfl | (simp only [zb, cond_true, cond_false, decide_true, decide_false] <;> rfl)))
end Go.Proofs.YteobojeemflggaaGreat
set_option linter.unusedVariables false
set_option linter.unusedSimpArgs false
namespace Go.Sx
open Go.Proofs Go.Sort
variable {P : Program}
theorem repRows_str {M : Mem} : ∀ {l : List (List UInt8)} {vs : List Value}, repRows M 1 (l.map Sx.encStr) vs ↔ vs = l.map Go.Proofs.encStr
  | [], vs => by simp [repRows]
  | x :: l, vs => by
    simp only [List.map_cons, repRows, repRows_str (l := l)]
    constructor
    · rintro ⟨v1, v2, e, _, h1, h2⟩
      simp only [Sx.encStr, repRow, C.rep] at h1
      obtain ⟨v, vs', e1, e2, e3⟩ := h1
      subst e1; subst e2; subst e3; subst h2
      exact e
    · intro e
      refine ⟨[Go.Proofs.encStr x], _, e, rfl, ?_, rfl⟩
      simp only [Sx.encStr, repRow, C.rep]
      exact ⟨_, [], rfl, rfl, rfl⟩
theorem onCells_atS {w : World} {b : Nat} {c : Array Value} {et : TypeId} {fz : Nat × Nat} (f : Array Value → Array Value) (h : w.heap[b]? = some (.cells c et fz)) : (mapBlock w b f).heap[b]? = some (.cells (f c) et fz) := by
  unfold mapBlock
  simp [Array.getElem?_modify, h, onCells]
theorem onCells_otherS {w : World} {b i : Nat} (f : Array Value → Array Value) (h : i ≠ b) : (mapBlock w b f).heap[i]? = w.heap[i]? := by
  unfold mapBlock
  simp [Array.getElem?_modify, Ne.symm h]
/-- a function that turns a row of strings -/
theorem str_row_c {f : FuncId} (hent : Ent P f) (l l' tail : List (List UInt8)) (hlen : l'.length + tail.length = l.length) (r : T) (R : Option Addr → Nat → Value)
    (hrep : ∀ M ν, r.rep M ν (R ((ν pin).blk.map fun b => ⟨b, 0, none⟩) (ν pin).cap))
    (hcall : ∀ b cap w, Holds Go.Proofs.encStr w b 0 l.toArray → b < w.heap.size → l.length ≤ cap → cap ≤ maxLen →
      Calls P f #[.slice (some ⟨b, 0, none⟩) l.length cap] w fun e w' => e = .returned (R (some ⟨b, 0, none⟩) cap) ∧ ∃ n os, w' = grow (putRow Go.Proofs.encStr (Sort.ahead w n) b 0 (l' ++ tail).toArray) os)
    (hnone : l = [] → ∀ cap w, Calls P f #[.slice none 0 cap] w fun e w' => e = .returned (R none cap) ∧ w' = w) :
    PCB P f [.one (.own pin l.length)] [(pin, .row 1 (l.map Sx.encStr))] r [(pin, .row 1 (l'.map Sx.encStr))] := by
  refine ⟨hent, ?_⟩
  intro M ν w vs hs hreps
  simp only [T.reps, T.rep, Cell.rep] at hreps
  obtain ⟨v1, vs1, rfl, rfl, rfl⟩ := hreps
  have hr := hs.res pin (.row 1 (l.map Sx.encStr)) (by simp)
  simp only [Res.ok, List.length_map] at hr
  obtain ⟨hc1, hc2, hr⟩ := hr
  have hrp := hrep M ν
  rcases hr with ⟨hn, hc0⟩ | ⟨b, c, et, mid, post, hb, hheap, htl, hrows, hcs⟩
  · have hl0 : l = [] := List.length_eq_zero_iff.1 (by omega)
    have hl1 : l' = [] := List.length_eq_zero_iff.1 (by rw [hl0] at hlen; simp at hlen; exact List.length_eq_zero_iff.2 hlen.1)
    have := hnone hl0 (ν pin).cap w
    rw [hl0] at hs ⊢
    rw [hl1]
    rw [hn] at hrp ⊢
    refine Calls.mono this ?_
    rintro e w' ⟨rfl, rfl⟩
    exact ⟨_, M, rfl, Mem.ext.refl _ M, hrp, hs⟩
  · have hrow : mid = l.map Go.Proofs.encStr := repRows_str.1 hrows
    have hblt : b < w.heap.size := (Array.getElem?_eq_some_iff.1 hheap).1
    have hH : Holds Go.Proofs.encStr w b 0 l.toArray := by
      intro j hj
      have hj1 : j < l.length := by simpa using hj
      have hj2 : j < mid.length := by rw [hrow]; simpa using hj1
      refine ⟨?_, by simp [World.frozen?, hheap]⟩
      simp only [World.cell?, hheap, Nat.zero_add, Option.isSome_none, Bool.false_eq_true, if_false]
      rw [← Array.getElem?_toList, htl, List.getElem?_append_left hj2, hrow, List.getElem?_map, List.getElem?_eq_getElem hj1]
      simp [hj1]
    have hcl := hcall b (ν pin).cap w hH hblt hc1 hc2
    rw [hb] at hrp ⊢
    refine Calls.mono hcl ?_
    rintro e w' ⟨rfl, n, os, rfl⟩
    have hDne : ∀ i, i < w.heap.size → i ≠ b → (grow (putRow Go.Proofs.encStr (Sort.ahead w n) b 0 (l' ++ tail).toArray) os).heap[i]? = w.heap[i]? := by
      intro i hi hne
      rw [heap_grow_old _ _ (by show i < (mapBlock _ _ _).heap.size; simp [mapBlock, ahead]; exact hi)]
      exact onCells_otherS _ hne
    have hDb : (grow (putRow Go.Proofs.encStr (Sort.ahead w n) b 0 (l' ++ tail).toArray) os).heap[b]? = some (.cells (putCells Go.Proofs.encStr 0 (l' ++ tail).toArray c) et (0, 0)) := by
      rw [heap_grow_old _ _ (by show b < (mapBlock _ _ _).heap.size; simp [mapBlock, ahead]; exact hblt)]
      exact onCells_atS _ hheap
    have hnew : (putCells Go.Proofs.encStr 0 (l' ++ tail).toArray c).toList = l'.map Go.Proofs.encStr ++ (tail.map Go.Proofs.encStr ++ post) := by
      rw [← List.append_assoc, ← List.map_append]
      have hfs : ((l' ++ tail).map Go.Proofs.encStr).length = mid.length := by rw [hrow]; simp [hlen]
      apply List.ext_getElem?
      intro t
      rw [Array.getElem?_toList]
      unfold putCells
      rw [Array.getElem?_mapIdx]
      have hsz : (l' ++ tail).toArray.size = mid.length := by rw [hrow]; simp [hlen]
      by_cases ht : t < mid.length
      · rw [List.getElem?_append_left (by rw [hfs]; exact ht)]
        have hct : t < c.size := by rw [← Array.length_toList, htl, List.length_append]; omega
        have hta : t < (l' ++ tail).length := by rw [← List.size_toArray, hsz]; exact ht
        rw [Array.getElem?_eq_getElem hct, Option.map_some, if_pos ⟨Nat.zero_le _, by omega⟩, Nat.sub_zero, List.getElem?_map, List.getElem?_eq_getElem hta, getElem!_pos _ t (by simpa using hta)]
        simp
      · rw [List.getElem?_append_right (by rw [hfs]; omega), hfs]
        have : c[t]? = post[t - mid.length]? := by rw [← Array.getElem?_toList, htl, List.getElem?_append_right (by omega)]
        rw [this]
        cases post[t - mid.length]? with
        | none => rfl
        | some y => rw [Option.map_some, if_neg (by omega)]
    have haway := hs.away pin (.row 1 (l.map Sx.encStr)) b (by simp) hb
    have hDin : boxBlocks [(pin, Res.row 1 (l.map Sx.encStr))] ν b := ⟨pin, .row 1 (l.map Sx.encStr), by simp, hb⟩
    refine ⟨_, M, rfl, Mem.ext.refl _ M, hrp, ⟨rfl, rfl, rfl, ?_, ?_, ?_, ?_, ?_, ?_, ?_, by simp⟩⟩
    · show w.drawn ≤ w.drawn + n; omega
    · show w.heap.size ≤ (grow (putRow Go.Proofs.encStr (Sort.ahead w n) b 0 (l' ++ tail).toArray) os).heap.size
      simp [grow, putRow, mapBlock, ahead]
    · intro i hi hD
      exact hDne i hi (fun e => hD (by rw [e]; exact hDin))
    · intro i o ho
      have h1 := hs.fro i o ho
      have hi : i < w.heap.size := (Array.getElem?_eq_some_iff.1 h1).1
      have hne : i ≠ b := by intro e; subst e; rw [haway.1] at ho; cases ho
      rw [hDne i hi hne]; exact h1
    · intro j r hm
      simp only [List.mem_singleton, Prod.mk.injEq] at hm
      obtain ⟨rfl, rfl⟩ := hm
      simp only [Res.ok, List.length_map]
      refine ⟨by omega, hc2, .inr ⟨b, _, et, l'.map Go.Proofs.encStr, _, hb, hDb, hnew, repRows_str.2 rfl, ?_⟩⟩
      rw [← hcs]; simp [putCells]
    · intro j r i hm hi
      simp only [List.mem_singleton, Prod.mk.injEq] at hm
      obtain ⟨rfl, rfl⟩ := hm
      exact hs.away pin (.row 1 (l.map Sx.encStr)) i (by simp) hi
    · intro j r j' r' i hm hm' _ _
      simp only [List.mem_singleton, Prod.mk.injEq] at hm hm'
      rw [hm.1, hm'.1]
theorem sortStr_c {ρ : Go.Shelf.Ren} (L : SlLaysM.n6 P ρ) (l : List (List UInt8)) (hsz : l.length < 4611686018427387904) :
    PCB P (ρ.f 6) [.one (.own pin l.length)] [(pin, .row 1 (l.map Sx.encStr))] (.tup []) [(pin, .row 1 ((l.mergeSort fun x y => decide (x ≤ y)).map Sx.encStr))] := by
  have hent : Ent P (ρ.f 6) := by
    obtain ⟨nm, hn, hf⟩ := L.f6
    exact ⟨_, hf, hn, rfl⟩
  refine str_row_c hent l _ [] (by simp [List.length_mergeSort]) _ (fun _ _ => .tuple #[]) (fun M ν => by simp [T.rep, T.reps]) (fun b cap w hH hb _ _ => ?_) (fun hl cap w => ?_)
  · rw [List.append_nil]
    exact AnyM.slices_Sort_string L b 0 cap l w hH hb hsz
  · exact AnyM.slices_Sort_string_none L none cap w
theorem comp_len (zs : List (List UInt8)) : (Lib.compact zs).length ≤ zs.length := by
  unfold Lib.compact Lib.compactUpTo
  rw [List.length_map]
  exact Nat.le_trans (List.length_filter_le _ _) (by simp)
theorem compactStr_c {ρ : Go.Shelf.Ren} (L : SlLaysN.n44 P ρ) (l : List (List UInt8)) :
    PCB P (ρ.f 44) [.one (.own pin l.length)] [(pin, .row 1 (l.map Sx.encStr))] (.one (.own pin (Lib.compact l).length)) [(pin, .row 1 ((Lib.compact l).map Sx.encStr))] := by
  have hent : Ent P (ρ.f 44) := by
    obtain ⟨nm, hn, hf⟩ := L.f44
    exact ⟨_, hf, hn, rfl⟩
  have hle := comp_len l
  refine str_row_c hent l _ (List.replicate (l.length - (Lib.compact l).length) []) (by simp; omega) _ (fun a cap => .slice a (Lib.compact l).length cap) (fun M ν => by simp only [T.rep, Cell.rep]) (fun b cap w hH hb hc hm => ?_) (fun hl cap w => ?_)
  · refine Calls.mono (AnyG.slices_Compact_string L b 0 cap l w hH (Nat.le_trans hc hm) hc) ?_
    rintro e w' ⟨rfl, q, rfl⟩
    exact ⟨rfl, q, #[], by simp⟩
  · subst hl
    exact AnyG.slices_Compact_string_empty L none cap w
theorem PCBk.own1 {f : FuncId} {sz : Nat} {rows rows' : List (List C)} {m : Nat} (k : Nat) (h : PCB P f [.one (.own pin m)] [(pin, .row sz rows)] (.tup []) [(pin, .row sz rows')]) :
    PCBk P f [.one (.own k m)] k (.row sz rows) (.tup []) (.row sz rows') := PCBk.mk k h
theorem PCBk.own2 {f : FuncId} {sz : Nat} {rows rows' : List (List C)} {m m' : Nat} (k : Nat) (h : PCB P f [.one (.own pin m)] [(pin, .row sz rows)] (.one (.own pin m')) [(pin, .row sz rows')]) :
    PCBk P f [.one (.own k m)] k (.row sz rows) (.one (.own k m')) (.row sz rows') := PCBk.mk k h
end Go.Sx
set_option linter.unusedVariables false
namespace Go.Proofs.YteobojeemflggaaGreat
open Go Go.Sx
theorem less_eq (x y : List UInt8) : Op.bytesLess x y = decide (x < y) := Go.Proofs.bytesLess_eq x y
theorem strict_ext : ∀ a b : List (List UInt8), a.Pairwise (· < ·) → b.Pairwise (· < ·) → (∀ x, x ∈ a ↔ x ∈ b) → a = b
  | [], b, _, _, h => by
    cases b with
    | nil => rfl
    | cons y b => have := (h y).2 (by simp); simp at this
  | x :: a, [], _, _, h => by have := (h x).1 (by simp); simp at this
  | x :: a, y :: b, ha, hb, h => by
    rw [List.pairwise_cons] at ha hb
    have hxy : x = y := by
      rcases List.mem_cons.1 ((h x).1 (by simp)) with e | h1
      · exact e
      · rcases List.mem_cons.1 ((h y).2 (by simp)) with e | h2
        · exact e.symm
        · exact absurd (hb.1 x h1) (List.lt_asymm (ha.1 y h2))
    subst hxy
    congr 1
    refine strict_ext a b ha.2 hb.2 fun z => ⟨fun hz => ?_, fun hz => ?_⟩
    · rcases List.mem_cons.1 ((h z).1 (List.mem_cons_of_mem _ hz)) with e | hz'
      · subst e; exact absurd (ha.1 z hz) (List.lt_irrefl z)
      · exact hz'
    · rcases List.mem_cons.1 ((h z).2 (List.mem_cons_of_mem _ hz)) with e | hz'
      · subst e; exact absurd (hb.1 z hz) (List.lt_irrefl z)
      · exact hz'
theorem tw_all {α : Type} (p : α → Bool) : ∀ l : List α, ∀ x ∈ l.take (tw p l), p x = true
  | [], x, h => by simp [tw] at h
  | y :: l, x, h => by
    simp only [tw] at h
    cases hp : p y
    · rw [hp] at h; simp at h
    · rw [hp, cond_true, Nat.add_comm, List.take_succ_cons] at h
      rcases List.mem_cons.1 h with rfl | h
      · exact hp
      · exact tw_all p l x h
theorem tw_next {α : Type} (p : α → Bool) : ∀ (l : List α) (y : α), l[tw p l]? = some y → p y = false
  | [], y, h => by simp at h
  | z :: l, y, h => by
    simp only [tw] at h
    cases hp : p z
    · rw [hp] at h; simp at h; subst h; exact hp
    · rw [hp, cond_true, Nat.add_comm, List.getElem?_cons_succ] at h
      exact tw_next p l y h
theorem ins_mem (s : List (List UInt8)) (x z : List UInt8) : z ∈ insS s x ↔ z = x ∨ z ∈ s := by
  unfold insS
  cases h : decide (s[tw (fun y => Op.bytesLess y x) s]? = some x) <;> simp only [cond_true, cond_false]
  · unfold putAt
    have : z ∈ s ↔ z ∈ s.take (tw (fun y => Op.bytesLess y x) s) ∨ z ∈ s.drop (tw (fun y => Op.bytesLess y x) s) := by rw [← List.mem_append, List.take_append_drop]
    rw [List.mem_append, List.mem_append, this]
    simp only [List.mem_singleton]
    constructor
    · rintro ((h | h) | h)
      · exact .inr (.inl h)
      · exact .inl h
      · exact .inr (.inr h)
    · rintro (h | h | h)
      · exact .inl (.inr h)
      · exact .inl (.inl h)
      · exact .inr h
  · have hm : x ∈ s := List.mem_of_getElem? (of_decide_eq_true h)
    constructor
    · exact .inr
    · rintro (rfl | h)
      · exact hm
      · exact h
theorem ins_strict (s : List (List UInt8)) (x : List UInt8) (hs : s.Pairwise (· < ·)) : (insS s x).Pairwise (· < ·) := by
  unfold insS
  cases h : decide (s[tw (fun y => Op.bytesLess y x) s]? = some x) <;> simp only [cond_true, cond_false]
  · have ht := tw_all (fun y => Op.bytesLess y x) s
    have hn := tw_next (fun y => Op.bytesLess y x) s
    generalize tw (fun y => Op.bytesLess y x) s = k at *
    have hsp : (s.take k ++ s.drop k).Pairwise (· < ·) := by rw [List.take_append_drop]; exact hs
    rw [List.pairwise_append] at hsp
    obtain ⟨h1, h2, h3⟩ := hsp
    have hx1 : ∀ y ∈ s.take k, y < x := fun y hy => by have := ht y hy; rw [less_eq] at this; exact of_decide_eq_true this
    have hx2 : ∀ y ∈ s.drop k, x < y := by
      cases hd : s.drop k with
      | nil => intro y hy; cases hy
      | cons z t =>
        have hz : s[k]? = some z := by
          have := List.getElem?_drop (xs := s) (i := k) (j := 0)
          rw [hd] at this; simpa using this.symm
        have hzx : ¬ z < x := by have := hn z hz; rw [less_eq] at this; exact of_decide_eq_false this
        have hne : z ≠ x := by intro e; subst e; rw [hz] at h; simp at h
        have hxz : x < z := by
          rcases Classical.em (x < z) with hq | hq
          · exact hq
          · exact absurd (List.le_antisymm (List.not_lt.1 hq) (List.not_lt.1 hzx)) hne
        rw [hd, List.pairwise_cons] at h2
        intro y hy
        rcases List.mem_cons.1 hy with rfl | hy
        · exact hxz
        · exact List.lt_trans hxz (h2.1 y hy)
    unfold putAt
    rw [List.append_assoc, List.pairwise_append]
    refine ⟨h1, ?_, ?_⟩
    · rw [List.singleton_append, List.pairwise_cons]
      exact ⟨hx2, h2⟩
    · intro a ha b hb
      rw [List.singleton_append] at hb
      rcases List.mem_cons.1 hb with rfl | hb
      · exact hx1 a ha
      · exact h3 a ha b hb
  · exact hs
theorem sortedV_spec (l : List (List UInt8)) : (sortedV l).Pairwise (· < ·) ∧ ∀ z, z ∈ sortedV l ↔ z ∈ l := by
  have : ∀ (l s : List (List UInt8)), s.Pairwise (· < ·) → (l.foldl insS s).Pairwise (· < ·) ∧ ∀ z, z ∈ l.foldl insS s ↔ z ∈ s ∨ z ∈ l := by
    intro l
    induction l with
    | nil => intro s hs; exact ⟨hs, fun z => by simp⟩
    | cons x l ih =>
      intro s hs
      obtain ⟨h1, h2⟩ := ih (insS s x) (ins_strict s x hs)
      refine ⟨h1, fun z => ?_⟩
      rw [List.foldl_cons, h2, ins_mem]
      simp only [List.mem_cons]
      constructor
      · rintro ((h | h) | h)
        · exact .inr (.inl h)
        · exact .inl h
        · exact .inr (.inr h)
      · rintro (h | h | h)
        · exact .inl (.inr h)
        · exact .inl (.inl h)
        · exact .inr h
  obtain ⟨h1, h2⟩ := this l [] List.Pairwise.nil
  exact ⟨h1, fun z => by unfold sortedV; rw [h2]; simp⟩
theorem compact_spec (d : Array (List UInt8)) (hd : ∀ i j, i < j → j < d.size → d[i]! ≤ d[j]!) : ∀ m, m ≤ d.size →
    (Lib.compactUpTo d m).Pairwise (· < ·) ∧ (∀ z, z ∈ Lib.compactUpTo d m ↔ ∃ j, j < m ∧ d[j]! = z) := by
  intro m
  induction m with
  | zero => intro _; exact ⟨by simp [Lib.compactUpTo], fun z => by simp [Lib.compactUpTo]⟩
  | succ m ih =>
    intro hm
    obtain ⟨h1, h2⟩ := ih (by omega)
    rw [Lib.compactUpTo_succ]
    by_cases hk : Lib.keeps d m = true
    · rw [if_pos hk]
      refine ⟨?_, fun z => ?_⟩
      · rw [List.pairwise_append]
        refine ⟨h1, by simp, fun a ha b hb => ?_⟩
        simp only [List.mem_singleton] at hb
        subst hb
        obtain ⟨j, hj, rfl⟩ := (h2 a).1 ha
        have hm0 : m ≠ 0 := by omega
        have hne : d[m]! ≠ d[m - 1]! := by
          unfold Lib.keeps at hk
          rcases of_decide_eq_true hk with h | h
          · exact absurd h hm0
          · exact h
        have hle : d[m - 1]! ≤ d[m]! := hd (m - 1) m (by omega) (by omega)
        have hlt : d[m - 1]! < d[m]! := by
          rcases Classical.em (d[m - 1]! < d[m]!) with hq | hq
          · exact hq
          · exact absurd (List.le_antisymm (List.not_lt.1 hq) hle) hne
        rcases Nat.lt_or_ge j (m - 1) with hj2 | hj2
        · have h3 := hd j (m - 1) hj2 (by omega)
          rcases Classical.em (d[j]! < d[m]!) with hq | hq
          · exact hq
          · exact absurd (List.le_trans (List.not_lt.1 hq) h3) (List.not_le.2 hlt)
        · have : j = m - 1 := by omega
          rw [this]; exact hlt
      · rw [List.mem_append, h2]
        simp only [List.mem_singleton]
        constructor
        · rintro (⟨j, hj, rfl⟩ | rfl)
          · exact ⟨j, by omega, rfl⟩
          · exact ⟨m, by omega, rfl⟩
        · rintro ⟨j, hj, rfl⟩
          rcases Nat.lt_or_ge j m with h | h
          · exact .inl ⟨j, h, rfl⟩
          · have : j = m := by omega
            rw [this]; exact .inr rfl
    · rw [if_neg hk, List.append_nil]
      refine ⟨h1, fun z => ?_⟩
      rw [h2]
      constructor
      · rintro ⟨j, hj, rfl⟩; exact ⟨j, by omega, rfl⟩
      · rintro ⟨j, hj, rfl⟩
        rcases Nat.lt_or_ge j m with h | h
        · exact ⟨j, h, rfl⟩
        · have e : j = m := by omega
          subst e
          have hkn : ¬ (j = 0 ∨ d[j]! ≠ d[j - 1]!) := fun hh => hk (decide_eq_true hh)
          have h0 : j ≠ 0 := fun hh => hkn (.inl hh)
          have he : d[j]! = d[j - 1]! := Classical.byContradiction fun hh => hkn (.inr hh)
          exact ⟨j - 1, by omega, he.symm⟩
theorem compact_sort (l : List (List UInt8)) : Lib.compact (l.mergeSort fun x y => decide (x ≤ y)) = sortedV l := by
  have hsort := List.pairwise_mergeSort (le := fun x y : List UInt8 => decide (x ≤ y)) (fun a b c h k => by
      simp only [decide_eq_true_eq] at *; exact List.le_trans h k) (fun a b => by
      simp only [Bool.or_eq_true, decide_eq_true_eq]; exact List.le_total a b) l
  have hperm := List.mergeSort_perm l (fun x y => decide (x ≤ y))
  generalize l.mergeSort (fun x y => decide (x ≤ y)) = s at *
  have hd : ∀ i j, i < j → j < s.toArray.size → s.toArray[i]! ≤ s.toArray[j]! := by
    intro i j hij hj
    have hj' : j < s.length := by simpa using hj
    have := List.pairwise_iff_getElem.1 hsort i j (by omega) hj' hij
    rw [getElem!_pos _ i (by simp; omega), getElem!_pos _ j hj]
    simpa using this
  obtain ⟨h1, h2⟩ := compact_spec s.toArray hd s.length (by simp)
  obtain ⟨h3, h4⟩ := sortedV_spec l
  refine strict_ext _ _ h1 h3 fun z => ?_
  show z ∈ Lib.compactUpTo s.toArray s.length ↔ _
  rw [h2, h4, ← hperm.mem_iff]
  constructor
  · rintro ⟨j, hj, rfl⟩
    rw [getElem!_pos _ j (by simpa using hj)]
    simp
  · intro hz
    obtain ⟨j, hj, rfl⟩ := List.mem_iff_getElem.1 hz
    exact ⟨j, hj, by rw [getElem!_pos _ j (by simpa using hj)]; simp⟩
theorem flat_congr {α β : Type} {f g : α → List β} : ∀ l : List α, (∀ k ∈ l, f k = g k) → l.flatMap f = l.flatMap g
  | [], _ => rfl
  | x :: l, h => by rw [List.flatMap_cons, List.flatMap_cons, h x (by simp), flat_congr l fun k hk => h k (List.mem_cons_of_mem _ hk)]
/-- the names of a valid guard -/
theorem coll_tst : ∀ g : Grd, treeG g = true → collG g = tstG g
  | ⟨kind, name, num, text, key, kids⟩, h => by
    have hv := tree_v h
    have ih : ∀ k ∈ kids, collG k = tstG k := fun k hk => coll_tst k (tree_kid h hk)
    rw [collG_eq, tstG_eq]
    have h1 : testG kind = !decide (name = []) := by
      unfold vG at hv
      simp only [Bool.and_eq_true, Bool.not_eq_true'] at hv
      cases ht : testG kind
      · have := hv.1
        unfold badG at this
        simp only [ht, Bool.not_false, Bool.true_and, Bool.or_eq_false_iff] at this
        rw [this.2.1]
      · have hb := hv.2
        unfold bodyG testG at *
        simp only [Bool.and_eq_true, decide_eq_true_eq] at ht
        have n1 : decide (kind = 1) = false := by simp; omega
        have n2 : decide (kind = 2) = false := by simp; omega
        have n3 : decide (kind = 3) = false := by simp; omega
        have n4 : decide (kind = 4) = false := by simp; omega
        simp only [n1, n2, n3, n4, cond_false, Bool.or_false, Bool.and_eq_true] at hb
        have := hb.2.1
        cases name with
        | nil => exact absurd this (by decide)
        | cons a l => simp
    rw [h1]
    congr 1
    exact flat_congr kids ih
termination_by g => cntG g
decreasing_by exact cnt_kid (g := ⟨kind, name, num, text, key, kids⟩) hk
end Go.Proofs.YteobojeemflggaaGreat
set_option linter.unusedSimpArgs false
set_option linter.unusedVariables false
set_option maxRecDepth 20000
set_option maxHeartbeats 16000000
namespace Go.Proofs.YteobojeemflggaaGreat
open Go Go.Sx
open Nat renaming reduceBEq → zA, reduceBNe → zB, reduceAdd → zC, reduceSub → zD, reduceMul → zE, reduceLeDiff → zF, reduceLT → zG, reduceEqDiff → zH
open Int renaming reduceToNat → zI, reduceLE → zJ, reduceLT → zK, reduceEq → zL
open Bool renaming not_eq_true' → zM, not_eq_false' → zN
def xyL : List (List UInt8) := [[88], [89]]
def nmG (s : Src) : List UInt8 := xyL.getD (nextV s 2).toNat []
def baseK (k : Int) (nm : List UInt8) (s : Src) : Grd × Src :=
  bif decide (k = 10) || decide (k = 12) then (⟨k, nm, nextV s 3, [], ⟨0, []⟩, []⟩, nextS s 3) else
  bif decide (k = 13) || decide (k = 16) then (⟨k, nm, numV s, [], ⟨0, []⟩, []⟩, nextS s 10) else
  bif decide (k = 14) then (⟨k, nm, 0, wordV s, ⟨0, []⟩, []⟩, nextS s 4) else
  bif decide (k = 15) then (⟨k, nm, 0, atomV s, ⟨0, []⟩, []⟩, nextS s 4) else
  bif decide (k = 17) then (⟨k, nm, 0, [], ⟨0, [97]⟩, []⟩, s) else (⟨k, nm, 0, [], ⟨0, []⟩, []⟩, s)
def baseG (s : Src) : Grd × Src := baseK (5 + nextV s 13) (nmG (nextS s 13)) (nextS (nextS s 13) 2)
def kidsG (k : Int) (l : List Grd) : Grd := ⟨k, [], 0, [], ⟨0, []⟩, l⟩
theorem kidsG_lit (k : Int) (l : List Grd) : Gt (kidsG k l) = .st [.int .i64 k, .str [], .int .i64 0, .str [], .int .i64 0, .str [], .sl 7 (l.map encG)] := by rw [Gt, encG_eq]; rfl
def madeG : Nat → Src → Grd × Src
  | 0, s => baseG s
  | d + 1, s =>
    bif decide (nextV s 5 = 0) then (kidsG 2 [(madeG d (nextS s 5)).1, (madeG d (madeG d (nextS s 5)).2).1], (madeG d (madeG d (nextS s 5)).2).2) else
    bif decide (nextV s 5 = 1) then (kidsG 3 [(madeG d (nextS s 5)).1, (madeG d (madeG d (nextS s 5)).2).1], (madeG d (madeG d (nextS s 5)).2).2) else
    bif decide (nextV s 5 = 2) then (kidsG 4 [(madeG d (nextS s 5)).1], (madeG d (nextS s 5)).2) else
    bif decide (nextV s 5 = 3) then (kidsG 1 [], nextS s 5) else baseG (nextS s 5)
theorem ok_baseG {s : Src} (h : s.ok) : (baseG s).2.ok := by
  have h2 := ok_next (ok_next h 13) 2
  unfold baseG baseK
  generalize 5 + nextV s 13 = k
  cases (decide (k = 10) || decide (k = 12)) <;> cases (decide (k = 13) || decide (k = 16)) <;> cases decide (k = 14) <;> cases decide (k = 15) <;> cases decide (k = 17) <;> first | exact ok_next h2 _ | exact h2
theorem ok_madeG : ∀ (d : Nat) (s : Src), s.ok → (madeG d s).2.ok
  | 0, s, h => ok_baseG h
  | d + 1, s, h => by
    have h1 := ok_next h 5
    have h2 := ok_madeG d _ h1
    have h3 := ok_madeG d _ h2
    unfold madeG
    cases decide (nextV s 5 = 0) <;> cases decide (nextV s 5 = 1) <;> cases decide (nextV s 5 = 2) <;> cases decide (nextV s 5 = 3) <;> first | exact h3 | exact h2 | exact h1 | exact ok_baseG h1
def MadeGC (f : Src → Grd × Src) (d : Nat) : Prop := ∀ s : Src, s.ok → PCB Tryz.prog 10 [Sp pin, I .i64 d] [(pin, srcB s)] (Gt (f s).1) [(pin, srcB (f s).2)]
theorem MadeGC.k {f : Src → Grd × Src} {d : Nat} (H : MadeGC f d) (k : Nat) (s : Src) (hs : s.ok) : PCBk Tryz.prog 10 [Sp k, I .i64 d] k (srcB s) (Gt (f s).1) (srcB (f s).2) := PCBk.mk k (H s hs)
theorem base_g : MadeGC (madeG 0) 0 := by
  intro s hs
  have a1 := nextV_in s (n := 13) (by omega)
  have a2 := nextV_in (nextS s 13) (n := 2) (by omega)
  have hw0 : IntKind.i64.wrap (5 + nextV s 13) = 5 + nextV s 13 := by rw [w64 (by omega)]
  rcases (show 5 + nextV s 13 = 5 ∨ 5 + nextV s 13 = 6 ∨ 5 + nextV s 13 = 7 ∨ 5 + nextV s 13 = 8 ∨ 5 + nextV s 13 = 9 ∨ 5 + nextV s 13 = 10 ∨ 5 + nextV s 13 = 11 ∨ 5 + nextV s 13 = 12 ∨ 5 + nextV s 13 = 13 ∨ 5 + nextV s 13 = 14 ∨ 5 + nextV s 13 = 15 ∨ 5 + nextV s 13 = 16 ∨ 5 + nextV s 13 = 17 by omega) with hq | hq | hq | hq | hq | hq | hq | hq | hq | hq | hq | hq | hq
  iterate 13
    ·
      have hw := hw0.trans hq
      refine PCB.of_body Tryz.func10 rfl (by decide) Tryz.ntmps10 Tryz.results10 rfl rfl rfl ?_ rfl rfl
      repeat' (first | (simp only [go_sem, zA, zB, zC, zD, zE, zF, zG, reduceCtorEq, zH, zI, zJ, zK, zL, pin, hw, Int.reduceEq, Int.natCast_zero]; all_goals fail_if_success guard_target =ₛ False) | (with_reducible first | ((first | refine seqVC_stepN rfl ?_ | refine AWP.seq ?_ | refine AWP.seqR (by kernel_rfl) ?_); intro K hK) | ((first | refine hK _ _ _ ?_ | refine hK _ _ ?_ | refine hK _ ?_); clear hK K) | refine seqVC_nil ?_ | refine AWP.block ?_ | (refine AWP.cond (by with_unfolding_all rfl) ?_ ?_ <;> intro h <;> (try simp only [zM, zN] at h) <;> try exact absurd h (by decide)) | refine AWP.skip ?_ | refine AWP.ret ?_ | refine AWP.exit ?_) | (refine ⟨1000000, _, _, _, next_k 1000000 _ (by repeat (first | with_reducible exact hs | with_reducible refine ok_next ?_ _)) _ (by omega), rfl, ?_⟩) | (refine ⟨1000000, _, _, _, word_k 1000000 _ (by repeat (first | with_reducible exact hs | with_reducible refine ok_next ?_ _)), rfl, ?_⟩) | (refine ⟨1000000, _, _, _, atomName_k 1000000 _ (by repeat (first | with_reducible exact hs | with_reducible refine ok_next ?_ _)), rfl, ?_⟩) | (refine ⟨1000000, _, _, _, number_k 1000000 _ (by repeat (first | with_reducible exact hs | with_reducible refine ok_next ?_ _)), rfl, ?_⟩) | ( refine ⟨a2.1, [.str (nmG (nextS s 13))], lit_get (fun x => [C.str x]) xyL [] a2, ?_⟩) | (with_reducible first | refine Or.inl ?_) | (clear hK K))
      all_goals (refine ⟨by simp only [madeG, baseG, baseK, hq, zb, cond_true, cond_false, decide_true, decide_false, Int.reduceEq, encG_eq]; rfl, fun x hx => ?_⟩)
      all_goals (simp only [List.mem_singleton] at hx; subst hx; simp [madeG, baseG, baseK, hq, pin])
theorem step_g (d : Nat) (hd : d ≤ 1000) (H : MadeGC (madeG d) d) : MadeGC (madeG (d + 1)) (d + 1) := by
  intro s hs
  have hs1 := ok_next hs 5
  have hs2 := ok_madeG d _ hs1
  have hp : decide ((0 : Int) < ((d + 1 : Nat) : Int)) = true := by simp only [decide_eq_true_eq]; omega
  have hm : IntKind.i64.wrap (((d + 1 : Nat) : Int) - 1) = (d : Int) := by rw [w64 (by omega)]; omega
  have hn := nextV_in s (n := 5) (by omega)
  rcases (show nextV s 5 = 0 ∨ nextV s 5 = 1 ∨ nextV s 5 = 2 ∨ nextV s 5 = 3 ∨ nextV s 5 = 4 by omega) with hk | hk | hk | hk | hk
  iterate 4
    ·
      refine PCB.of_body Tryz.func10 rfl (by decide) Tryz.ntmps10 Tryz.results10 rfl rfl rfl ?_ rfl rfl
      repeat' (first | (simp only [go_sem, zA, zB, zC, zD, zE, zF, zG, reduceCtorEq, zH, zI, zJ, zK, zL, pin, hp, hm, hk, Int.reduceEq]; all_goals fail_if_success guard_target =ₛ False) | (with_reducible first | ((first | refine seqVC_stepN rfl ?_ | refine AWP.seq ?_ | refine AWP.seqR (by kernel_rfl) ?_); intro K hK) | ((first | refine hK _ _ _ ?_ | refine hK _ _ ?_ | refine hK _ ?_); clear hK K) | refine seqVC_nil ?_ | refine AWP.block ?_ | (refine AWP.cond (by with_unfolding_all rfl) ?_ ?_ <;> intro h <;> (try simp only [zM, zN] at h) <;> try exact absurd h (by decide)) | refine AWP.skip ?_ | refine AWP.ret ?_ | refine AWP.exit ?_) | (refine ⟨1000000, _, _, _, next_k 1000000 _ hs _ (by omega), rfl, ?_⟩) | (refine ⟨1000000, _, _, _, H.k 1000000 _ hs1, rfl, ?_⟩) | (refine ⟨1000000, _, _, _, H.k 1000000 _ hs2, rfl, ?_⟩) | (with_reducible first | refine Or.inl ?_) | (clear hK K))
      all_goals (refine ⟨by simp only [madeG, hk, zb, cond_true, cond_false, decide_true, decide_false, Int.reduceEq]; rw [kidsG_lit]; rfl, fun x hx => ?_⟩)
      all_goals (simp only [List.mem_singleton] at hx; subst hx; simp [madeG, kidsG, hk, pin])
  have a1 := nextV_in (nextS s 5) (n := 13) (by omega)
  have a2 := nextV_in (nextS (nextS s 5) 13) (n := 2) (by omega)
  have hw0 : IntKind.i64.wrap (5 + nextV (nextS s 5) 13) = 5 + nextV (nextS s 5) 13 := by rw [w64 (by omega)]
  rcases (show 5 + nextV (nextS s 5) 13 = 5 ∨ 5 + nextV (nextS s 5) 13 = 6 ∨ 5 + nextV (nextS s 5) 13 = 7 ∨ 5 + nextV (nextS s 5) 13 = 8 ∨ 5 + nextV (nextS s 5) 13 = 9 ∨ 5 + nextV (nextS s 5) 13 = 10 ∨ 5 + nextV (nextS s 5) 13 = 11 ∨ 5 + nextV (nextS s 5) 13 = 12 ∨ 5 + nextV (nextS s 5) 13 = 13 ∨ 5 + nextV (nextS s 5) 13 = 14 ∨ 5 + nextV (nextS s 5) 13 = 15 ∨ 5 + nextV (nextS s 5) 13 = 16 ∨ 5 + nextV (nextS s 5) 13 = 17 by omega) with hq | hq | hq | hq | hq | hq | hq | hq | hq | hq | hq | hq | hq
  iterate 13
    ·
      have hw := hw0.trans hq
      refine PCB.of_body Tryz.func10 rfl (by decide) Tryz.ntmps10 Tryz.results10 rfl rfl rfl ?_ rfl rfl
      repeat' (first | (simp only [go_sem, zA, zB, zC, zD, zE, zF, zG, reduceCtorEq, zH, zI, zJ, zK, zL, pin, hw, Int.reduceEq, hp, hk]; all_goals fail_if_success guard_target =ₛ False) | (with_reducible first | ((first | refine seqVC_stepN rfl ?_ | refine AWP.seq ?_ | refine AWP.seqR (by kernel_rfl) ?_); intro K hK) | ((first | refine hK _ _ _ ?_ | refine hK _ _ ?_ | refine hK _ ?_); clear hK K) | refine seqVC_nil ?_ | refine AWP.block ?_ | (refine AWP.cond (by with_unfolding_all rfl) ?_ ?_ <;> intro h <;> (try simp only [zM, zN] at h) <;> try exact absurd h (by decide)) | refine AWP.skip ?_ | refine AWP.ret ?_ | refine AWP.exit ?_) | (refine ⟨1000000, _, _, _, next_k 1000000 _ (by repeat (first | with_reducible exact hs | with_reducible refine ok_next ?_ _)) _ (by omega), rfl, ?_⟩) | (refine ⟨1000000, _, _, _, word_k 1000000 _ (by repeat (first | with_reducible exact hs | with_reducible refine ok_next ?_ _)), rfl, ?_⟩) | (refine ⟨1000000, _, _, _, atomName_k 1000000 _ (by repeat (first | with_reducible exact hs | with_reducible refine ok_next ?_ _)), rfl, ?_⟩) | (refine ⟨1000000, _, _, _, number_k 1000000 _ (by repeat (first | with_reducible exact hs | with_reducible refine ok_next ?_ _)), rfl, ?_⟩) | ( refine ⟨a2.1, [.str (nmG (nextS (nextS s 5) 13))], lit_get (fun x => [C.str x]) xyL [] a2, ?_⟩) | (with_reducible first | refine Or.inl ?_) | (clear hK K))
      all_goals (refine ⟨by simp only [madeG, baseG, baseK, hk, hq, zb, cond_true, cond_false, decide_true, decide_false, Int.reduceEq, encG_eq]; rfl, fun x hx => ?_⟩)
      all_goals (simp only [List.mem_singleton] at hx; subst hx; simp [madeG, baseG, baseK, hk, hq, pin])
theorem made_g : ∀ d : Nat, d ≤ 1000 → MadeGC (madeG d) d
  | 0, _ => base_g
  | d + 1, h => step_g d (by omega) (made_g d (by omega))
theorem nm_var (s : Src) : isVarB (nmG s) = true := by
  have h := nextV_in s (n := 2) (by omega)
  have h2 : ∀ n : Nat, n < 2 → isVarB (xyL.getD n []) = true := by decide
  exact h2 _ (by omega)
theorem word_len (s : Src) : decide (((wordV s).length : Int) ≤ 64) = true := by
  have h := nextV_in s (n := 4) (by omega)
  have h2 : ∀ n : Nat, n < 4 → decide (((wordL.getD n []).length : Int) ≤ 64) = true := by decide
  exact h2 _ (by omega)
theorem atom_ok (s : Src) : isAtomB (atomV s) = true := by
  have h := nextV_in s (n := 4) (by omega)
  have h2 : ∀ n : Nat, n < 4 → isAtomB (atomL.getD n []) = true := by decide
  exact h2 _ (by omega)
theorem key_a : validKeyB ⟨0, [97]⟩ = true := by decide
theorem vG_base (s : Src) : vG (baseG s).1 = true ∧ (baseG s).1.kids = [] := by
  have a1 := nextV_in s (n := 13) (by omega)
  have a2 := nextV_in (nextS (nextS s 13) 2) (n := 3) (by omega)
  have d1 : decide (0 ≤ nextV (nextS (nextS s 13) 2) 3) = true := by simp; omega
  have d2 : decide (nextV (nextS (nextS s 13) 2) 3 ≤ 4) = true := by simp; omega
  have hn := nm_var (nextS s 13)
  have hw := word_len (nextS (nextS s 13) 2)
  have ha := atom_ok (nextS (nextS s 13) 2)
  rcases (show 5 + nextV s 13 = 5 ∨ 5 + nextV s 13 = 6 ∨ 5 + nextV s 13 = 7 ∨ 5 + nextV s 13 = 8 ∨ 5 + nextV s 13 = 9 ∨ 5 + nextV s 13 = 10 ∨ 5 + nextV s 13 = 11 ∨ 5 + nextV s 13 = 12 ∨ 5 + nextV s 13 = 13 ∨ 5 + nextV s 13 = 14 ∨ 5 + nextV s 13 = 15 ∨ 5 + nextV s 13 = 16 ∨ 5 + nextV s 13 = 17 by omega) with hq | hq | hq | hq | hq | hq | hq | hq | hq | hq | hq | hq | hq
  all_goals (unfold baseG; rw [hq])
  all_goals (refine ⟨?_, by simp [baseK]⟩)
  all_goals (simp [baseK, vG, badG, bodyG, connG, testG, intG, textG, keyZ, hn, hw, ha, key_a] <;> simp_all)
def bG : Nat → Nat
  | 0 => 1
  | d + 1 => 1 + 2 * bG d
theorem vG_kids (k : Int) (l : List Grd) (hk : (k = 2 ∧ l.length = 2) ∨ (k = 3 ∧ l.length = 2) ∨ (k = 4 ∧ l.length = 1) ∨ (k = 1 ∧ l.length = 0)) : vG (kidsG k l) = true := by
  rcases hk with ⟨rfl, h⟩ | ⟨rfl, h⟩ | ⟨rfl, h⟩ | ⟨rfl, h⟩ <;> simp [kidsG, vG, badG, bodyG, connG, testG, intG, textG, keyZ, h]
theorem tree_kids (k : Int) (l : List Grd) (h : vG (kidsG k l) = true) (hl : ∀ g ∈ l, treeG g = true) : treeG (kidsG k l) = true := by
  rw [treeG_eq, h, Bool.true_and, List.all_eq_true]
  exact hl
theorem cnt_kids (k : Int) (l : List Grd) : cntG (kidsG k l) = 1 + cntGs l := by rw [cntG_eq]; rfl
theorem tree_made : ∀ (d : Nat) (s : Src), treeG (madeG d s).1 = true ∧ cntG (madeG d s).1 ≤ bG d
  | 0, s => by
    obtain ⟨h1, h2⟩ := vG_base s
    show treeG (baseG s).1 = true ∧ cntG (baseG s).1 ≤ 1
    rw [treeG_eq, cntG_eq, h1, h2]; simp [cntGs]
  | d + 1, s => by
    obtain ⟨t1, c1⟩ := tree_made d (nextS s 5)
    obtain ⟨t2, c2⟩ := tree_made d (madeG d (nextS s 5)).2
    unfold madeG bG
    cases decide (nextV s 5 = 0) <;> cases decide (nextV s 5 = 1) <;> cases decide (nextV s 5 = 2) <;> cases decide (nextV s 5 = 3) <;> simp only [cond_true, cond_false]
    all_goals first
      | (refine ⟨tree_kids _ _ (vG_kids _ _ (by simp)) (by intro g hg; simp only [List.mem_cons, List.not_mem_nil, or_false] at hg; first | (rcases hg with rfl | rfl <;> assumption) | (subst hg; assumption) | exact absurd hg id), by rw [cnt_kids]; simp only [cntGs]; omega⟩)
      | (exact ⟨tree_kids 1 [] (vG_kids 1 [] (by simp)) (by simp), by rw [cnt_kids]; simp only [cntGs]; omega⟩)
      | (obtain ⟨h1, h2⟩ := vG_base (nextS s 5)
         rw [treeG_eq, cntG_eq, h1, h2]; simp [cntGs])
end Go.Proofs.YteobojeemflggaaGreat
set_option linter.unusedSimpArgs false
set_option linter.unusedVariables false
set_option maxRecDepth 20000
set_option maxHeartbeats 4000000
namespace Go.Proofs.YteobojeemflggaaGreat
open Go Go.Sx
open Nat renaming reduceBEq → zA, reduceBNe → zB, reduceAdd → zC, reduceSub → zD, reduceMul → zE, reduceLeDiff → zF, reduceLT → zG, reduceEqDiff → zH
open Int renaming reduceToNat → zI, reduceLE → zJ, reduceLT → zK, reduceEq → zL
open Bool renaming not_eq_true' → zM, not_eq_false' → zN
/-- no datum of it has a contract -/
inductive NoNodes : Dat → Prop
  | mk (d : Dat) (h : d.nodes = []) (hk : ∀ k ∈ d.kids, NoNodes k) : NoNodes d
theorem NoNodes.nodes {d : Dat} (h : NoNodes d) : d.nodes = [] := by cases h; assumption
theorem NoNodes.kid {d : Dat} (h : NoNodes d) : ∀ k ∈ d.kids, NoNodes k := by cases h; assumption
end Go.Proofs.YteobojeemflggaaGreat

set_option linter.unusedVariables false
set_option linter.unusedSimpArgs false
namespace Go.Sx
variable {P : Program} {n : Nat} {σ : AS} {Q : Exit → AS → Prop}
def fxOf (ear : List Nat) (fixB fixC : Bx) (i : Nat) : Bx := bif memN i ear then fixC else fixB
def genOpVC2 (P : Program) (all : List Oper) (es ear : List Nat) (fixB : Bx) (j0 : Nat) (fixC : Bx) (i : Nat) (gs : List (Nat × Nat)) (o : Oper) (env : Env) (B : Bx) (K' : List (Nat × Nat) → Env → Bx → Prop) : Prop :=
  bif memN i es then effVC P o env B fun t B' => bxSub B' fixB ∧ (bif decide (i < j0) then bxSub B' fixC else True) ∧ FreshOr all i t gs ∧ K' (gsNext i o gs) (putE env o.dst t) B'
  else pureVC P o env (fxOf ear fixB fixC i) fun t => FreshOr all i t gs ∧ K' gs (putE env o.dst t) B
attribute [go_sem] genOpVC2 fxOf
end Go.Sx
set_option linter.unusedSimpArgs false
set_option linter.unusedVariables false
set_option maxRecDepth 20000
set_option maxHeartbeats 4000000
namespace Go.Proofs.YteobojeemflggaaGreat
open Go Go.Sx
open Nat renaming reduceBEq → zA, reduceBNe → zB, reduceAdd → zC, reduceSub → zD, reduceMul → zE, reduceLeDiff → zF, reduceLT → zG, reduceEqDiff → zH
open Int renaming reduceToNat → zI, reduceLE → zJ, reduceLT → zK, reduceEq → zL
open Bool renaming not_eq_true' → zM, not_eq_false' → zN
/-- entries -/
abbrev Ent := List Val × Bool × Val
end Go.Proofs.YteobojeemflggaaGreat
set_option linter.unusedVariables false
set_option linter.unusedSimpArgs false
namespace Go.Sx
variable {P : Program} {n : Nat} {σ : AS} {Q : Exit → AS → Prop}
/-- the boxes that are there where the operations of X have run -/
def bxX (mk : Nat → Option (Nat × Res)) (B0 : Bx) (X : Nat → Bool) : Nat → Bx
  | 0 => B0
  | m + 1 => match X m, mk m with
    | true, some p => p :: bxX mk B0 X m
    | _, _ => bxX mk B0 X m
theorem mem_bxX {mk : Nat → Option (Nat × Res)} {B0 : Bx} {X : Nat → Bool} {x : Nat × Res} : ∀ {m : Nat}, x ∈ bxX mk B0 X m ↔ x ∈ B0 ∨ ∃ i, i < m ∧ X i = true ∧ mk i = some x
  | 0 => by simp [bxX]
  | m + 1 => by
    have ih := @mem_bxX mk B0 X x m
    unfold bxX
    constructor
    · intro h
      split at h
      · rename_i p hX hk
        rcases List.mem_cons.1 h with rfl | h
        · exact .inr ⟨m, by omega, hX, hk⟩
        · rcases ih.1 h with h | ⟨i, h1, h2⟩
          · exact .inl h
          · exact .inr ⟨i, by omega, h2⟩
      · rcases ih.1 h with h | ⟨i, h1, h2⟩
        · exact .inl h
        · exact .inr ⟨i, by omega, h2⟩
    · intro h
      have h' : x ∈ bxX mk B0 X m ∨ (X m = true ∧ mk m = some x) := by
        rcases h with h | ⟨i, h1, h2, h3⟩
        · exact .inl (ih.2 (.inl h))
        · by_cases him : i = m
          · subst him; exact .inr ⟨h2, h3⟩
          · exact .inl (ih.2 (.inr ⟨i, by omega, h2, h3⟩))
      split
      · rename_i p hX hk
        rcases h' with h' | ⟨_, h'⟩
        · exact List.mem_cons_of_mem _ h'
        · rw [hk] at h'; cases h'; exact List.mem_cons_self
      · rename_i hno
        rcases h' with h' | ⟨h1, h2⟩
        · exact h'
        · exact absurd h2 (hno x h1)
/-- the names are apart -/
def Apart (mk : Nat → Option (Nat × Res)) (B0 : Bx) : Prop := (∀ i j p q, mk i = some p → mk j = some q → i ≠ j → p.1 ≠ q.1) ∧ ∀ i p, mk i = some p → ∀ x ∈ B0, x.1 ≠ p.1
theorem nodup_bxX {mk : Nat → Option (Nat × Res)} {B0 : Bx} {X : Nat → Bool} (ha : Apart mk B0) (h0 : (B0.map (·.1)).Nodup) : ∀ m, ((bxX mk B0 X m).map (·.1)).Nodup
  | 0 => h0
  | m + 1 => by
    have ih := nodup_bxX (X := X) ha h0 m
    unfold bxX
    split
    · rename_i p hX hk
      simp only [List.map_cons, List.nodup_cons]
      refine ⟨fun hm => ?_, ih⟩
      obtain ⟨x, hx, e⟩ := List.mem_map.1 hm
      rcases mem_bxX.1 hx with h | ⟨i, h1, _, h3⟩
      · exact ha.2 m p hk x h e
      · exact ha.1 i m x p h3 hk (by omega) e
    · exact ih
theorem nodup_B0 {mk : Nat → Option (Nat × Res)} {B0 : Bx} {X : Nat → Bool} : ∀ {m : Nat}, ((bxX mk B0 X m).map (·.1)).Nodup → (B0.map (·.1)).Nodup
  | 0, h => h
  | m + 1, h => by
    unfold bxX at h
    split at h
    · simp only [List.map_cons, List.nodup_cons] at h; exact nodup_B0 h.2
    · exact nodup_B0 h
def OSpecM (P : Program) (n : Nat) (all : List Oper) (B0 : Bx) (o : Oper) (env : Env) (t : T) (j : Option (Nat × Res)) : Prop :=
  dstOk n o = true ∧
  ((guardT all env o True False ∧ ((j = none ∧ OpP P o env B0 t) ∨ (∃ k r, j = some (k, r) ∧ k < pin ∧ Env.fresh k env = true ∧ Bx.fresh k B0 = true ∧ ∀ B : Bx, (∀ x ∈ B0, x ∈ B) → Bx.fresh k B = true → OpG P o env B k t ((k, r) :: B)))) ∨
   (guardT all env o False True ∧ t = undefT ∧ j = none))
theorem bx_fresh_of {k : Nat} : ∀ {B : Bx}, (∀ x ∈ B, x.1 ≠ k ∧ ∀ cs, x.2 = .cells cs → Cell.freshs k cs = true) → Bx.fresh k B = true
  | [], _ => rfl
  | (j, r) :: B, h => by
    have h1 := h (j, r) List.mem_cons_self
    simp only [Bx.fresh, Bool.and_eq_true, bne_iff_ne, ne_eq]
    refine ⟨⟨h1.1, ?_⟩, bx_fresh_of fun y hy => h y (List.mem_cons_of_mem _ hy)⟩
    cases r with
    | cells cs => exact h1.2 cs rfl
    | row sz rows => rfl
def Res.plain (r : Res) : Prop := ∀ k cs, r = .cells cs → Cell.freshs k cs = true
theorem Res.plain_row (sz : Nat) (rows : List (List C)) : (Res.row sz rows).plain := fun _ _ e => by cases e
theorem Res.plain_dat (zs : List C) : (Res.cells (zs.map .dat)).plain := by
  intro k cs e
  cases e
  induction zs with
  | nil => rfl
  | cons z zs ih => simp only [List.map_cons, Cell.freshs, Cell.fresh, ih, Bool.and_self]
def RowsOnly (mk : Nat → Option (Nat × Res)) : Prop := ∀ i p, mk i = some p → p.2.plain
theorem Bx.fresh_sub {k : Nat} {B B' : Bx} (h : Bx.fresh k B = true) (hs : ∀ x ∈ B', x ∈ B) : Bx.fresh k B' = true :=
  bx_fresh_of fun x hx => Bx.fresh_spec (j := x.1) (r := x.2) h (hs x hx)
def vAppendM (P : Program) (j : Nat) (t1 t2 : TypeId) (s x : Option T) (K : T → Res → Prop) : Prop :=
  match bsT P t1, byT P t1 with
  | some (_, n), some (by_ + 1) => match srcRows n x with
    | some ys => notInt P t2 = true ∧ (match s with
      | some (.one (.dat (.nil _))) => (2 * ys.length + 192) * (by_ + 1) ≤ 281474976710656 ∧ K (.one (.own j ys.length)) (.row n ys)
      | _ => False)
    | none => False
  | _, _ => False
/-- what is to be shown of an operation that makes a row -/
def mkOp (P : Program) (o : Oper) (env : Env) (K : T → Res → Prop) : Prop :=
  match o.op with
  | .alloc e => (match zeroT P e with
    | some zs => K (.one (.ptr (dstN o) 0)) (.cells (zs.map .dat))
    | none => False)
  | .call { callee := .builtin .append, args := ⟨[s, x]⟩, argTypes := ⟨[t1, t2]⟩ } => vAppendM P (dstN o) t1 t2 (ev P env t1 s) (softO (ev P env t2 x)) K
  | .call { callee := .value f, args := args, argTypes := ts } =>
    match calleeT (ev P env 0 f), evs P env args.toList ts.toList with
    | some (g, caps), some us => ∃ r sz rows, PCN P g (us ++ caps) r (.row sz rows) ∧ K (r.ren fun _ => dstN o) (.row sz rows)
    | _, _ => False
  | _ => False
theorem mkOp_sound {o : Oper} {env : Env} {K : T → Res → Prop} (h : mkOp P o env K) :
    ∃ t r, r.plain ∧ (∀ B : Bx, Env.fresh (dstN o) env = true → Bx.fresh (dstN o) B = true → OpG P o env B (dstN o) t ((dstN o, r) :: B)) ∧ K t r := by
  unfold mkOp at h
  split at h
  · rename_i e ho
    split at h
    · rename_i zs hz
      refine ⟨_, _, Res.plain_dat zs, fun B hfe hfb => ?_, h⟩
      obtain ⟨t, B', hop, _, rfl, rfl⟩ := vAlloc_sound (env := env) (B := B) (K := fun t B' => t = .one (.ptr (dstN o) 0) ∧ B' = (dstN o, .cells (zs.map .dat)) :: B) ho (by
        unfold vAlloc
        rw [hz]
        exact ⟨hfe, hfb, rfl, rfl⟩)
      exact hop
    · exact h.elim
  · rename_i s x t1 t2 ho
    unfold vAppendM at h
    split at h
    · rename_i e n by_ hbs hbyt
      split at h
      · rename_i ys hys
        obtain ⟨hni, h⟩ := h
        split at h
        · rename_i sz hsv
          refine ⟨_, _, Res.plain_row _ _, fun B hfe hfb => ?_, h.2⟩
          obtain ⟨t, B', hop, _, rfl, rfl⟩ := vAppend_sound (ty1 := t1) (ty2 := t2) (env := env) (B := B) (K := fun t B' => t = .one (.own (dstN o) ys.length) ∧ B' = (dstN o, .row n ys) :: B) ho (by
            unfold vAppend
            rw [hbs, hbyt]
            simp only [hys, hsv]
            refine ⟨hni, hfe, hfb, h.1, ?_⟩
            first | trivial | exact ⟨trivial, rfl⟩ | exact ⟨rfl, rfl⟩ | exact ⟨rfl, trivial⟩)
          exact hop
        · exact h.elim
      · exact h.elim
    · exact h.elim
  · rename_i f args ts ho
    split at h
    · rename_i g caps us hf hu
      obtain ⟨r, sz, rows, hpc, hK⟩ := h
      refine ⟨_, _, Res.plain_row _ _, fun B hfe hfb => ?_, hK⟩
      obtain ⟨t, B', hop, _, rfl, rfl⟩ := vCallN_sound (env := env) (B := B) (args := args.toList) (K := fun t B' => t = (r.ren fun _ => dstN o) ∧ B' = (dstN o, .row sz rows) :: B) (by rw [ho]) hf hu ⟨r, _, hpc, hfe, hfb, rfl, rfl⟩
      exact hop
    · exact h.elim
  · exact h.elim
def genVCM (P : Program) (all : List Oper) (es : List Nat) (B0 : Bx) : Nat → List (Nat × Nat) → List Oper → Env → Bx → (Env → Bx → Prop) → Prop
  | _, _, [], env, B, K => K env B
  | i, gs, o :: os, env, B, K => guardT all env o
      (bif memN i es then mkOp P o env fun t r => Env.fresh (dstN o) env = true ∧ Bx.fresh (dstN o) B = true ∧ FreshOr all i t gs ∧ genVCM P all es B0 (i + 1) ((i, dstN o) :: gs) os (putE env o.dst t) ((dstN o, r) :: B) K
       else pureVC P o env B0 fun t => FreshOr all i t gs ∧ genVCM P all es B0 (i + 1) gs os (putE env o.dst t) B K)
      (genVCM P all es B0 (i + 1) gs os (putE env o.dst undefT) B K)
theorem bxX_cons (mk : Nat → Option (Nat × Res)) (B : Bx) : ∀ m, bxX mk B (fun _ => true) (m + 1) = bxX (fun i => mk (i + 1)) (match mk 0 with | some p => p :: B | none => B) (fun _ => true) m
  | 0 => by
    simp only [bxX]
    cases mk 0 <;> rfl
  | m + 1 => by
    rw [bxX, bxX_cons mk B m]
    all_goals (first | rfl | (conv => rhs; rw [bxX]))
    all_goals (cases mk (m + 1) <;> rfl)
def genMOk (n : Nat) (l : List Oper) : Bool := Region.lexB .any l.toArray && dstsOk n l
theorem genMVC_nil {all : List Oper} {es : List Nat} {B0 : Bx} {i : Nat} {gs : List (Nat × Nat)} {env : Env} {B : Bx} {K : Env → Bx → Prop} (h : K env B) : genVCM P all es B0 i gs [] env B K := h
def genOpVCM (P : Program) (all : List Oper) (es : List Nat) (B0 : Bx) (i : Nat) (gs : List (Nat × Nat)) (o : Oper) (env : Env) (B : Bx) (K' : List (Nat × Nat) → Env → Bx → Prop) : Prop :=
  bif memN i es then mkOp P o env fun t r => Env.fresh (dstN o) env = true ∧ Bx.fresh (dstN o) B = true ∧ FreshOr all i t gs ∧ K' ((i, dstN o) :: gs) (putE env o.dst t) ((dstN o, r) :: B)
  else pureVC P o env B0 fun t => FreshOr all i t gs ∧ K' gs (putE env o.dst t) B
theorem genMVC_stepN {all os : List Oper} {es : List Nat} {B0 : Bx} {i : Nat} {gs : List (Nat × Nat)} {o : Oper} {env : Env} {B : Bx} {K : Env → Bx → Prop} (hg : o.guard = none)
    (h : ∀ K' : List (Nat × Nat) → Env → Bx → Prop, (∀ gs e b, genVCM P all es B0 (i + 1) gs os e b K → K' gs e b) → genOpVCM P all es B0 i gs o env B K') : genVCM P all es B0 i gs (o :: os) env B K :=
  guardT_none hg (h (fun gs e b => genVCM P all es B0 (i + 1) gs os e b K) fun _ _ _ q => q)
theorem genMVC_stepG {all os : List Oper} {es : List Nat} {B0 : Bx} {i : Nat} {gs : List (Nat × Nat)} {o : Oper} {env : Env} {B : Bx} {K : Env → Bx → Prop} {j d : Nat} {want : Bool} (hg : o.guard = some (j, want)) (hd : (all[j]?).bind (·.dst) = some d)
    (h : ∀ K' : List (Nat × Nat) → Env → Bx → Prop, (∀ gs e b, genVCM P all es B0 (i + 1) gs os e b K → K' gs e b) → guardE (env.lookup d) want (genOpVCM P all es B0 i gs o env B K') (K' gs (putE env o.dst undefT) B)) : genVCM P all es B0 i gs (o :: os) env B K :=
  guardT_some hg hd (h (fun gs e b => genVCM P all es B0 (i + 1) gs os e b K) fun _ _ _ q => q)
attribute [go_sem] genOpVCM mkOp vAppendM
end Go.Sx

set_option linter.unusedSimpArgs false
set_option linter.unusedVariables false
set_option maxRecDepth 20000
set_option maxHeartbeats 4000000
namespace Go.Proofs.YteobojeemflggaaGreat
open Go Go.Sx
open Nat renaming reduceBEq → zA, reduceBNe → zB, reduceAdd → zC, reduceSub → zD, reduceMul → zE, reduceLeDiff → zF, reduceLT → zG, reduceEqDiff → zH
open Int renaming reduceToNat → zI, reduceLE → zJ, reduceLT → zK, reduceEq → zL
open Bool renaming not_eq_true' → zM, not_eq_false' → zN
/-- the contract of Value at one height -/
def ValueC (f : Src → Val × Src) (h : Nat) : Prop := ∀ s : Src, s.ok → PCB Tryz.prog 11 [Sp pin, I .i64 h] [(pin, srcB s)] (Vt (f s).1) [(pin, srcB (f s).2)]
theorem ValueC.k {f : Src → Val × Src} {h : Nat} (H : ValueC f h) (k : Nat) (s : Src) (hs : s.ok) : PCBk Tryz.prog 11 [Sp k, I .i64 h] k (srcB s) (Vt (f s).1) (srcB (f s).2) := PCBk.mk k (H s hs)
/-- the contract of value at one height -/
def ValC (f : Src → Val × Src) (h : Nat) : Prop := ∀ s : Src, s.ok → PCB Tryz.prog 31 [Sp pin, I .i64 h] [(pin, srcB s)] (Vt (f s).1) [(pin, srcB (f s).2)]
theorem ValC.k {f : Src → Val × Src} {h : Nat} (H : ValC f h) (k : Nat) (s : Src) (hs : s.ok) : PCBk Tryz.prog 31 [Sp k, I .i64 h] k (srcB s) (Vt (f s).1) (srcB (f s).2) := PCBk.mk k (H s hs)
section
variable {f1 f0 : Src → Val × Src} {h : Nat}
end
end Go.Proofs.YteobojeemflggaaGreat

set_option linter.unusedVariables false
set_option linter.unusedSimpArgs false
namespace Go.Sx
variable {P : Program} {n : Nat} {σ : AS} {Q : Exit → AS → Prop}
def lastVC (P : Program) : List Oper → Env → Bx → (Env → Bx → Prop) → Prop
  | [o], env, B, K => (match o.op with
    | .store t x y => vStore P t (ev P env 0 x) (ev P env t y) B (fun B' => K (putE env o.dst undefT) B')
    | _ => False)
  | _, _, _, _ => False
attribute [go_sem] lastVC
end Go.Sx
namespace Go.Proofs.YteobojeemflggaaGreat
open Go Go.Sx
abbrev In64 (a : Int) : Prop := -9223372036854775808 ≤ a ∧ a ≤ 9223372036854775807
theorem wrap64 (x : Int) : ∃ k : Int, IntKind.i64.wrap x = x + k * 18446744073709551616 ∧ In64 (IntKind.i64.wrap x) := by
  have h : IntKind.i64.wrap x = Int.bmod x 18446744073709551616 := by
    unfold IntKind.wrap
    simp [IntKind.signed, IntKind.bits]
    rw [Int.bmod_def]
    split <;> split <;> omega
  rw [h]
  refine ⟨-((x + 9223372036854775808) / 18446744073709551616), ?_, ?_⟩
  · rw [Int.bmod_def]; split <;> omega
  · rw [Int.bmod_def]; split <;> (constructor <;> omega)
theorem wrap_mod (x : Int) (a k : Int) (h : In64 a) (hx : x = a + k * 18446744073709551616) : IntKind.i64.wrap x = a := by
  obtain ⟨j, h1, h2⟩ := wrap64 x
  omega
theorem back (a b : Int) (ha : In64 a) : IntKind.i64.wrap (IntKind.i64.wrap (a.tdiv b * b) + a.tmod b) = a := by
  obtain ⟨j, h1, h2⟩ := wrap64 (a.tdiv b * b)
  refine wrap_mod _ a j ha ?_
  have := Int.mul_tdiv_add_tmod a b
  rw [Int.mul_comm] at this
  omega
theorem bound (a b : Int) (h0 : b ≠ 0) : a.tmod b < (if b < 0 then -b else b) ∧ -(if b < 0 then -b else b) < a.tmod b := by
  have h := Int.natAbs_tmod a b
  have : (a.tmod b).natAbs < b.natAbs := by
    rw [h]; exact Nat.mod_lt _ (by omega)
  split <;> omega
end Go.Proofs.YteobojeemflggaaGreat

set_option linter.unusedSimpArgs false
set_option linter.unusedVariables false
set_option maxRecDepth 20000
namespace Go.Proofs.YteobojeemflggaaGreat
open Go Go.Sx
/-- what a datum without code shows -/
def Bare (d : Dat) : Prop := d.mod = [] ∧ d.version = 0 ∧ d.routine = 0 ∧ d.wrapped = false ∧ d.nodes = [] ∧ d.root = 0 ∧ d.inner = [] ∧ d.outer = []
inductive Good : Dat → Prop
  | mk (d : Dat) (hn : In64 d.num) (h1 : d.kids.length ≤ 1000) (h2 : d.keys.length ≤ 1000) (hf : d.kind ≠ 9 → Bare d) (hk : ∀ k ∈ d.kids, Good k) : Good d
theorem Good.num {d : Dat} (h : Good d) : In64 d.num := by cases h; assumption
theorem Good.kids {d : Dat} (h : Good d) : d.kids.length ≤ 1000 := by cases h; assumption
theorem Good.keys {d : Dat} (h : Good d) : d.keys.length ≤ 1000 := by cases h; assumption
theorem Good.kid {d : Dat} (h : Good d) : ∀ k ∈ d.kids, Good k := by cases h; assumption
structure GoodA (n : Nat) (a : PutA) : Prop where
  k : a.keys.length ≤ n
  d : a.kids.length ≤ n
  g : ∀ d ∈ a.kids, Good d
theorem GoodA.le {n m : Nat} {a : PutA} (h : GoodA n a) (hm : n ≤ m) : GoodA m a := ⟨by have := h.k; omega, by have := h.d; omega, h.g⟩
end Go.Proofs.YteobojeemflggaaGreat

set_option linter.unusedSimpArgs false
set_option linter.unusedVariables false
set_option maxRecDepth 20000
set_option maxHeartbeats 1000000
namespace Go.Proofs.YteobojeemflggaaGreat
open Go Go.Sx
open Nat renaming reduceBEq → zA, reduceBNe → zB, reduceAdd → zC, reduceSub → zD, reduceMul → zE, reduceLeDiff → zF, reduceLT → zG, reduceEqDiff → zH
open Int renaming reduceToNat → zI, reduceLE → zJ, reduceLT → zK, reduceEq → zL
open Bool renaming not_eq_true' → zM, not_eq_false' → zN
def bnd : Nat → Nat
  | 0 => 1
  | 1 => 1
  | h + 2 => 8 * (bnd (h + 1) + 2) + 8 * (bnd h + 2) + 20
end Go.Proofs.YteobojeemflggaaGreat
set_option linter.unusedSimpArgs false
set_option linter.unusedVariables false
set_option maxRecDepth 20000
set_option maxHeartbeats 4000000
namespace Go.Proofs.YteobojeemflggaaGreat
open Go Go.Sx
open Nat renaming reduceBEq → zA, reduceBNe → zB, reduceAdd → zC, reduceSub → zD, reduceMul → zE, reduceLeDiff → zF, reduceLT → zG, reduceEqDiff → zH
open Int renaming reduceToNat → zI, reduceLE → zJ, reduceLT → zK, reduceEq → zL
open Bool renaming not_eq_true' → zM, not_eq_false' → zN
theorem cells_key {n : Nat} {row : List C} (h : hasT Tryz.prog n 33 row) : ∃ k : KeyD, row = encKey k := by
  obtain ⟨m, parts, rfl, rfl, hl, hf⟩ := cells_st Tryz.underlying33 h
  match parts, hl with
  | [p0, p1], _ =>
    obtain ⟨a, rfl⟩ := cells_i64 Tryz.underlying3 (hf 0 _ p0 rfl rfl)
    obtain ⟨b, rfl⟩ := cells_text Tryz.underlying9 (hf 1 _ p1 rfl rfl)
    exact ⟨⟨a, b⟩, rfl⟩
end Go.Proofs.YteobojeemflggaaGreat

set_option linter.unusedSimpArgs false
set_option linter.unusedVariables false
set_option maxRecDepth 20000
set_option maxHeartbeats 16000000
namespace Go.Proofs.YteobojeemflggaaGreat
open Go Go.Sx
open Nat renaming reduceBEq → zA, reduceBNe → zB, reduceAdd → zC, reduceSub → zD, reduceMul → zE, reduceLeDiff → zF, reduceLT → zG, reduceEqDiff → zH
open Int renaming reduceToNat → zI, reduceLE → zJ, reduceLT → zK, reduceEq → zL
open Bool renaming not_eq_true' → zM, not_eq_false' → zN
def encLL (l : List Int) : List C := [.sl 1 (l.map encInt)]
theorem short_c (ll : List (List Int)) : PC Tryz.prog 7 [.one (.dat (.sl 1 (ll.map encLL)))] (Bo (ll.all fun l => !decide ((80 : Int) < (l.length : Int)))) := by
  refine PCB.of_body Tryz.func7 rfl (by decide) Tryz.ntmps7 Tryz.results7 rfl rfl rfl ?_ rfl rfl
  repeat' (first | (simp only [go_sem, zA, zB, zC, zD, zE, zF, zG, reduceCtorEq, zH, zI, zJ, zK, zL, List.length_map]; all_goals fail_if_success guard_target =ₛ False) | (with_reducible first | ((first | refine seqVC_stepN rfl ?_ | refine AWP.seq ?_ | refine AWP.seqR (by kernel_rfl) ?_); intro K hK) | ((first | refine hK _ _ _ ?_ | refine hK _ _ ?_ | refine hK _ ?_); clear hK K) | refine seqVC_nil ?_ | refine AWP.block ?_ | (refine AWP.cond (by with_unfolding_all rfl) ?_ ?_ <;> intro h <;> (try simp only [zM, zN] at h) <;> try exact absurd h (by decide)) | refine AWP.skip ?_ | refine AWP.ret ?_ | refine AWP.exit ?_ | refine Or.inl ?_) | (clear hK K))
  refine AWP.len 0 rfl fun hlen0 => ?_
  (try rw [List.length_map] at hlen0)
  refine AWP.range (S := Unit) (ll) encLL (fun k s => (3, I .i64 (k : Nat)) :: []) (fun k s => []) [0] [] (fun k s => (ll.all fun l => !decide ((80 : Int) < (l.length : Int))) = ((ll.drop k).all fun l => !decide ((80 : Int) < (l.length : Int)))) (()) (by simp only [go_sem, zA, zB, zC, zD, zE, zF, zG, reduceCtorEq, zH, zI, zJ, zK, zL]; exact Gh.to [] (by repeat (first | exact trivial | refine ⟨rfl, ?_⟩ | refine ⟨by (simp only [go_sem, zA, zB, zC, zD, zE, zF, zG, reduceCtorEq, zH, zI, zJ, zK, zL, List.length_append, List.length_map, List.length_cons, List.length_nil, Nat.zero_add]) <;> rfl, ?_⟩)) (by repeat (first | exact trivial | refine ⟨rfl, ?_⟩ | refine ⟨by (simp only [go_sem, zA, zB, zC, zD, zE, zF, zG, reduceCtorEq, zH, zI, zJ, zK, zL, List.length_append, List.length_map, List.length_cons, List.length_nil, Nat.zero_add]) <;> rfl, ?_⟩)) rfl rfl rfl) ?_ ?_ ?_
  · rfl
  · intro k s x hlt hx hx' hb hok
    simp only [go_sem, zA, zB, zC, zD, zE, zF, zG, reduceCtorEq, zH, zI, zJ, zK, zL]
    rw [all_step hx] at hok
    cases hz : decide ((80 : Int) < (x.length : Int)) <;> simp only [hz, Bool.not_true, Bool.not_false, Bool.true_and, Bool.false_and] at hok
    ·
      repeat' (first | (simp only [go_sem, zA, zB, zC, zD, zE, zF, zG, reduceCtorEq, zH, zI, zJ, zK, zL, encLL, List.length_map, hb, hz]; all_goals fail_if_success guard_target =ₛ False) | (with_reducible first | ((first | refine seqVC_stepN rfl ?_ | refine AWP.seq ?_ | refine AWP.seqR (by kernel_rfl) ?_); intro K hK) | ((first | refine hK _ _ _ ?_ | refine hK _ _ ?_ | refine hK _ ?_); clear hK K) | refine seqVC_nil ?_ | refine AWP.block ?_ | (refine AWP.cond (by with_unfolding_all rfl) ?_ ?_ <;> intro h <;> (try simp only [zM, zN] at h) <;> try exact absurd h (by decide)) | refine AWP.skip ?_ | refine AWP.ret ?_ | refine AWP.exit ?_ | refine ⟨by omega, encLL x, hx', ?_⟩ | refine Or.inl ?_) | (clear hK K))
      all_goals (rw [wrap_succ hlt hlen0])
      all_goals (refine ⟨(), ?_, Gh.to [] (by repeat (first | exact trivial | refine ⟨rfl, ?_⟩ | refine ⟨by (simp only [go_sem, zA, zB, zC, zD, zE, zF, zG, reduceCtorEq, zH, zI, zJ, zK, zL, List.length_append, List.length_map, List.length_cons, List.length_nil, Nat.zero_add]) <;> rfl, ?_⟩)) (by repeat (first | exact trivial | refine ⟨rfl, ?_⟩ | refine ⟨by (simp only [go_sem, zA, zB, zC, zD, zE, zF, zG, reduceCtorEq, zH, zI, zJ, zK, zL, List.length_append, List.length_map, List.length_cons, List.length_nil, Nat.zero_add]) <;> rfl, ?_⟩)) rfl rfl rfl⟩)
      all_goals exact hok
    ·
      repeat' (first | (simp only [go_sem, zA, zB, zC, zD, zE, zF, zG, reduceCtorEq, zH, zI, zJ, zK, zL, encLL, List.length_map, hb, hz]; all_goals fail_if_success guard_target =ₛ False) | (with_reducible first | ((first | refine seqVC_stepN rfl ?_ | refine AWP.seq ?_ | refine AWP.seqR (by kernel_rfl) ?_); intro K hK) | ((first | refine hK _ _ _ ?_ | refine hK _ _ ?_ | refine hK _ ?_); clear hK K) | refine seqVC_nil ?_ | refine AWP.block ?_ | (refine AWP.cond (by with_unfolding_all rfl) ?_ ?_ <;> intro h <;> (try simp only [zM, zN] at h) <;> try exact absurd h (by decide)) | refine AWP.skip ?_ | refine AWP.ret ?_ | refine AWP.exit ?_ | refine ⟨by omega, encLL x, hx', ?_⟩ | refine Or.inl ?_) | (clear hK K))
      all_goals (first | exact fun _ h => (by cases h) | (refine fin0 ?_; first | rfl | (simp only [hok, zb, cond_true, cond_false, decide_true, decide_false] <;> rfl)))
  · intro s hb hok
    simp only [go_sem, zA, zB, zC, zD, zE, zF, zG, reduceCtorEq, zH, zI, zJ, zK, zL]
    rw [all_end] at hok
    repeat' (first | (simp only [go_sem, zA, zB, zC, zD, zE, zF, zG, reduceCtorEq, zH, zI, zJ, zK, zL, List.length_map, hb]; all_goals fail_if_success guard_target =ₛ False) | (with_reducible first | ((first | refine seqVC_stepN rfl ?_ | refine AWP.seq ?_ | refine AWP.seqR (by kernel_rfl) ?_); intro K hK) | ((first | refine hK _ _ _ ?_ | refine hK _ _ ?_ | refine hK _ ?_); clear hK K) | refine seqVC_nil ?_ | refine AWP.block ?_ | (refine AWP.cond (by with_unfolding_all rfl) ?_ ?_ <;> intro h <;> (try simp only [zM, zN] at h) <;> try exact absurd h (by decide)) | refine AWP.skip ?_ | refine AWP.ret ?_ | refine AWP.exit ?_ | refine Or.inl ?_) | (clear hK K))
    all_goals (first | exact fun _ h => (by cases h) | (refine fin0 ?_; first | rfl | (simp only [hok, zb, cond_true, cond_false, decide_true, decide_false] <;> rfl)))
theorem tree_leaf (v : Val) (hk : v.kids = []) (he : v.ents = []) : treeB v = nodeB v := by
  rw [treeB_kids, hk, he]; simp
def gX : Grd := ⟨5, [88], 0, [], ⟨0, []⟩, []⟩
theorem gX_ok : okG gX = true := by
  unfold okG
  rw [treeG_eq, cntG_eq]
  decide
theorem awake25_c : PC Tryz.prog 8 [] (Bo true) := by
  have hn : PC Tryz.prog 25 [I .i64 1] (Vt (intVal 1)) := refInt_c 1
  have hs1 : Sm (intVal 1) := by unfold Sm; rw [bulkV_eq]; decide
  have hs2 : Sm nilVal := by unfold Sm; rw [bulkV_eq]; decide
  have hgs : GSm gX := by unfold GSm; rw [cntG_eq]; decide
  have hgt : GSm (kidsG 2 []) := by unfold GSm; rw [cntG_eq]; decide
  have t1 : treeB (intVal 1) = true := by rw [tree_leaf _ rfl rfl]; rfl
  have t2 : treeB nilVal = true := by rw [tree_leaf _ rfl rfl]; rfl
  have v1 : PC Tryz.prog 24 [.st [.int .i64 5, .str [88], .int .i64 0, .str [], .int .i64 0, .str [], .sl 7 []]] (I .i64 0) := by
    have h := validate_g gX hgs
    have hc : codeG gX = 0 := of_decide_eq_true (by rw [code_ok, gX_ok])
    rw [hc, show Gt gX = T.st (encG gX) from rfl, encG_eq] at h
    exact h
  have v2 : PC Tryz.prog 24 [.st [.int .i64 2, .str [], .int .i64 0, .str [], .int .i64 0, .str [], .sl 7 []]] (I .i64 1) := by
    have h := validate_g (kidsG 2 []) hgt
    have hc : codeG (kidsG 2 []) = 1 := by unfold codeG; rw [treeG_eq, cntG_eq]; decide
    rw [hc, kidsG_lit] at h
    exact h
  have e1 : PC Tryz.prog 12 [.st [.int .i64 5, .str [88], .int .i64 0, .str [], .int .i64 0, .str [], .sl 7 []], .one (.dat (.sl 1 [[.str [88]]])), .one (.dat (.sl 7 [encVal (intVal 1)]))] (Bo true) := by
    have h := Evaluate_c [[88]] [intVal 1] (by simpa using hs1) gX hgs
    have hc : evW [[88]] [intVal 1] gX = true := by
      unfold evW; rw [gX_ok, cond_true, evG_eq]
      show (decide (0 ≤ (0 : Int)) && (decide ((0 : Int) < 1) && (treeB (intVal 1) && testV gX (intVal 1)))) = true
      rw [t1]; rfl
    rw [hc, show Gt gX = T.st (encG gX) from rfl, encG_eq] at h
    exact h
  have e2 : PC Tryz.prog 12 [.st [.int .i64 5, .str [88], .int .i64 0, .str [], .int .i64 0, .str [], .sl 7 []], .one (.dat (.sl 1 [[.str [88]]])), .one (.dat (.sl 7 [encVal nilVal]))] (Bo false) := by
    have h := Evaluate_c [[88]] [nilVal] (by simpa using hs2) gX hgs
    have hc : evW [[88]] [nilVal] gX = false := by
      unfold evW; rw [gX_ok, cond_true, evG_eq]
      show (decide (0 ≤ (0 : Int)) && (decide ((0 : Int) < 1) && (treeB nilVal && testV gX nilVal))) = false
      rw [t2]; rfl
    rw [hc, show Gt gX = T.st (encG gX) from rfl, encG_eq] at h
    exact h
  refine PCB.of_body Tryz.func8 rfl (by decide) Tryz.ntmps8 Tryz.results8 rfl rfl rfl ?_ rfl rfl
  repeat' (first | (simp only [go_sem, zA, zB, zC, zD, zE, zF, zG, reduceCtorEq, zH, zI, zJ, zK, zL]; all_goals fail_if_success guard_target =ₛ False) | (with_reducible first | ((first | refine seqVC_stepN rfl ?_ | refine seqVC_stepG rfl (by with_unfolding_all rfl) ?_ | refine AWP.seq ?_ | refine AWP.seqR (by kernel_rfl) ?_ | refine parVC_stepN rfl ?_ | refine parVC_stepG rfl (by with_unfolding_all rfl) ?_ | refine parEVC_stepN rfl ?_ | refine parEVC_stepG rfl (by with_unfolding_all rfl) ?_ | refine genVC_stepN rfl ?_ | refine genVC_stepG rfl (by with_unfolding_all rfl) ?_); intro K hK) | ((first | refine hK _ _ _ ?_ | refine hK _ _ ?_ | refine hK _ ?_); clear hK K) | refine seqVC_nil ?_ | refine parVC_nil ?_ | refine parEVC_nil ?_ | refine genVC_nil ?_ | refine AWP.block ?_ | (refine AWP.cond (by with_unfolding_all rfl) ?_ ?_ <;> intro h <;> (try simp only [zM, zN] at h) <;> try exact absurd h (by decide)) | refine AWP.skip ?_ | refine AWP.ret ?_ | refine AWP.exit ?_ | (refine ⟨fun h => ?_, fun h => ?_⟩ <;> (try simp only [zM, zN] at h) <;> try simp only [h]) | refine ⟨_, v1, ?_⟩ | refine ⟨_, v2, ?_⟩ | refine ⟨_, hn, ?_⟩ | refine ⟨_, refNil_c, ?_⟩ | refine ⟨_, e1, ?_⟩ | refine ⟨_, e2, ?_⟩ | refine AWP.parR mixed (by kernel_rfl) fun K hK => ?_ | refine ⟨(by kernel_rfl : depB _ _ _ = true), ?_⟩ | refine Or.inl ?_) | (clear hK K))
  all_goals (first | exact fun _ h => (by cases h) | (refine fin0 ?_; first | rfl | (simp only [zb, cond_true, cond_false, decide_true, decide_false] <;> rfl)))
end Go.Proofs.YteobojeemflggaaGreat
namespace Go.Proofs
open Go.Shelf
def Tryz.sortS_ren : Go.Shelf.Ren := ⟨fun | 6 => 71 | 8 => 104 | 9 => 103 | 19 => 136 | 20 => 137 | 21 => 127 | 22 => 128 | 23 => 129 | 24 => 130 | 25 => 131 | 26 => 132 | 27 => 133 | 28 => 134 | 29 => 135 | 36 => 155 | 31 => 156 | 32 => 157 | 37 => 158 | 38 => 159 | 39 => 160 | 41 => 168 | n => n, fun | 27 => 23 | 29 => 9 | 3 => 3 | 32 => 110 | 26 => 23 | 0 => 0 | 44 => 131 | 46 => 133 | 4 => 4 | 36 => 123 | 35 => 122 | 41 => 128 | 5 => 5 | 9 => 9 | 53 => 144 | 57 => 148 | 63 => 154 | 64 => 155 | n => n, fun | n => n⟩
theorem Tryz.sortS : Go.Proofs.SlLaysM.n6 Tryz.prog Tryz.sortS_ren := {
  mixed := by kernel_rfl,
  f6 := ⟨"slices.Sort[[]string,string]", by decide, Tryz.func71.trans (congrArg some (by kernel_rfl))⟩,
  f8 := Tryz.func104.trans (congrArg some (by kernel_rfl)),
  f9 := ⟨"slices.pdqsortOrdered[string]", by decide, Tryz.func103.trans (congrArg some (by kernel_rfl))⟩,
  f19 := Tryz.func136.trans (congrArg some (by kernel_rfl)),
  f20 := Tryz.func137.trans (congrArg some (by kernel_rfl)),
  f21 := ⟨"slices.insertionSortOrdered[string]", by decide, Tryz.func127.trans (congrArg some (by kernel_rfl))⟩,
  f22 := ⟨"slices.heapSortOrdered[string]", by decide, Tryz.func128.trans (congrArg some (by kernel_rfl))⟩,
  f23 := ⟨"slices.breakPatternsOrdered[string]", by decide, Tryz.func129.trans (congrArg some (by kernel_rfl))⟩,
  f24 := ⟨"slices.choosePivotOrdered[string]", by decide, Tryz.func130.trans (congrArg some (by kernel_rfl))⟩,
  f25 := ⟨"slices.reverseRangeOrdered[string]", by decide, Tryz.func131.trans (congrArg some (by kernel_rfl))⟩,
  f26 := ⟨"slices.partialInsertionSortOrdered[string]", by decide, Tryz.func132.trans (congrArg some (by kernel_rfl))⟩,
  f27 := ⟨"cmp.Less[string]", by decide, Tryz.func133.trans (congrArg some (by kernel_rfl))⟩,
  f28 := ⟨"slices.partitionEqualOrdered[string]", by decide, Tryz.func134.trans (congrArg some (by kernel_rfl))⟩,
  f29 := ⟨"slices.partitionOrdered[string]", by decide, Tryz.func135.trans (congrArg some (by kernel_rfl))⟩,
  f31 := Tryz.func156.trans (congrArg some (by kernel_rfl)),
  f32 := Tryz.func157.trans (congrArg some (by kernel_rfl)),
  f36 := ⟨"slices.siftDownOrdered[string]", by decide, Tryz.func155.trans (congrArg some (by kernel_rfl))⟩,
  f37 := ⟨"slices.medianAdjacentOrdered[string]", by decide, Tryz.func158.trans (congrArg some (by kernel_rfl))⟩,
  f38 := ⟨"slices.medianOrdered[string]", by decide, Tryz.func159.trans (congrArg some (by kernel_rfl))⟩,
  f39 := ⟨"cmp.isNaN[string]", by decide, Tryz.func160.trans (congrArg some (by kernel_rfl))⟩,
  f41 := ⟨"slices.order2Ordered[string]", by decide, Tryz.func168.trans (congrArg some (by kernel_rfl))⟩,
  t0 := Tryz.underlying0,
  a0 := Tryz.isAgg0,
  z0 := Tryz.sizeOf0,
  v0 := Tryz.zeroValue0,
  t3 := Tryz.underlying3,
  a3 := Tryz.isAgg3,
  z3 := Tryz.sizeOf3,
  v3 := Tryz.zeroValue3,
  t4 := Tryz.underlying4,
  a4 := Tryz.isAgg4,
  z4 := Tryz.sizeOf4,
  v4 := Tryz.zeroValue4,
  t5 := Tryz.underlying5,
  a5 := Tryz.isAgg5,
  z5 := Tryz.sizeOf5,
  v5 := Tryz.zeroValue5,
  t9 := Tryz.underlying9,
  a9 := Tryz.isAgg9,
  z9 := Tryz.sizeOf9,
  v9 := Tryz.zeroValue9,
  t26 := Tryz.underlying23,
  a26 := Tryz.isAgg23,
  z26 := Tryz.sizeOf23,
  v26 := Tryz.zeroValue23,
  t27 := Tryz.underlying23,
  a27 := Tryz.isAgg23,
  z27 := Tryz.sizeOf23,
  v27 := Tryz.zeroValue23,
  t29 := Tryz.underlying9,
  a29 := Tryz.isAgg9,
  z29 := Tryz.sizeOf9,
  v29 := Tryz.zeroValue9,
  t32 := Tryz.underlying110,
  a32 := Tryz.isAgg110,
  z32 := Tryz.sizeOf110,
  v32 := Tryz.zeroValue110,
  t35 := Tryz.underlying122,
  a35 := Tryz.isAgg122,
  z35 := Tryz.sizeOf122,
  v35 := Tryz.zeroValue122,
  t36 := Tryz.underlying123,
  a36 := Tryz.isAgg123,
  z36 := Tryz.sizeOf123,
  v36 := Tryz.zeroValue123,
  t41 := Tryz.underlying128,
  a41 := Tryz.isAgg128,
  z41 := Tryz.sizeOf128,
  v41 := Tryz.zeroValue128,
  t44 := Tryz.underlying131,
  a44 := Tryz.isAgg131,
  z44 := Tryz.sizeOf131,
  v44 := Tryz.zeroValue131,
  t46 := Tryz.underlying133,
  a46 := Tryz.isAgg133,
  z46 := Tryz.sizeOf133,
  v46 := Tryz.zeroValue133,
  t53 := Tryz.underlying144,
  a53 := Tryz.isAgg144,
  z53 := Tryz.sizeOf144,
  v53 := Tryz.zeroValue144,
  t57 := Tryz.underlying148,
  a57 := Tryz.isAgg148,
  z57 := Tryz.sizeOf148,
  v57 := Tryz.zeroValue148,
  t63 := Tryz.underlying154,
  a63 := Tryz.isAgg154,
  z63 := Tryz.sizeOf154,
  v63 := Tryz.zeroValue154,
  t64 := Tryz.underlying155,
  a64 := Tryz.isAgg155,
  z64 := Tryz.sizeOf155,
  v64 := Tryz.zeroValue155 }
def Tryz.compS_ren : Go.Shelf.Ren := ⟨fun | 44 => 73 | n => n, fun | 25 => 23 | 26 => 9 | 3 => 3 | 4 => 4 | 0 => 0 | n => n, fun | n => n⟩
theorem Tryz.compS : Go.Proofs.SlLaysN.n44 Tryz.prog Tryz.compS_ren := {
  mixed := by kernel_rfl,
  f44 := ⟨"slices.Compact[[]string,string]", by decide, Tryz.func73.trans (congrArg some (by kernel_rfl))⟩,
  t0 := Tryz.underlying0,
  a0 := Tryz.isAgg0,
  z0 := Tryz.sizeOf0,
  v0 := Tryz.zeroValue0,
  t3 := Tryz.underlying3,
  a3 := Tryz.isAgg3,
  z3 := Tryz.sizeOf3,
  v3 := Tryz.zeroValue3,
  t4 := Tryz.underlying4,
  a4 := Tryz.isAgg4,
  z4 := Tryz.sizeOf4,
  v4 := Tryz.zeroValue4,
  t25 := Tryz.underlying23,
  a25 := Tryz.isAgg23,
  z25 := Tryz.sizeOf23,
  v25 := Tryz.zeroValue23,
  t26 := Tryz.underlying9,
  a26 := Tryz.isAgg9,
  z26 := Tryz.sizeOf9,
  v26 := Tryz.zeroValue9,
  i26 := by kernel_rfl }
end Go.Proofs
