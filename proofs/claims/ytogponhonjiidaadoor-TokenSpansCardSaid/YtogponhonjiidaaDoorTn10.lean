/- A part of the proof: lemmas about the walk of the program and about plain integers and lists. No conditions beyond those that each lemma states. -/
import Derived.Test.YtogponhonjiidaaDoorTn9
import Derived.Test.YtogponhonjiidaaDoorTn7
set_option linter.unusedSimpArgs false
set_option linter.unusedVariables false
set_option maxRecDepth 20000
set_option maxHeartbeats 16000000
namespace Go.Proofs.YtogponhonjiidaaDoor
open Go Go.Sx
open Nat renaming reduceBEq → zA, reduceBNe → zB, reduceAdd → zC, reduceSub → zD, reduceMul → zE, reduceLeDiff → zF, reduceLT → zG, reduceEqDiff → zH
open Int renaming reduceToNat → zI, reduceLE → zJ, reduceLT → zK, reduceEq → zL
open Bool renaming not_eq_true' → zM, not_eq_false' → zN
def letV (E : Mk) (sort : Int) (env : List NamD) (g : Gn) : List UInt8 × Gn :=
  let a0 := E (drawV (incK g).s 8) env (nxt (incK g) 8)
  let a1 := E sort (env ++ [⟨freshV g, drawV (incK g).s 8⟩]) a0.2
  ([108, 101, 116, 32] ++ freshV g ++ [32, 61, 32] ++ a0.1 ++ [32, 105, 110, 32] ++ a1.1, a1.2)
def raiseV (E : Mk) (env : List NamD) (g : Gn) : List UInt8 × Gn :=
  let a0 := E 7 env g
  ([114, 97, 105, 115, 101, 40] ++ a0.1 ++ [41], a0.2)
theorem e0_c (c : Cst) (hw : c.wild = 0) (hc : CstOk c) (D D1 : Int) (m L : Nat) (E : Mk) (hD : IntKind.i64.wrap (D - 1) = D1) (hD0 : decide (D ≤ 0) = false) (hE : Good c D1 (m + 1) L E) (hL : L ≤ 1000000) (g : Gn) (hg : g.s.ok) (sort : Int) (env : List NamD) (he : EOk m env) (hm : m ≤ 900) (h7 : drawV g.s 7 = 0) : PCB Tryd.prog 56 [Sp 1000000, I .i64 sort, I .i64 D, Envt env] (gB c g) (S (leafV sort env (nxt g 7)).1) (gB c (leafV sort env (nxt g 7)).2) := by
  have hmax : 10000000 ≤ maxLen := by unfold maxLen; omega
  have hw0 : decide (0 < c.wild) = false := by rw [hw]; rfl
  have he1 := he.mono (Nat.le_succ m)
  have hlen1 := he.len
  have r0 := leaf_c c (nxt g 7) (ok_nxt hg 7) sort env (by omega)
  refine PCB.of_body Tryd.func56 rfl (by decide) Tryd.ntmps56 Tryd.results56 rfl rfl rfl ?_ rfl rfl
  repeat' (first | (simp only [go_sem, zA, zB, zC, zD, zE, zF, zG, reduceCtorEq, zH, zI, zJ, zK, zL, Bx.puts, hw0, hD, hD0, List.length_map, h7]; all_goals fail_if_success guard_target =ₛ False) | (with_reducible first | ((first | refine seqVC_stepN rfl ?_ | refine seqVC_stepG rfl (by with_unfolding_all rfl) ?_ | refine AWP.seq ?_ | refine AWP.seqR (by kernel_rfl) ?_ | refine parVC_stepN rfl ?_ | refine parVC_stepG rfl (by with_unfolding_all rfl) ?_ | refine parEVC_stepN rfl ?_ | refine parEVC_stepG rfl (by with_unfolding_all rfl) ?_ | refine genVC_stepN rfl ?_ | refine genVC_stepG rfl (by with_unfolding_all rfl) ?_); intro K hK) | ((first | refine hK _ _ _ ?_ | refine hK _ _ ?_ | refine hK _ ?_); clear hK K) | refine seqVC_nil ?_ | refine parVC_nil ?_ | refine parEVC_nil ?_ | refine genVC_nil ?_ | refine AWP.block ?_ | (refine AWP.cond (by with_unfolding_all rfl) ?_ ?_ <;> intro h <;> (try simp only [zM, zN] at h) <;> try exact absurd h (by decide)) | refine AWP.skip ?_ | refine AWP.ret ?_ | refine AWP.exit ?_ | (refine ⟨fun h => ?_, fun h => ?_⟩ <;> (try simp only [zM, zN] at h) <;> try simp only [h]) | (refine ⟨(by first | omega | (simp only [List.length_append, List.length_map, List.length_take, List.length_drop, List.length_cons, List.length_nil, List.length_replicate]; omega) : _ ≤ _), ?_⟩) | refine ⟨by omega, by omega, ?_⟩) | (refine ⟨1000001, _, _, _, draw_k 1000001 g.s hg 7 (by omega), rfl, ?_⟩) | ( refine Or.inr ⟨_, _, _, r0, ⟨rfl, rfl, trivial⟩, rfl, rfl, ?_⟩) | (with_reducible first | refine AWP.parR mixed (by kernel_rfl) fun K hK => ?_ | refine ⟨(by kernel_rfl : depB _ _ _ = true), ?_⟩ | refine Or.inl ?_) | (clear hK K))
  all_goals first | exact fun x hx => hx | (refine ⟨?_, fun x hx => hx⟩; first | rfl | rfl)
theorem e1a_c (c : Cst) (hw : c.wild = 0) (hc : CstOk c) (D D1 : Int) (m L : Nat) (E : Mk) (hD : IntKind.i64.wrap (D - 1) = D1) (hD0 : decide (D ≤ 0) = false) (hE : Good c D1 (m + 1) L E) (hL : L ≤ 1000000) (g : Gn) (hg : g.s.ok) (sort : Int) (env : List NamD) (he : EOk m env) (hm : m ≤ 900) (h7 : drawV g.s 7 = 1) (hn : 0 < (calsV c.calls sort).length) : PCB Tryd.prog 56 [Sp 1000000, I .i64 sort, I .i64 D, Envt env] (gB c g) (S (callV c E sort env (nxt g 7)).1) (gB c (callV c E sort env (nxt g 7)).2) := by
  have hmax : 10000000 ≤ maxLen := by unfold maxLen; omega
  have hw0 : decide (0 < c.wild) = false := by rw [hw]; rfl
  have he1 := he.mono (Nat.le_succ m)
  have hlen1 := he.len
  have r0 := cals_some c hc D D1 (m + 1) L E hD hE hL (nxt g 7) (ok_nxt hg 7) sort env he1 hn
  refine PCB.of_body Tryd.func56 rfl (by decide) Tryd.ntmps56 Tryd.results56 rfl rfl rfl ?_ rfl rfl
  repeat' (first | (simp only [go_sem, zA, zB, zC, zD, zE, zF, zG, reduceCtorEq, zH, zI, zJ, zK, zL, Bx.puts, hw0, hD, hD0, List.length_map, h7]; all_goals fail_if_success guard_target =ₛ False) | (with_reducible first | ((first | refine seqVC_stepN rfl ?_ | refine seqVC_stepG rfl (by with_unfolding_all rfl) ?_ | refine AWP.seq ?_ | refine AWP.seqR (by kernel_rfl) ?_ | refine parVC_stepN rfl ?_ | refine parVC_stepG rfl (by with_unfolding_all rfl) ?_ | refine parEVC_stepN rfl ?_ | refine parEVC_stepG rfl (by with_unfolding_all rfl) ?_ | refine genVC_stepN rfl ?_ | refine genVC_stepG rfl (by with_unfolding_all rfl) ?_); intro K hK) | ((first | refine hK _ _ _ ?_ | refine hK _ _ ?_ | refine hK _ ?_); clear hK K) | refine seqVC_nil ?_ | refine parVC_nil ?_ | refine parEVC_nil ?_ | refine genVC_nil ?_ | refine AWP.block ?_ | (refine AWP.cond (by with_unfolding_all rfl) ?_ ?_ <;> intro h <;> (try simp only [zM, zN] at h) <;> try exact absurd h (by decide)) | refine AWP.skip ?_ | refine AWP.ret ?_ | refine AWP.exit ?_ | (refine ⟨fun h => ?_, fun h => ?_⟩ <;> (try simp only [zM, zN] at h) <;> try simp only [h]) | (refine ⟨(by first | omega | (simp only [List.length_append, List.length_map, List.length_take, List.length_drop, List.length_cons, List.length_nil, List.length_replicate]; omega) : _ ≤ _), ?_⟩) | refine ⟨by omega, by omega, ?_⟩) | (refine ⟨1000001, _, _, _, draw_k 1000001 g.s hg 7 (by omega), rfl, ?_⟩) | ( refine Or.inr ⟨_, _, _, r0, ⟨rfl, rfl, trivial⟩, rfl, rfl, ?_⟩) | (with_reducible first | refine AWP.parR mixed (by kernel_rfl) fun K hK => ?_ | refine ⟨(by kernel_rfl : depB _ _ _ = true), ?_⟩ | refine Or.inl ?_) | (clear hK K))
  all_goals first | exact fun x hx => hx | (refine ⟨?_, fun x hx => hx⟩; first | rfl | rfl)
theorem e1b_c (c : Cst) (hw : c.wild = 0) (hc : CstOk c) (D D1 : Int) (m L : Nat) (E : Mk) (hD : IntKind.i64.wrap (D - 1) = D1) (hD0 : decide (D ≤ 0) = false) (hE : Good c D1 (m + 1) L E) (hL : L ≤ 1000000) (g : Gn) (hg : g.s.ok) (sort : Int) (env : List NamD) (he : EOk m env) (hm : m ≤ 900) (h7 : drawV g.s 7 = 1) (hn : (calsV c.calls sort).length = 0) : PCB Tryd.prog 56 [Sp 1000000, I .i64 sort, I .i64 D, Envt env] (gB c g) (S (specialV E sort env (nxt g 7)).1) (gB c (specialV E sort env (nxt g 7)).2) := by
  have hmax : 10000000 ≤ maxLen := by unfold maxLen; omega
  have hw0 : decide (0 < c.wild) = false := by rw [hw]; rfl
  have he1 := he.mono (Nat.le_succ m)
  have hlen1 := he.len
  have r0 := cals_none c hc D (nxt g 7) sort env hn
  have r1 := special_c c D D1 m L E hD hE hL (nxt g 7) (ok_nxt hg 7) sort env he hm
  refine PCB.of_body Tryd.func56 rfl (by decide) Tryd.ntmps56 Tryd.results56 rfl rfl rfl ?_ rfl rfl
  repeat' (first | (simp only [go_sem, zA, zB, zC, zD, zE, zF, zG, reduceCtorEq, zH, zI, zJ, zK, zL, Bx.puts, hw0, hD, hD0, List.length_map, h7]; all_goals fail_if_success guard_target =ₛ False) | (with_reducible first | ((first | refine seqVC_stepN rfl ?_ | refine seqVC_stepG rfl (by with_unfolding_all rfl) ?_ | refine AWP.seq ?_ | refine AWP.seqR (by kernel_rfl) ?_ | refine parVC_stepN rfl ?_ | refine parVC_stepG rfl (by with_unfolding_all rfl) ?_ | refine parEVC_stepN rfl ?_ | refine parEVC_stepG rfl (by with_unfolding_all rfl) ?_ | refine genVC_stepN rfl ?_ | refine genVC_stepG rfl (by with_unfolding_all rfl) ?_); intro K hK) | ((first | refine hK _ _ _ ?_ | refine hK _ _ ?_ | refine hK _ ?_); clear hK K) | refine seqVC_nil ?_ | refine parVC_nil ?_ | refine parEVC_nil ?_ | refine genVC_nil ?_ | refine AWP.block ?_ | (refine AWP.cond (by with_unfolding_all rfl) ?_ ?_ <;> intro h <;> (try simp only [zM, zN] at h) <;> try exact absurd h (by decide)) | refine AWP.skip ?_ | refine AWP.ret ?_ | refine AWP.exit ?_ | (refine ⟨fun h => ?_, fun h => ?_⟩ <;> (try simp only [zM, zN] at h) <;> try simp only [h]) | (refine ⟨(by first | omega | (simp only [List.length_append, List.length_map, List.length_take, List.length_drop, List.length_cons, List.length_nil, List.length_replicate]; omega) : _ ≤ _), ?_⟩) | refine ⟨by omega, by omega, ?_⟩) | (refine ⟨1000001, _, _, _, draw_k 1000001 g.s hg 7 (by omega), rfl, ?_⟩) | ( refine Or.inr ⟨_, _, _, r0, ⟨rfl, rfl, trivial⟩, rfl, rfl, ?_⟩) | ( refine Or.inr ⟨_, _, _, r1, ⟨rfl, rfl, trivial⟩, rfl, rfl, ?_⟩) | (with_reducible first | refine AWP.parR mixed (by kernel_rfl) fun K hK => ?_ | refine ⟨(by kernel_rfl : depB _ _ _ = true), ?_⟩ | refine Or.inl ?_) | (clear hK K))
  all_goals first | exact fun x hx => hx | (refine ⟨?_, fun x hx => hx⟩; first | rfl | rfl)
theorem e2_c (c : Cst) (hw : c.wild = 0) (hc : CstOk c) (D D1 : Int) (m L : Nat) (E : Mk) (hD : IntKind.i64.wrap (D - 1) = D1) (hD0 : decide (D ≤ 0) = false) (hE : Good c D1 (m + 1) L E) (hL : L ≤ 1000000) (g : Gn) (hg : g.s.ok) (sort : Int) (env : List NamD) (he : EOk m env) (hm : m ≤ 900) (h7 : drawV g.s 7 = 2) : PCB Tryd.prog 56 [Sp 1000000, I .i64 sort, I .i64 D, Envt env] (gB c g) (S (branchV E sort env (nxt g 7)).1) (gB c (branchV E sort env (nxt g 7)).2) := by
  have hmax : 10000000 ≤ maxLen := by unfold maxLen; omega
  have hw0 : decide (0 < c.wild) = false := by rw [hw]; rfl
  have he1 := he.mono (Nat.le_succ m)
  have hlen1 := he.len
  have r0 := branch_c c D D1 m L E hD hE hL (nxt g 7) (ok_nxt hg 7) sort env he hm
  refine PCB.of_body Tryd.func56 rfl (by decide) Tryd.ntmps56 Tryd.results56 rfl rfl rfl ?_ rfl rfl
  repeat' (first | (simp only [go_sem, zA, zB, zC, zD, zE, zF, zG, reduceCtorEq, zH, zI, zJ, zK, zL, Bx.puts, hw0, hD, hD0, List.length_map, h7]; all_goals fail_if_success guard_target =ₛ False) | (with_reducible first | ((first | refine seqVC_stepN rfl ?_ | refine seqVC_stepG rfl (by with_unfolding_all rfl) ?_ | refine AWP.seq ?_ | refine AWP.seqR (by kernel_rfl) ?_ | refine parVC_stepN rfl ?_ | refine parVC_stepG rfl (by with_unfolding_all rfl) ?_ | refine parEVC_stepN rfl ?_ | refine parEVC_stepG rfl (by with_unfolding_all rfl) ?_ | refine genVC_stepN rfl ?_ | refine genVC_stepG rfl (by with_unfolding_all rfl) ?_); intro K hK) | ((first | refine hK _ _ _ ?_ | refine hK _ _ ?_ | refine hK _ ?_); clear hK K) | refine seqVC_nil ?_ | refine parVC_nil ?_ | refine parEVC_nil ?_ | refine genVC_nil ?_ | refine AWP.block ?_ | (refine AWP.cond (by with_unfolding_all rfl) ?_ ?_ <;> intro h <;> (try simp only [zM, zN] at h) <;> try exact absurd h (by decide)) | refine AWP.skip ?_ | refine AWP.ret ?_ | refine AWP.exit ?_ | (refine ⟨fun h => ?_, fun h => ?_⟩ <;> (try simp only [zM, zN] at h) <;> try simp only [h]) | (refine ⟨(by first | omega | (simp only [List.length_append, List.length_map, List.length_take, List.length_drop, List.length_cons, List.length_nil, List.length_replicate]; omega) : _ ≤ _), ?_⟩) | refine ⟨by omega, by omega, ?_⟩) | (refine ⟨1000001, _, _, _, draw_k 1000001 g.s hg 7 (by omega), rfl, ?_⟩) | ( refine Or.inr ⟨_, _, _, r0, ⟨rfl, rfl, trivial⟩, rfl, rfl, ?_⟩) | (with_reducible first | refine AWP.parR mixed (by kernel_rfl) fun K hK => ?_ | refine ⟨(by kernel_rfl : depB _ _ _ = true), ?_⟩ | refine Or.inl ?_) | (clear hK K))
  all_goals first | exact fun x hx => hx | (refine ⟨?_, fun x hx => hx⟩; first | rfl | rfl)
theorem e4a_c (c : Cst) (hw : c.wild = 0) (hc : CstOk c) (D D1 : Int) (m L : Nat) (E : Mk) (hD : IntKind.i64.wrap (D - 1) = D1) (hD0 : decide (D ≤ 0) = false) (hE : Good c D1 (m + 1) L E) (hL : L ≤ 1000000) (g : Gn) (hg : g.s.ok) (sort : Int) (env : List NamD) (he : EOk m env) (hm : m ≤ 900) (h7 : drawV g.s 7 = 4) (hmy : c.many = true) : PCB Tryd.prog 56 [Sp 1000000, I .i64 sort, I .i64 D, Envt env] (gB c g) (S (processV E sort env (nxt g 7)).1) (gB c (processV E sort env (nxt g 7)).2) := by
  have hmax : 10000000 ≤ maxLen := by unfold maxLen; omega
  have hw0 : decide (0 < c.wild) = false := by rw [hw]; rfl
  have he1 := he.mono (Nat.le_succ m)
  have hlen1 := he.len
  have r0 := process_c c D D1 m L E hD hE hL (nxt g 7) (ok_nxt hg 7) sort env he hm
  refine PCB.of_body Tryd.func56 rfl (by decide) Tryd.ntmps56 Tryd.results56 rfl rfl rfl ?_ rfl rfl
  repeat' (first | (simp only [go_sem, zA, zB, zC, zD, zE, zF, zG, reduceCtorEq, zH, zI, zJ, zK, zL, Bx.puts, hw0, hD, hD0, List.length_map, h7, hmy]; all_goals fail_if_success guard_target =ₛ False) | (with_reducible first | ((first | refine seqVC_stepN rfl ?_ | refine seqVC_stepG rfl (by with_unfolding_all rfl) ?_ | refine AWP.seq ?_ | refine AWP.seqR (by kernel_rfl) ?_ | refine parVC_stepN rfl ?_ | refine parVC_stepG rfl (by with_unfolding_all rfl) ?_ | refine parEVC_stepN rfl ?_ | refine parEVC_stepG rfl (by with_unfolding_all rfl) ?_ | refine genVC_stepN rfl ?_ | refine genVC_stepG rfl (by with_unfolding_all rfl) ?_); intro K hK) | ((first | refine hK _ _ _ ?_ | refine hK _ _ ?_ | refine hK _ ?_); clear hK K) | refine seqVC_nil ?_ | refine parVC_nil ?_ | refine parEVC_nil ?_ | refine genVC_nil ?_ | refine AWP.block ?_ | (refine AWP.cond (by with_unfolding_all rfl) ?_ ?_ <;> intro h <;> (try simp only [zM, zN] at h) <;> try exact absurd h (by decide)) | refine AWP.skip ?_ | refine AWP.ret ?_ | refine AWP.exit ?_ | (refine ⟨fun h => ?_, fun h => ?_⟩ <;> (try simp only [zM, zN] at h) <;> try simp only [h]) | (refine ⟨(by first | omega | (simp only [List.length_append, List.length_map, List.length_take, List.length_drop, List.length_cons, List.length_nil, List.length_replicate]; omega) : _ ≤ _), ?_⟩) | refine ⟨by omega, by omega, ?_⟩) | (refine ⟨1000001, _, _, _, draw_k 1000001 g.s hg 7 (by omega), rfl, ?_⟩) | ( refine Or.inr ⟨_, _, _, r0, ⟨rfl, rfl, trivial⟩, rfl, rfl, ?_⟩) | (with_reducible first | refine AWP.parR mixed (by kernel_rfl) fun K hK => ?_ | refine ⟨(by kernel_rfl : depB _ _ _ = true), ?_⟩ | refine Or.inl ?_) | (clear hK K))
  all_goals first | exact fun x hx => hx | (refine ⟨?_, fun x hx => hx⟩; first | rfl | rfl)
theorem e4b_c (c : Cst) (hw : c.wild = 0) (hc : CstOk c) (D D1 : Int) (m L : Nat) (E : Mk) (hD : IntKind.i64.wrap (D - 1) = D1) (hD0 : decide (D ≤ 0) = false) (hE : Good c D1 (m + 1) L E) (hL : L ≤ 1000000) (g : Gn) (hg : g.s.ok) (sort : Int) (env : List NamD) (he : EOk m env) (hm : m ≤ 900) (h7 : drawV g.s 7 = 4) (hmy : c.many = false) : PCB Tryd.prog 56 [Sp 1000000, I .i64 sort, I .i64 D, Envt env] (gB c g) (S (specialV E sort env (nxt g 7)).1) (gB c (specialV E sort env (nxt g 7)).2) := by
  have hmax : 10000000 ≤ maxLen := by unfold maxLen; omega
  have hw0 : decide (0 < c.wild) = false := by rw [hw]; rfl
  have he1 := he.mono (Nat.le_succ m)
  have hlen1 := he.len
  have r0 := special_c c D D1 m L E hD hE hL (nxt g 7) (ok_nxt hg 7) sort env he hm
  refine PCB.of_body Tryd.func56 rfl (by decide) Tryd.ntmps56 Tryd.results56 rfl rfl rfl ?_ rfl rfl
  repeat' (first | (simp only [go_sem, zA, zB, zC, zD, zE, zF, zG, reduceCtorEq, zH, zI, zJ, zK, zL, Bx.puts, hw0, hD, hD0, List.length_map, h7, hmy]; all_goals fail_if_success guard_target =ₛ False) | (with_reducible first | ((first | refine seqVC_stepN rfl ?_ | refine seqVC_stepG rfl (by with_unfolding_all rfl) ?_ | refine AWP.seq ?_ | refine AWP.seqR (by kernel_rfl) ?_ | refine parVC_stepN rfl ?_ | refine parVC_stepG rfl (by with_unfolding_all rfl) ?_ | refine parEVC_stepN rfl ?_ | refine parEVC_stepG rfl (by with_unfolding_all rfl) ?_ | refine genVC_stepN rfl ?_ | refine genVC_stepG rfl (by with_unfolding_all rfl) ?_); intro K hK) | ((first | refine hK _ _ _ ?_ | refine hK _ _ ?_ | refine hK _ ?_); clear hK K) | refine seqVC_nil ?_ | refine parVC_nil ?_ | refine parEVC_nil ?_ | refine genVC_nil ?_ | refine AWP.block ?_ | (refine AWP.cond (by with_unfolding_all rfl) ?_ ?_ <;> intro h <;> (try simp only [zM, zN] at h) <;> try exact absurd h (by decide)) | refine AWP.skip ?_ | refine AWP.ret ?_ | refine AWP.exit ?_ | (refine ⟨fun h => ?_, fun h => ?_⟩ <;> (try simp only [zM, zN] at h) <;> try simp only [h]) | (refine ⟨(by first | omega | (simp only [List.length_append, List.length_map, List.length_take, List.length_drop, List.length_cons, List.length_nil, List.length_replicate]; omega) : _ ≤ _), ?_⟩) | refine ⟨by omega, by omega, ?_⟩) | (refine ⟨1000001, _, _, _, draw_k 1000001 g.s hg 7 (by omega), rfl, ?_⟩) | ( refine Or.inr ⟨_, _, _, r0, ⟨rfl, rfl, trivial⟩, rfl, rfl, ?_⟩) | (with_reducible first | refine AWP.parR mixed (by kernel_rfl) fun K hK => ?_ | refine ⟨(by kernel_rfl : depB _ _ _ = true), ?_⟩ | refine Or.inl ?_) | (clear hK K))
  all_goals first | exact fun x hx => hx | (refine ⟨?_, fun x hx => hx⟩; first | rfl | rfl)
theorem e5a_c (c : Cst) (hw : c.wild = 0) (hc : CstOk c) (D D1 : Int) (m L : Nat) (E : Mk) (hD : IntKind.i64.wrap (D - 1) = D1) (hD0 : decide (D ≤ 0) = false) (hE : Good c D1 (m + 1) L E) (hL : L ≤ 1000000) (g : Gn) (hg : g.s.ok) (sort : Int) (env : List NamD) (he : EOk m env) (hm : m ≤ 900) (h7 : drawV g.s 7 = 5) (h6 : drawV (nxt g 7).s 6 = 5) : PCB Tryd.prog 56 [Sp 1000000, I .i64 sort, I .i64 D, Envt env] (gB c g) (S (raiseV E env (nxt (nxt g 7) 6)).1) (gB c (raiseV E env (nxt (nxt g 7) 6)).2) := by
  have hmax : 10000000 ≤ maxLen := by unfold maxLen; omega
  have hw0 : decide (0 < c.wild) = false := by rw [hw]; rfl
  have he1 := he.mono (Nat.le_succ m)
  have hlen1 := he.len
  have r0 := hE.run 7 env (nxt (nxt g 7) 6) (ok_nxt (ok_nxt hg 7) 6) he1
  have l0 := hE.len 7 env (nxt (nxt g 7) 6) (ok_nxt (ok_nxt hg 7) 6) he1
  refine PCB.of_body Tryd.func56 rfl (by decide) Tryd.ntmps56 Tryd.results56 rfl rfl rfl ?_ rfl rfl
  repeat' (first | (simp only [go_sem, zA, zB, zC, zD, zE, zF, zG, reduceCtorEq, zH, zI, zJ, zK, zL, Bx.puts, hw0, hD, hD0, List.length_map, h7, h6]; all_goals fail_if_success guard_target =ₛ False) | (with_reducible first | ((first | refine seqVC_stepN rfl ?_ | refine seqVC_stepG rfl (by with_unfolding_all rfl) ?_ | refine AWP.seq ?_ | refine AWP.seqR (by kernel_rfl) ?_ | refine parVC_stepN rfl ?_ | refine parVC_stepG rfl (by with_unfolding_all rfl) ?_ | refine parEVC_stepN rfl ?_ | refine parEVC_stepG rfl (by with_unfolding_all rfl) ?_ | refine genVC_stepN rfl ?_ | refine genVC_stepG rfl (by with_unfolding_all rfl) ?_); intro K hK) | ((first | refine hK _ _ _ ?_ | refine hK _ _ ?_ | refine hK _ ?_); clear hK K) | refine seqVC_nil ?_ | refine parVC_nil ?_ | refine parEVC_nil ?_ | refine genVC_nil ?_ | refine AWP.block ?_ | (refine AWP.cond (by with_unfolding_all rfl) ?_ ?_ <;> intro h <;> (try simp only [zM, zN] at h) <;> try exact absurd h (by decide)) | refine AWP.skip ?_ | refine AWP.ret ?_ | refine AWP.exit ?_ | (refine ⟨fun h => ?_, fun h => ?_⟩ <;> (try simp only [zM, zN] at h) <;> try simp only [h]) | (refine ⟨(by first | omega | (simp only [List.length_append, List.length_map, List.length_take, List.length_drop, List.length_cons, List.length_nil, List.length_replicate]; omega) : _ ≤ _), ?_⟩) | refine ⟨by omega, by omega, ?_⟩) | (refine ⟨1000001, _, _, _, draw_k 1000001 g.s hg 7 (by omega), rfl, ?_⟩) | (refine ⟨1000001, _, _, _, draw_k 1000001 (nxt g 7).s (ok_nxt hg 7) 6 (by omega), rfl, ?_⟩) | ( refine Or.inr ⟨_, _, _, r0, ⟨rfl, rfl, trivial⟩, rfl, rfl, ?_⟩) | (with_reducible first | refine AWP.parR mixed (by kernel_rfl) fun K hK => ?_ | refine ⟨(by kernel_rfl : depB _ _ _ = true), ?_⟩ | refine Or.inl ?_) | (clear hK K))
  all_goals first | exact fun x hx => hx | (refine ⟨?_, fun x hx => hx⟩; first | rfl | (simp only [raiseV, List.append_assoc, List.cons_append, List.nil_append]))
theorem e5b_c (c : Cst) (hw : c.wild = 0) (hc : CstOk c) (D D1 : Int) (m L : Nat) (E : Mk) (hD : IntKind.i64.wrap (D - 1) = D1) (hD0 : decide (D ≤ 0) = false) (hE : Good c D1 (m + 1) L E) (hL : L ≤ 1000000) (g : Gn) (hg : g.s.ok) (sort : Int) (env : List NamD) (he : EOk m env) (hm : m ≤ 900) (h7 : drawV g.s 7 = 5) (h6 : decide (drawV (nxt g 7).s 6 = 5) = false) : PCB Tryd.prog 56 [Sp 1000000, I .i64 sort, I .i64 D, Envt env] (gB c g) (S (specialV E sort env (nxt (nxt g 7) 6)).1) (gB c (specialV E sort env (nxt (nxt g 7) 6)).2) := by
  have hmax : 10000000 ≤ maxLen := by unfold maxLen; omega
  have hw0 : decide (0 < c.wild) = false := by rw [hw]; rfl
  have he1 := he.mono (Nat.le_succ m)
  have hlen1 := he.len
  have r0 := special_c c D D1 m L E hD hE hL (nxt (nxt g 7) 6) (ok_nxt (ok_nxt hg 7) 6) sort env he hm
  refine PCB.of_body Tryd.func56 rfl (by decide) Tryd.ntmps56 Tryd.results56 rfl rfl rfl ?_ rfl rfl
  repeat' (first | (simp only [go_sem, zA, zB, zC, zD, zE, zF, zG, reduceCtorEq, zH, zI, zJ, zK, zL, Bx.puts, hw0, hD, hD0, List.length_map, h7, h6]; all_goals fail_if_success guard_target =ₛ False) | (with_reducible first | ((first | refine seqVC_stepN rfl ?_ | refine seqVC_stepG rfl (by with_unfolding_all rfl) ?_ | refine AWP.seq ?_ | refine AWP.seqR (by kernel_rfl) ?_ | refine parVC_stepN rfl ?_ | refine parVC_stepG rfl (by with_unfolding_all rfl) ?_ | refine parEVC_stepN rfl ?_ | refine parEVC_stepG rfl (by with_unfolding_all rfl) ?_ | refine genVC_stepN rfl ?_ | refine genVC_stepG rfl (by with_unfolding_all rfl) ?_); intro K hK) | ((first | refine hK _ _ _ ?_ | refine hK _ _ ?_ | refine hK _ ?_); clear hK K) | refine seqVC_nil ?_ | refine parVC_nil ?_ | refine parEVC_nil ?_ | refine genVC_nil ?_ | refine AWP.block ?_ | (refine AWP.cond (by with_unfolding_all rfl) ?_ ?_ <;> intro h <;> (try simp only [zM, zN] at h) <;> try exact absurd h (by decide)) | refine AWP.skip ?_ | refine AWP.ret ?_ | refine AWP.exit ?_ | (refine ⟨fun h => ?_, fun h => ?_⟩ <;> (try simp only [zM, zN] at h) <;> try simp only [h]) | (refine ⟨(by first | omega | (simp only [List.length_append, List.length_map, List.length_take, List.length_drop, List.length_cons, List.length_nil, List.length_replicate]; omega) : _ ≤ _), ?_⟩) | refine ⟨by omega, by omega, ?_⟩) | (refine ⟨1000001, _, _, _, draw_k 1000001 g.s hg 7 (by omega), rfl, ?_⟩) | (refine ⟨1000001, _, _, _, draw_k 1000001 (nxt g 7).s (ok_nxt hg 7) 6 (by omega), rfl, ?_⟩) | ( refine Or.inr ⟨_, _, _, r0, ⟨rfl, rfl, trivial⟩, rfl, rfl, ?_⟩) | (with_reducible first | refine AWP.parR mixed (by kernel_rfl) fun K hK => ?_ | refine ⟨(by kernel_rfl : depB _ _ _ = true), ?_⟩ | refine Or.inl ?_) | (clear hK K))
  all_goals first | exact fun x hx => hx | (refine ⟨?_, fun x hx => hx⟩; first | rfl | rfl)
theorem e6_c (c : Cst) (hw : c.wild = 0) (hc : CstOk c) (D D1 : Int) (m L : Nat) (E : Mk) (hD : IntKind.i64.wrap (D - 1) = D1) (hD0 : decide (D ≤ 0) = false) (hE : Good c D1 (m + 1) L E) (hL : L ≤ 1000000) (g : Gn) (hg : g.s.ok) (sort : Int) (env : List NamD) (he : EOk m env) (hm : m ≤ 900) (h7 : drawV g.s 7 = 6) : PCB Tryd.prog 56 [Sp 1000000, I .i64 sort, I .i64 D, Envt env] (gB c g) (S (specialV E sort env (nxt g 7)).1) (gB c (specialV E sort env (nxt g 7)).2) := by
  have hmax : 10000000 ≤ maxLen := by unfold maxLen; omega
  have hw0 : decide (0 < c.wild) = false := by rw [hw]; rfl
  have he1 := he.mono (Nat.le_succ m)
  have hlen1 := he.len
  have r0 := special_c c D D1 m L E hD hE hL (nxt g 7) (ok_nxt hg 7) sort env he hm
  refine PCB.of_body Tryd.func56 rfl (by decide) Tryd.ntmps56 Tryd.results56 rfl rfl rfl ?_ rfl rfl
  repeat' (first | (simp only [go_sem, zA, zB, zC, zD, zE, zF, zG, reduceCtorEq, zH, zI, zJ, zK, zL, Bx.puts, hw0, hD, hD0, List.length_map, h7]; all_goals fail_if_success guard_target =ₛ False) | (with_reducible first | ((first | refine seqVC_stepN rfl ?_ | refine seqVC_stepG rfl (by with_unfolding_all rfl) ?_ | refine AWP.seq ?_ | refine AWP.seqR (by kernel_rfl) ?_ | refine parVC_stepN rfl ?_ | refine parVC_stepG rfl (by with_unfolding_all rfl) ?_ | refine parEVC_stepN rfl ?_ | refine parEVC_stepG rfl (by with_unfolding_all rfl) ?_ | refine genVC_stepN rfl ?_ | refine genVC_stepG rfl (by with_unfolding_all rfl) ?_); intro K hK) | ((first | refine hK _ _ _ ?_ | refine hK _ _ ?_ | refine hK _ ?_); clear hK K) | refine seqVC_nil ?_ | refine parVC_nil ?_ | refine parEVC_nil ?_ | refine genVC_nil ?_ | refine AWP.block ?_ | (refine AWP.cond (by with_unfolding_all rfl) ?_ ?_ <;> intro h <;> (try simp only [zM, zN] at h) <;> try exact absurd h (by decide)) | refine AWP.skip ?_ | refine AWP.ret ?_ | refine AWP.exit ?_ | (refine ⟨fun h => ?_, fun h => ?_⟩ <;> (try simp only [zM, zN] at h) <;> try simp only [h]) | (refine ⟨(by first | omega | (simp only [List.length_append, List.length_map, List.length_take, List.length_drop, List.length_cons, List.length_nil, List.length_replicate]; omega) : _ ≤ _), ?_⟩) | refine ⟨by omega, by omega, ?_⟩) | (refine ⟨1000001, _, _, _, draw_k 1000001 g.s hg 7 (by omega), rfl, ?_⟩) | ( refine Or.inr ⟨_, _, _, r0, ⟨rfl, rfl, trivial⟩, rfl, rfl, ?_⟩) | (with_reducible first | refine AWP.parR mixed (by kernel_rfl) fun K hK => ?_ | refine ⟨(by kernel_rfl : depB _ _ _ = true), ?_⟩ | refine Or.inl ?_) | (clear hK K))
  all_goals first | exact fun x hx => hx | (refine ⟨?_, fun x hx => hx⟩; first | rfl | rfl)
theorem e3_c (c : Cst) (hw : c.wild = 0) (hc : CstOk c) (D D1 : Int) (m L : Nat) (E : Mk) (hD : IntKind.i64.wrap (D - 1) = D1) (hD0 : decide (D ≤ 0) = false) (hE : Good c D1 (m + 1) L E) (hL : L ≤ 1000000) (g : Gn) (hg : g.s.ok) (sort : Int) (env : List NamD) (he : EOk m env) (hm : m ≤ 900) (h7 : drawV g.s 7 = 3) : PCB Tryd.prog 56 [Sp 1000000, I .i64 sort, I .i64 D, Envt env] (gB c g) (S (letV E sort env (nxt g 7)).1) (gB c (letV E sort env (nxt g 7)).2) := by
  have hmax : 10000000 ≤ maxLen := by unfold maxLen; omega
  have hw0 : decide (0 < c.wild) = false := by rw [hw]; rfl
  have he1 := he.mono (Nat.le_succ m)
  have hlen1 := he.len
  have hlf := freshV_len (nxt g 7)
  have hok8 := ok_nxt (g := incK (nxt g 7)) (ok_nxt hg 7) 8
  have r0 := hE.run (drawV (incK (nxt g 7)).s 8) env (nxt (incK (nxt g 7)) 8) hok8 he1
  have k0 := hE.ok (drawV (incK (nxt g 7)).s 8) env (nxt (incK (nxt g 7)) 8) hok8 he1
  have l0 := hE.len (drawV (incK (nxt g 7)).s 8) env (nxt (incK (nxt g 7)) 8) hok8 he1
  have hein : EOk (m + 1) (env ++ [(⟨freshV (nxt g 7), drawV (incK (nxt g 7)).s 8⟩ : NamD)]) := he.snoc _ (by simp only; omega)
  have hlen2 := hein.len
  have r1 := hE.run sort (env ++ [⟨freshV (nxt g 7), drawV (incK (nxt g 7)).s 8⟩]) (E (drawV (incK (nxt g 7)).s 8) env (nxt (incK (nxt g 7)) 8)).2 k0 hein
  have l1 := hE.len sort (env ++ [⟨freshV (nxt g 7), drawV (incK (nxt g 7)).s 8⟩]) (E (drawV (incK (nxt g 7)).s 8) env (nxt (incK (nxt g 7)) 8)).2 k0 hein
  refine PCB.of_body Tryd.func56 rfl (by decide) Tryd.ntmps56 Tryd.results56 rfl rfl rfl ?_ rfl rfl
  repeat' (first | (simp only [go_sem, zA, zB, zC, zD, zE, zF, zG, reduceCtorEq, zH, zI, zJ, zK, zL, Bx.puts, hw0, hD, hD0, h7, nam_snoc, List.length_map]; all_goals fail_if_success guard_target =ₛ False) | (with_reducible first | ((first | refine seqVC_stepN rfl ?_ | refine seqVC_stepG rfl (by with_unfolding_all rfl) ?_ | refine AWP.seq ?_ | refine AWP.seqR (by kernel_rfl) ?_ | refine parVC_stepN rfl ?_ | refine parVC_stepG rfl (by with_unfolding_all rfl) ?_ | refine parEVC_stepN rfl ?_ | refine parEVC_stepG rfl (by with_unfolding_all rfl) ?_ | refine genVC_stepN rfl ?_ | refine genVC_stepG rfl (by with_unfolding_all rfl) ?_); intro K hK) | ((first | refine hK _ _ _ ?_ | refine hK _ _ ?_ | refine hK _ ?_); clear hK K) | refine seqVC_nil ?_ | refine parVC_nil ?_ | refine parEVC_nil ?_ | refine genVC_nil ?_ | refine AWP.block ?_ | (refine AWP.cond (by with_unfolding_all rfl) ?_ ?_ <;> intro h <;> (try simp only [zM, zN] at h) <;> try exact absurd h (by decide)) | refine AWP.skip ?_ | refine AWP.ret ?_ | refine AWP.exit ?_ | (refine ⟨fun h => ?_, fun h => ?_⟩ <;> (try simp only [zM, zN] at h) <;> try simp only [h]) | (refine ⟨(by first | omega | (simp only [List.length_append, List.length_map, List.length_take, List.length_drop, List.length_cons, List.length_nil, List.length_replicate]; omega) : _ ≤ _), ?_⟩) | refine ⟨by omega, by omega, ?_⟩) | (refine ⟨1000001, _, _, _, draw_k 1000001 g.s hg 7 (by omega), rfl, ?_⟩) | ( refine Or.inr ⟨_, _, _, fresh_c c (nxt g 7), ⟨rfl, rfl, trivial⟩, rfl, rfl, ?_⟩) | (refine ⟨1000001, _, _, _, draw_k 1000001 (incK (nxt g 7)).s (ok_nxt hg 7) 8 (by omega), rfl, ?_⟩) | ( refine Or.inr ⟨_, _, _, r0, ⟨rfl, rfl, trivial⟩, rfl, rfl, ?_⟩) | ( refine Or.inr ⟨rfl, (by simp only [go_sem, T.frOks, List.length_map]; exact fun _ => trivial), _, _, _, r1, ⟨rfl, rfl, trivial⟩, rfl, rfl, ?_⟩) | (with_reducible first | refine AWP.parR mixed (by kernel_rfl) fun K hK => ?_ | refine ⟨(by kernel_rfl : depB _ _ _ = true), ?_⟩ | refine Or.inl ?_) | (clear hK K))
  all_goals (refine ⟨?_, fun x hx => hx⟩; first | rfl | (simp only [letV, List.append_assoc, List.cons_append, List.nil_append]))
theorem letV_fine {c : Cst} {D : Int} {m L : Nat} {E : Mk} (hE : Good c D (m + 1) L E) (g : Gn) (hg : g.s.ok) (sort : Int) (env : List NamD) (he : EOk m env) : Fine (3 * L + 1000) (letV E sort env g) := by
  have he1 := he.mono (Nat.le_succ m)
  have hlf := freshV_len g
  have hok8 := ok_nxt (g := incK g) hg 8
  have k0 := hE.ok (drawV (incK g).s 8) env (nxt (incK g) 8) hok8 he1
  have l0 := hE.len (drawV (incK g).s 8) env (nxt (incK g) 8) hok8 he1
  have hein : EOk (m + 1) (env ++ [(⟨freshV g, drawV (incK g).s 8⟩ : NamD)]) := he.snoc _ (by simp only; omega)
  have k1 := hE.ok sort (env ++ [⟨freshV g, drawV (incK g).s 8⟩]) (E (drawV (incK g).s 8) env (nxt (incK g) 8)).2 k0 hein
  have l1 := hE.len sort (env ++ [⟨freshV g, drawV (incK g).s 8⟩]) (E (drawV (incK g).s 8) env (nxt (incK g) 8)).2 k0 hein
  exact ⟨k1, by simp only [letV, List.length_append, List.length_cons, List.length_nil]; omega⟩
theorem raiseV_fine {c : Cst} {D : Int} {m L : Nat} {E : Mk} (hE : Good c D m L E) (g : Gn) (hg : g.s.ok) (env : List NamD) (he : EOk m env) : Fine (3 * L + 1000) (raiseV E env g) := by
  have k0 := hE.ok 7 env g hg he
  have l0 := hE.len 7 env g hg he
  exact ⟨k0, by simp only [raiseV, List.length_append, List.length_cons, List.length_nil]; omega⟩
/-- an expression of one level more -/
def stepE (c : Cst) (E : Mk) (sort : Int) (env : List NamD) (g : Gn) : List UInt8 × Gn :=
  bif decide (drawV g.s 7 = 0) then leafV sort env (nxt g 7)
  else bif decide (drawV g.s 7 = 1) then (bif decide ((calsV c.calls sort).length = 0) then specialV E sort env (nxt g 7) else callV c E sort env (nxt g 7))
  else bif decide (drawV g.s 7 = 2) then branchV E sort env (nxt g 7)
  else bif decide (drawV g.s 7 = 3) then letV E sort env (nxt g 7)
  else bif decide (drawV g.s 7 = 4) then (bif c.many then processV E sort env (nxt g 7) else specialV E sort env (nxt g 7))
  else bif decide (drawV g.s 7 = 5) then (bif decide (drawV (nxt g 7).s 6 = 5) then raiseV E env (nxt (nxt g 7) 6) else specialV E sort env (nxt (nxt g 7) 6))
  else specialV E sort env (nxt g 7)
theorem stepE_c (c : Cst) (hw : c.wild = 0) (hc : CstOk c) (D D1 : Int) (m L : Nat) (E : Mk) (hD : IntKind.i64.wrap (D - 1) = D1) (hD0 : decide (D ≤ 0) = false) (hE : Good c D1 (m + 1) L E) (hL : L ≤ 1000000) (g : Gn) (hg : g.s.ok) (sort : Int) (env : List NamD) (he : EOk m env) (hm : m ≤ 900) : PCB Tryd.prog 56 [Sp 1000000, I .i64 sort, I .i64 D, Envt env] (gB c g) (S (stepE c E sort env g).1) (gB c (stepE c E sort env g).2) := by
  have hv := drawV_in g.s (n := 7) (by omega)
  unfold stepE
  cases a0 : decide (drawV g.s 7 = 0) with
  | true => exact e0_c c hw hc D D1 m L E hD hD0 hE hL g hg sort env he hm (by simpa using a0)
  | false =>
  cases a1 : decide (drawV g.s 7 = 1) with
  | true =>
    cases b : decide ((calsV c.calls sort).length = 0) with
    | true => exact e1b_c c hw hc D D1 m L E hD hD0 hE hL g hg sort env he hm (by simpa using a1) (by simpa only [decide_eq_true_eq] using b)
    | false => exact e1a_c c hw hc D D1 m L E hD hD0 hE hL g hg sort env he hm (by simpa using a1) (by rw [decide_eq_false_iff_not] at b; omega)
  | false =>
  cases a2 : decide (drawV g.s 7 = 2) with
  | true => exact e2_c c hw hc D D1 m L E hD hD0 hE hL g hg sort env he hm (by simpa using a2)
  | false =>
  cases a3 : decide (drawV g.s 7 = 3) with
  | true => exact e3_c c hw hc D D1 m L E hD hD0 hE hL g hg sort env he hm (by simpa using a3)
  | false =>
  cases a4 : decide (drawV g.s 7 = 4) with
  | true =>
    cases b : c.many with
    | true => exact e4a_c c hw hc D D1 m L E hD hD0 hE hL g hg sort env he hm (by simpa using a4) b
    | false => exact e4b_c c hw hc D D1 m L E hD hD0 hE hL g hg sort env he hm (by simpa using a4) b
  | false =>
  cases a5 : decide (drawV g.s 7 = 5) with
  | true =>
    cases b : decide (drawV (nxt g 7).s 6 = 5) with
    | true => exact e5a_c c hw hc D D1 m L E hD hD0 hE hL g hg sort env he hm (by simpa using a5) (by simpa using b)
    | false => exact e5b_c c hw hc D D1 m L E hD hD0 hE hL g hg sort env he hm (by simpa using a5) b
  | false =>
    simp only [decide_eq_false_iff_not] at a0 a1 a2 a3 a4 a5
    exact e6_c c hw hc D D1 m L E hD hD0 hE hL g hg sort env he hm (by omega)
theorem stepE_fine {c : Cst} (hc : CstOk c) {D : Int} {m L : Nat} {E : Mk} (hE : Good c D (m + 1) L E) (g : Gn) (hg : g.s.ok) (sort : Int) (env : List NamD) (he : EOk m env) : Fine (3 * L + 1000) (stepE c E sort env g) := by
  have he1 := he.mono (Nat.le_succ m)
  have hlf : Fine (3 * L + 1000) (leafV sort env (nxt g 7)) := leafV_fine sort env _ (ok_nxt hg 7) _ (by omega) (fun x hx => by have := he.txt x hx; omega)
  unfold stepE
  refine bif_fine _ hlf (bif_fine _ ?_ (bif_fine _ (branchV_fine hE _ (ok_nxt hg 7) sort env he) (bif_fine _ (letV_fine hE _ (ok_nxt hg 7) sort env he) (bif_fine _ (bif_fine _ (processV_fine hE _ (ok_nxt hg 7) sort env he) (specialV_fine hE _ (ok_nxt hg 7) sort env he)) (bif_fine _ (bif_fine _ (raiseV_fine hE _ (ok_nxt (ok_nxt hg 7) 6) env he1) (specialV_fine hE _ (ok_nxt (ok_nxt hg 7) 6) sort env he)) (specialV_fine hE _ (ok_nxt hg 7) sort env he))))))
  cases b : decide ((calsV c.calls sort).length = 0) with
  | true => exact specialV_fine hE _ (ok_nxt hg 7) sort env he
  | false =>
    rw [decide_eq_false_iff_not] at b
    exact callW_fine hE env he1 _ (hc.cal _ (cals_mem (g := nxt g 7) (by omega))) _ (ok_nxt (ok_nxt hg 7) _)
theorem leaf0_c (c : Cst) (hw : c.wild = 0) (D : Int) (hD0 : D ≤ 0) (g : Gn) (hg : g.s.ok) (sort : Int) (env : List NamD) (he : env.length ≤ 1000) : PCB Tryd.prog 56 [Sp 1000000, I .i64 sort, I .i64 D, Envt env] (gB c g) (S (leafV sort env g).1) (gB c (leafV sort env g).2) := by
  have hw0 : decide (0 < c.wild) = false := by rw [hw]; rfl
  have hd0 : decide (D ≤ 0) = true := by simpa using hD0
  have r0 := leaf_c c g hg sort env he
  refine PCB.of_body Tryd.func56 rfl (by decide) Tryd.ntmps56 Tryd.results56 rfl rfl rfl ?_ rfl rfl
  repeat' (first | (simp only [go_sem, zA, zB, zC, zD, zE, zF, zG, reduceCtorEq, zH, zI, zJ, zK, zL, Bx.puts, hw0, hd0, List.length_map]; all_goals fail_if_success guard_target =ₛ False) | (with_reducible first | ((first | refine seqVC_stepN rfl ?_ | refine seqVC_stepG rfl (by with_unfolding_all rfl) ?_ | refine AWP.seq ?_ | refine AWP.seqR (by kernel_rfl) ?_ | refine parVC_stepN rfl ?_ | refine parVC_stepG rfl (by with_unfolding_all rfl) ?_ | refine parEVC_stepN rfl ?_ | refine parEVC_stepG rfl (by with_unfolding_all rfl) ?_ | refine genVC_stepN rfl ?_ | refine genVC_stepG rfl (by with_unfolding_all rfl) ?_); intro K hK) | ((first | refine hK _ _ _ ?_ | refine hK _ _ ?_ | refine hK _ ?_); clear hK K) | refine seqVC_nil ?_ | refine parVC_nil ?_ | refine parEVC_nil ?_ | refine genVC_nil ?_ | refine AWP.block ?_ | (refine AWP.cond (by with_unfolding_all rfl) ?_ ?_ <;> intro h <;> (try simp only [zM, zN] at h) <;> try exact absurd h (by decide)) | refine AWP.skip ?_ | refine AWP.ret ?_ | refine AWP.exit ?_ | (refine ⟨fun h => ?_, fun h => ?_⟩ <;> (try simp only [zM, zN] at h) <;> try simp only [h])) | ( refine Or.inr ⟨_, _, _, r0, ⟨rfl, rfl, trivial⟩, rfl, rfl, ?_⟩) | (with_reducible first | refine AWP.parR mixed (by kernel_rfl) fun K hK => ?_ | refine ⟨(by kernel_rfl : depB _ _ _ = true), ?_⟩ | refine Or.inl ?_) | (clear hK K))
  all_goals first | exact fun x hx => hx | exact ⟨rfl, fun x hx => hx⟩
/-- an expression of a depth -/
def exprV (c : Cst) : Nat → Mk
  | 0 => leafV
  | d + 1 => stepE c (exprV c d)
def lenE : Nat → Nat
  | 0 => 200
  | d + 1 => 3 * lenE d + 1000
theorem expr_good (c : Cst) (hw : c.wild = 0) (hc : CstOk c) : ∀ d : Nat, d ≤ 5 → Good c (d : Int) (800 - d) (lenE d) (exprV c d)
  | 0, _ => by
    have hf := fun sort env g (hg : Src.ok (Gn.s g)) (he : EOk 800 env) => leafV_fine sort env g hg 200 (Nat.le_refl _) he.txt
    exact ⟨fun sort env g hg he => leaf0_c c hw 0 (Int.le_refl _) g hg sort env (by have := he.len; omega), fun sort env g hg he => (hf sort env g hg he).1, fun sort env g hg he => (hf sort env g hg he).2⟩
  | d + 1, hd => by
    have ih := expr_good c hw hc d (by omega)
    rw [show 800 - d = (800 - (d + 1)) + 1 by omega] at ih
    have hL : lenE d ≤ 1000000 := by
      have : ∀ d : Nat, d < 5 → lenE d ≤ 1000000 := by decide
      exact this d (by omega)
    have hf := fun sort env g (hg : Src.ok (Gn.s g)) (he : EOk (800 - (d + 1)) env) => stepE_fine hc ih g hg sort env he
    exact ⟨fun sort env g hg he => stepE_c c hw hc _ d _ (lenE d) (exprV c d) (by rw [wrapI _ (by omega) (by omega)]; omega) (by rw [decide_eq_false_iff_not]; omega) ih hL g hg sort env he (by omega), fun sort env g hg he => (hf sort env g hg he).1, fun sort env g hg he => (hf sort env g hg he).2⟩
def testL (x : List UInt8) : List (List UInt8) := [[105, 115, 95, 105, 110, 116, 40] ++ x ++ [41], [40, 105, 115, 95, 105, 110, 116, 40] ++ x ++ [41, 32, 97, 110, 100, 32, 40] ++ x ++ [32, 60, 32, 53, 41, 41], [40, 110, 111, 116, 32, 40] ++ x ++ [32, 60, 32, 48, 41, 41]]
def testV (x : List UInt8) (sort : Int) (g : Gn) : List UInt8 × Gn :=
  bif decide (sort = 0) then ((testL x).getD (drawV g.s 2).toNat [], nxt g 2)
  else bif decide (sort = 1) then ([40, 40] ++ x ++ [32, 61, 61, 32, 116, 114, 117, 101, 41, 32, 111, 114, 32, 40] ++ x ++ [32, 61, 61, 32, 102, 97, 108, 115, 101, 41, 41], g)
  else bif decide (sort = 2) then ([105, 115, 95, 97, 116, 111, 109, 40] ++ x ++ [41], g)
  else bif decide (sort = 3) then ([105, 115, 95, 108, 105, 115, 116, 40] ++ x ++ [41], g)
  else bif decide (sort = 4) then ([105, 115, 95, 116, 117, 112, 108, 101, 40] ++ x ++ [44, 32, 50, 41], g)
  else bif decide (sort = 5) then ([105, 115, 95, 102, 117, 110, 99, 116, 105, 111, 110, 40] ++ x ++ [44, 32, 49, 41], g)
  else bif decide (sort = 6) then ([40, 105, 115, 95, 109, 97, 112, 40] ++ x ++ [41, 32, 97, 110, 100, 32, 104, 97, 115, 95, 107, 101, 121, 40] ++ x ++ [44, 32, 97, 41, 41], g)
  else ([40, 110, 111, 116, 32, 105, 115, 95, 102, 117, 110, 99, 116, 105, 111, 110, 40] ++ x ++ [44, 32, 49, 41, 41], g)
theorem testV_fine (x : List UInt8) (hx : x.length ≤ 200) (sort : Int) (g : Gn) (hg : g.s.ok) : Fine 500 (testV x sort g) := by
  have hv := drawV_in g.s (n := 2) (by omega)
  have hl : ((testL x).getD (drawV g.s 2).toNat []).length ≤ 500 := by
    have : ∀ y ∈ testL x, y.length ≤ 500 := by
      intro y hy
      simp only [testL, List.mem_cons, List.not_mem_nil, or_false] at hy
      rcases hy with rfl | rfl | rfl <;> simp only [List.length_append, List.length_cons, List.length_nil] <;> omega
    rw [List.getD_eq_getElem?_getD, List.getElem?_eq_getElem (show (drawV g.s 2).toNat < (testL x).length by show _ < 3; omega)]
    exact this _ (List.getElem_mem _)
  unfold testV
  refine bif_fine _ ⟨ok_nxt hg 2, hl⟩ ?_
  repeat' refine bif_fine _ ?_ ?_
  all_goals exact ⟨hg, by simp only [List.length_append, List.length_cons, List.length_nil]; omega⟩
theorem test_c (c : Cst) (g : Gn) (hg : g.s.ok) (x : List UInt8) (hx : x.length ≤ 200) (sort : Int) : PCB Tryd.prog 55 [Sp 1000000, S x, I .i64 sort] (gB c g) (S (testV x sort g).1) (gB c (testV x sort g).2) := by
  have hmax : 1000000 ≤ maxLen := by unfold maxLen; omega
  have hv := drawV_in g.s (n := 2) (by omega)
  have hv3 : 0 ≤ drawV g.s 2 ∧ drawV g.s 2 < ((testL x).length : Int) := by show _ ∧ _ < (3 : Int); omega
  refine PCB.of_body Tryd.func55 rfl (by decide) Tryd.ntmps55 Tryd.results55 rfl rfl rfl ?_ rfl rfl
  repeat' (first | (simp only [go_sem, zA, zB, zC, zD, zE, zF, zG, reduceCtorEq, zH, zI, zJ, zK, zL, List.length_map, Bx.puts]; all_goals fail_if_success guard_target =ₛ False) | (with_reducible first | ((first | refine seqVC_stepN rfl ?_ | refine AWP.seq ?_ | refine AWP.seqR (by kernel_rfl) ?_); intro K hK) | ((first | refine hK _ _ _ ?_ | refine hK _ _ ?_ | refine hK _ ?_); clear hK K) | refine seqVC_nil ?_ | refine AWP.block ?_ | (refine AWP.cond (by with_unfolding_all rfl) ?_ ?_ <;> intro h <;> (try simp only [zM, zN] at h) <;> try exact absurd h (by decide)) | refine AWP.skip ?_ | refine AWP.ret ?_ | refine AWP.exit ?_ | (refine ⟨(by first | omega | (simp only [List.length_append, List.length_map, List.length_take, List.length_drop, List.length_cons, List.length_nil, List.length_replicate]; omega) : _ ≤ _), ?_⟩) | refine ⟨by omega, by omega, ?_⟩) | (refine ⟨1000001, _, _, _, draw_k 1000001 g.s hg 2 (by omega), rfl, ?_⟩) | ( refine ⟨hv.1, [.str ((testL x).getD (drawV g.s 2).toNat [])], lit_get (fun x => [C.str x]) (testL x) [] hv3, ?_⟩) | ( refine ⟨[.str ((testL x).getD (drawV g.s 2).toNat [])], lit_get (fun x => [C.str x]) (testL x) [] hv3, ?_⟩) | (with_reducible first | refine Or.inl ?_) | (clear hK K))
  all_goals (simp only [testV, *, cond_true, cond_false]; refine ⟨?_, fun x hx => hx⟩; first | rfl | (simp only [List.append_assoc, List.cons_append, List.nil_append]))
def declL : List (List UInt8) := [[105, 110, 116], [58, 116, 114, 117, 101, 32, 111, 114, 32, 58, 102, 97, 108, 115, 101], [97, 116, 111, 109], [108, 105, 115, 116, 40, 105, 110, 116, 41], [123, 97, 116, 111, 109, 44, 32, 105, 110, 116, 125], [40, 105, 110, 116, 41, 32, 45, 62, 32, 105, 110, 116], [37, 123, 97, 58, 32, 105, 110, 116, 44, 32, 97, 116, 111, 109, 32, 61, 62, 32, 97, 110, 121, 44, 32, 115, 116, 114, 105, 110, 103, 32, 61, 62, 32, 97, 110, 121, 125], [97, 110, 121]]
def declV (sort : Int) : List UInt8 := declL.getD sort.toNat []
theorem declV_len (sort : Int) (h : 0 ≤ sort ∧ sort < 8) : (declV sort).length ≤ 40 := by
  have : ∀ y ∈ declL, y.length ≤ 40 := by decide
  unfold declV
  rw [List.getD_eq_getElem?_getD, List.getElem?_eq_getElem (show sort.toNat < declL.length by show _ < 8; omega)]
  exact this _ (List.getElem_mem _)
theorem declare_c (sort : Int) (h : 0 ≤ sort ∧ sort < 8) : PC Tryd.prog 52 [I .i64 sort] (S (declV sort)) := by
  refine PCB.of_body Tryd.func52 rfl (by decide) Tryd.ntmps52 Tryd.results52 rfl rfl rfl ?_ rfl rfl
  repeat' (first | (simp only [go_sem, zA, zB, zC, zD, zE, zF, zG, reduceCtorEq, zH, zI, zJ, zK, zL, List.length_map]; all_goals fail_if_success guard_target =ₛ False) | (with_reducible first | ((first | refine seqVC_stepN rfl ?_ | refine AWP.seq ?_ | refine AWP.seqR (by kernel_rfl) ?_); intro K hK) | ((first | refine hK _ _ _ ?_ | refine hK _ _ ?_ | refine hK _ ?_); clear hK K) | refine seqVC_nil ?_ | refine AWP.block ?_ | (refine AWP.cond (by with_unfolding_all rfl) ?_ ?_ <;> intro h <;> (try simp only [zM, zN] at h) <;> try exact absurd h (by decide)) | refine AWP.skip ?_ | refine AWP.ret ?_ | refine AWP.exit ?_) | ( refine ⟨h.1, [.str (declV sort)], lit_get (fun x => [C.str x]) declL [] h, ?_⟩) | ( refine ⟨[.str (declV sort)], lit_get (fun x => [C.str x]) declL [] h, ?_⟩) | (with_reducible first | refine Or.inl ?_) | (clear hK K))
  all_goals (first | exact fun _ h => absurd h List.not_mem_nil | refine fin0 ?_)
  all_goals rfl
/-- texts with commas between them -/
def sepStep (st : Bool × List UInt8) (x : List UInt8) : Bool × List UInt8 := (false, (bif st.1 then st.2 else st.2 ++ [44, 32]) ++ x)
def sepAt (s : List UInt8) (l : List (List UInt8)) (k : Nat) : Bool × List UInt8 := (l.take k).foldl sepStep (true, s)
theorem sepAt_succ (s : List UInt8) (l : List (List UInt8)) (k : Nat) (x : List UInt8) (hx : l[k]? = some x) : sepAt s l (k + 1) = sepStep (sepAt s l k) x := by
  unfold sepAt; rw [List.take_add_one, hx, List.foldl_append]; rfl
theorem sepAt_fst (s : List UInt8) (l : List (List UInt8)) : ∀ k, k ≤ l.length → (sepAt s l k).1 = decide (k = 0)
  | 0, _ => by simp [sepAt]
  | k + 1, hk => by
    rw [sepAt_succ s l k l[k] (List.getElem?_eq_getElem (by omega))]
    simp [sepStep]
theorem sepAt_len (s : List UInt8) (l : List (List UInt8)) (n : Nat) (hl : ∀ x ∈ l, x.length ≤ n) : ∀ k, k ≤ l.length → (sepAt s l k).2.length ≤ s.length + k * (n + 2)
  | 0, _ => by simp [sepAt]
  | k + 1, hk => by
    have ih := sepAt_len s l n hl k (by omega)
    rw [sepAt_succ s l k l[k] (List.getElem?_eq_getElem (by omega))]
    have hb : ∀ b : Bool, ∀ t : List UInt8, (bif b then t else t ++ [44, 32]).length ≤ t.length + 2 := by intro b t; cases b <;> simp
    have h1 := hb (sepAt s l k).1 (sepAt s l k).2
    have h2 := hl l[k] (List.getElem_mem _)
    simp only [sepStep, List.length_append]
    rw [Nat.add_mul]; omega
def commaV (l : List (List UInt8)) : List UInt8 := (sepAt [] l l.length).2
theorem commaV_len (l : List (List UInt8)) (h : l.length ≤ 10) (hl : ∀ x ∈ l, x.length ≤ 200) : (commaV l).length ≤ 2020 := by
  have := sepAt_len [] l 200 hl l.length (Nat.le_refl _)
  have h2 : l.length * (200 + 2) ≤ 10 * (200 + 2) := Nat.mul_le_mul_right _ h
  unfold commaV; rw [List.length_nil] at this; omega
theorem comma_c (l : List (List UInt8)) (h : l.length ≤ 10) (hl : ∀ x ∈ l, x.length ≤ 200) : PC Tryd.prog 33 [.one (.dat (.sl 1 (l.map encStr)))] (S (commaV l)) := by
  have hmax : 1000000 ≤ maxLen := by unfold maxLen; omega
  have hsl := sepAt_len [] l 200 hl
  have hfst := sepAt_fst [] l
  have hsuc := sepAt_succ [] l
  unfold commaV
  refine PCB.of_body Tryd.func33 rfl (by decide) Tryd.ntmps33 Tryd.results33 rfl rfl rfl ?_ rfl rfl
  repeat' (first | (simp only [go_sem, zA, zB, zC, zD, zE, zF, zG, reduceCtorEq, zH, zI, zJ, zK, zL, List.length_map]; all_goals fail_if_success guard_target =ₛ False) | (with_reducible first | ((first | refine seqVC_stepN rfl ?_ | refine AWP.seq ?_ | refine AWP.seqR (by kernel_rfl) ?_); intro K hK) | ((first | refine hK _ _ _ ?_ | refine hK _ _ ?_ | refine hK _ ?_); clear hK K) | refine seqVC_nil ?_ | refine AWP.block ?_ | (refine AWP.cond (by with_unfolding_all rfl) ?_ ?_ <;> intro h <;> (try simp only [zM, zN] at h) <;> try exact absurd h (by decide)) | refine AWP.skip ?_ | refine AWP.ret ?_ | refine AWP.exit ?_ | refine Or.inl ?_) | (clear hK K))
  refine AWP.len 6 rfl fun hlen0 => ?_
  (try rw [List.length_map] at hlen0)
  refine AWP.range (S := List UInt8) (l) encStr (fun k s => (8, I .i64 (k : Nat)) :: [(3, S s)]) (fun k s => []) [6, 7] [] (fun k s => s = (sepAt [] l k).2) ([]) (by simp only [go_sem, zA, zB, zC, zD, zE, zF, zG, reduceCtorEq, zH, zI, zJ, zK, zL]; exact Gh.to [] (by repeat (first | exact trivial | refine ⟨rfl, ?_⟩ | refine ⟨by (simp only [go_sem, zA, zB, zC, zD, zE, zF, zG, reduceCtorEq, zH, zI, zJ, zK, zL, List.length_append, List.length_map, List.length_cons, List.length_nil, Nat.zero_add]) <;> rfl, ?_⟩)) (by repeat (first | exact trivial | refine ⟨rfl, ?_⟩ | refine ⟨by (simp only [go_sem, zA, zB, zC, zD, zE, zF, zG, reduceCtorEq, zH, zI, zJ, zK, zL, List.length_append, List.length_map, List.length_cons, List.length_nil, Nat.zero_add]) <;> rfl, ?_⟩)) rfl rfl rfl) ?_ ?_ ?_
  · rfl
  · intro k s x hlt hx hx' hbb hok
    simp only [go_sem, zA, zB, zC, zD, zE, zF, zG, reduceCtorEq, zH, zI, zJ, zK, zL]
    have hk := hsl k (by omega)
    have hk1 := hfst k (by omega)
    have hk2 := hsuc k x hx
    have hxl := hl x (List.mem_of_getElem? hx)
    rw [← hok] at hk
    have hss : s.length ≤ 10 * 202 := by
      have : k * (200 + 2) ≤ 10 * (200 + 2) := Nat.mul_le_mul_right _ (by omega)
      rw [List.length_nil] at hk; omega
    have hst : (sepAt [] l (k + 1)).2 = (bif decide (k = 0) then s else s ++ [44, 32]) ++ x := by rw [hk2]; simp only [sepStep, ← hok, hk1]
    by_cases hk0 : k = 0
    · have hd0 : decide (0 < (k : Int)) = false := by rw [decide_eq_false_iff_not]; omega
      rw [show decide (k = 0) = true from by simp [hk0], cond_true] at hst
      repeat' (first | (simp only [go_sem, zA, zB, zC, zD, zE, zF, zG, reduceCtorEq, zH, zI, zJ, zK, zL, List.length_map, hbb, encStr, hd0]; all_goals fail_if_success guard_target =ₛ False) | (with_reducible first | ((first | refine seqVC_stepN rfl ?_ | refine AWP.seq ?_ | refine AWP.seqR (by kernel_rfl) ?_); intro K hK) | ((first | refine hK _ _ _ ?_ | refine hK _ _ ?_ | refine hK _ ?_); clear hK K) | refine seqVC_nil ?_ | refine AWP.block ?_ | (refine AWP.cond (by with_unfolding_all rfl) ?_ ?_ <;> intro h <;> (try simp only [zM, zN] at h) <;> try exact absurd h (by decide)) | refine AWP.skip ?_ | refine AWP.ret ?_ | refine AWP.exit ?_ | refine ⟨by omega, encStr x, hx', ?_⟩ | refine ⟨encStr x, hx', ?_⟩ | (refine ⟨(by first | omega | (simp only [List.length_append, List.length_map, List.length_take, List.length_drop, List.length_cons, List.length_nil, List.length_replicate]; omega) : _ ≤ _), ?_⟩) | refine ⟨by omega, by omega, ?_⟩ | refine Or.inl ?_) | (clear hK K))
      all_goals (rw [wrap_succ hlt hlen0, hst]; exact Gh.to [] (by repeat (first | exact trivial | refine ⟨rfl, ?_⟩ | refine ⟨by (simp only [go_sem, zA, zB, zC, zD, zE, zF, zG, reduceCtorEq, zH, zI, zJ, zK, zL, List.length_append, List.length_map, List.length_cons, List.length_nil, Nat.zero_add]) <;> rfl, ?_⟩)) (by repeat (first | exact trivial | refine ⟨rfl, ?_⟩ | refine ⟨by (simp only [go_sem, zA, zB, zC, zD, zE, zF, zG, reduceCtorEq, zH, zI, zJ, zK, zL, List.length_append, List.length_map, List.length_cons, List.length_nil, Nat.zero_add]) <;> rfl, ?_⟩)) rfl rfl rfl)
    · have hd0 : decide (0 < (k : Int)) = true := by rw [decide_eq_true_eq]; omega
      rw [show decide (k = 0) = false from by simp [hk0], cond_false] at hst
      repeat' (first | (simp only [go_sem, zA, zB, zC, zD, zE, zF, zG, reduceCtorEq, zH, zI, zJ, zK, zL, List.length_map, hbb, encStr, hd0]; all_goals fail_if_success guard_target =ₛ False) | (with_reducible first | ((first | refine seqVC_stepN rfl ?_ | refine AWP.seq ?_ | refine AWP.seqR (by kernel_rfl) ?_); intro K hK) | ((first | refine hK _ _ _ ?_ | refine hK _ _ ?_ | refine hK _ ?_); clear hK K) | refine seqVC_nil ?_ | refine AWP.block ?_ | (refine AWP.cond (by with_unfolding_all rfl) ?_ ?_ <;> intro h <;> (try simp only [zM, zN] at h) <;> try exact absurd h (by decide)) | refine AWP.skip ?_ | refine AWP.ret ?_ | refine AWP.exit ?_ | refine ⟨by omega, encStr x, hx', ?_⟩ | refine ⟨encStr x, hx', ?_⟩ | (refine ⟨(by first | omega | (simp only [List.length_append, List.length_map, List.length_take, List.length_drop, List.length_cons, List.length_nil, List.length_replicate]; omega) : _ ≤ _), ?_⟩) | refine ⟨by omega, by omega, ?_⟩ | refine Or.inl ?_) | (clear hK K))
      all_goals (rw [wrap_succ hlt hlen0, hst]; exact Gh.to [] (by repeat (first | exact trivial | refine ⟨rfl, ?_⟩ | refine ⟨by (simp only [go_sem, zA, zB, zC, zD, zE, zF, zG, reduceCtorEq, zH, zI, zJ, zK, zL, List.length_append, List.length_map, List.length_cons, List.length_nil, Nat.zero_add]) <;> rfl, ?_⟩)) (by repeat (first | exact trivial | refine ⟨rfl, ?_⟩ | refine ⟨by (simp only [go_sem, zA, zB, zC, zD, zE, zF, zG, reduceCtorEq, zH, zI, zJ, zK, zL, List.length_append, List.length_map, List.length_cons, List.length_nil, Nat.zero_add]) <;> rfl, ?_⟩)) rfl rfl rfl)
  · intro s hbb hok
    simp only [go_sem, zA, zB, zC, zD, zE, zF, zG, reduceCtorEq, zH, zI, zJ, zK, zL]
    repeat' (first | (simp only [go_sem, zA, zB, zC, zD, zE, zF, zG, reduceCtorEq, zH, zI, zJ, zK, zL, List.length_map, hbb]; all_goals fail_if_success guard_target =ₛ False) | (with_reducible first | ((first | refine seqVC_stepN rfl ?_ | refine AWP.seq ?_ | refine AWP.seqR (by kernel_rfl) ?_); intro K hK) | ((first | refine hK _ _ _ ?_ | refine hK _ _ ?_ | refine hK _ ?_); clear hK K) | refine seqVC_nil ?_ | refine AWP.block ?_ | (refine AWP.cond (by with_unfolding_all rfl) ?_ ?_ <;> intro h <;> (try simp only [zM, zN] at h) <;> try exact absurd h (by decide)) | refine AWP.skip ?_ | refine AWP.ret ?_ | refine AWP.exit ?_ | refine Or.inl ?_) | (clear hK K))
    all_goals (first | exact fun _ h => absurd h List.not_mem_nil | refine fin0 ?_)
    all_goals (rw [hok])
def HdOk (d : CalD) : Prop := (0 ≤ d.res ∧ d.res < 8) ∧ ∀ p ∈ d.params, 0 ≤ p ∧ p < 8
def headerV (d : CalD) : List UInt8 := (sepAt ([115, 105, 103, 32] ++ d.name ++ [47] ++ Lib.itoa (d.params.length : Int) ++ [32, 58, 32, 96, 40]) (d.params.map declV) d.params.length).2 ++ [41, 32, 45, 62, 32] ++ declV d.res ++ [96, 46, 10]
def header0 (d : CalD) : List UInt8 := [115, 105, 103, 32] ++ d.name ++ [47] ++ Lib.itoa (d.params.length : Int) ++ [32, 58, 32, 96, 40]
theorem header0_len (d : CalD) (h : CalOk d) : (header0 d).length ≤ 150 := by
  obtain ⟨h1, h2, h3⟩ := h
  have := itoa_len (n := (d.params.length : Int)) (by omega) (by omega)
  simp only [header0, List.length_append, List.length_cons, List.length_nil]; omega
theorem header_sl (d : CalD) (h : CalOk d) (hh : HdOk d) (k : Nat) (hk : k ≤ d.params.length) : (sepAt (header0 d) (d.params.map declV) k).2.length ≤ 250 := by
  have h0 := header0_len d h
  have h1 := sepAt_len (header0 d) (d.params.map declV) 40 (fun x hx => by obtain ⟨p, hp, rfl⟩ := List.mem_map.1 hx; exact declV_len p (hh.2 p hp)) k (by rw [List.length_map]; exact hk)
  have h2 : k * (40 + 2) ≤ 2 * (40 + 2) := Nat.mul_le_mul_right _ (by have := h.2.2; omega)
  omega
theorem headerV_len (d : CalD) (h : CalOk d) (hh : HdOk d) : (headerV d).length ≤ 310 := by
  have h1 := header_sl d h hh d.params.length (Nat.le_refl _)
  have h2 := declV_len d.res hh.1
  unfold headerV
  unfold header0 at h1
  simp only [List.length_append, List.length_cons, List.length_nil] at h1 ⊢; omega
theorem header_c (d : CalD) (h : CalOk d) (hh : HdOk d) : PC Tryd.prog 34 [.st (encCal d)] (S (headerV d)) := by
  have hmax : 1000000 ≤ maxLen := by unfold maxLen; omega
  have hil := itoa_len (n := (d.params.length : Int)) (by omega) (by have := h.2.2; omega)
  have hsl := header_sl d h hh
  have h0 := header0_len d h
  have hfst := sepAt_fst (header0 d) (d.params.map declV)
  have hsuc := sepAt_succ (header0 d) (d.params.map declV)
  have hdec := decimal_c _ (d.params.length : Int) (Nat.le_refl _) (by omega) (by have := h.2.2; omega)
  have hdl := declV_len d.res hh.1
  have hdc := declare_c d.res hh.1
  have hhv : headerV d = (sepAt (header0 d) (d.params.map declV) d.params.length).2 ++ [41, 32, 45, 62, 32] ++ declV d.res ++ [96, 46, 10] := rfl
  have h00 : header0 d = [115, 105, 103, 32] ++ d.name ++ [47] ++ Lib.itoa (d.params.length : Int) ++ [32, 58, 32, 96, 40] := rfl
  have hnl := h.2.1
  refine PCB.of_body Tryd.func34 rfl (by decide) Tryd.ntmps34 Tryd.results34 rfl rfl rfl ?_ rfl rfl
  unfold encCal
  repeat' (first | (simp only [go_sem, zA, zB, zC, zD, zE, zF, zG, reduceCtorEq, zH, zI, zJ, zK, zL, List.length_map]; all_goals fail_if_success guard_target =ₛ False) | (with_reducible first | ((first | refine seqVC_stepN rfl ?_ | refine AWP.seq ?_ | refine AWP.seqR (by kernel_rfl) ?_ | refine parVC_stepN rfl ?_ | refine parEVC_stepN rfl ?_ | refine genVC_stepN rfl ?_); intro K hK) | ((first | refine hK _ _ _ ?_ | refine hK _ _ ?_ | refine hK _ ?_); clear hK K) | refine seqVC_nil ?_ | refine parVC_nil ?_ | refine parEVC_nil ?_ | refine genVC_nil ?_ | refine AWP.block ?_ | (refine AWP.cond (by with_unfolding_all rfl) ?_ ?_ <;> intro h <;> (try simp only [zM, zN] at h) <;> try exact absurd h (by decide)) | refine AWP.skip ?_ | refine AWP.ret ?_ | refine AWP.exit ?_ | refine ⟨_, hdec, ?_⟩ | (refine ⟨(by first | omega | (simp only [List.length_append, List.length_map, List.length_take, List.length_drop, List.length_cons, List.length_nil, List.length_replicate]; omega) : _ ≤ _), ?_⟩) | refine ⟨by omega, by omega, ?_⟩ | refine AWP.parR mixed (by kernel_rfl) fun K hK => ?_ | refine ⟨(by kernel_rfl : depB _ _ _ = true), ?_⟩ | refine Or.inl ?_) | (clear hK K))
  refine AWP.len 17 rfl fun hlen0 => ?_
  (try rw [List.length_map] at hlen0)
  refine AWP.range (S := List UInt8) (d.params) encZ (fun k s => (19, I .i64 (k : Nat)) :: [(3, S s)]) (fun k s => [(1, .cells [.dat (.str d.mod), .dat (.str d.name), .dat (.sl 1 (d.params.map encZ)), .dat (.int .i64 d.res)])]) [1, 17, 18] [] (fun k s => s = (sepAt (header0 d) (d.params.map declV) k).2) (header0 d) (by simp only [go_sem, zA, zB, zC, zD, zE, zF, zG, reduceCtorEq, zH, zI, zJ, zK, zL]; exact Gh.to [] (by repeat (first | exact trivial | refine ⟨rfl, ?_⟩ | refine ⟨by (simp only [go_sem, zA, zB, zC, zD, zE, zF, zG, reduceCtorEq, zH, zI, zJ, zK, zL, List.length_append, List.length_map, List.length_cons, List.length_nil, Nat.zero_add]) <;> rfl, ?_⟩)) (by repeat (first | exact trivial | refine ⟨rfl, ?_⟩ | refine ⟨by (simp only [go_sem, zA, zB, zC, zD, zE, zF, zG, reduceCtorEq, zH, zI, zJ, zK, zL, List.length_append, List.length_map, List.length_cons, List.length_nil, Nat.zero_add]) <;> rfl, ?_⟩)) rfl rfl rfl) ?_ ?_ ?_
  · rfl
  · intro k s p hlt hx hx' hbb hok
    simp only [go_sem, zA, zB, zC, zD, zE, zF, zG, reduceCtorEq, zH, zI, zJ, zK, zL]
    have hk := hsl k (by omega)
    have hk1 := hfst k (by rw [List.length_map]; omega)
    have hk2 := hsuc k (declV p) (by rw [List.getElem?_map, hx]; rfl)
    have hpp := hh.2 p (List.mem_of_getElem? hx)
    have hxl := declV_len p hpp
    have hpc := declare_c p hpp
    rw [← hok] at hk
    have hst : (sepAt (header0 d) (d.params.map declV) (k + 1)).2 = (bif decide (k = 0) then s else s ++ [44, 32]) ++ declV p := by rw [hk2]; simp only [sepStep, ← hok, hk1]
    by_cases hk0 : k = 0
    · have hd0 : decide (0 < (k : Int)) = false := by rw [decide_eq_false_iff_not]; omega
      rw [show decide (k = 0) = true from by simp [hk0], cond_true] at hst
      repeat' (first | (simp only [go_sem, zA, zB, zC, zD, zE, zF, zG, reduceCtorEq, zH, zI, zJ, zK, zL, List.length_map, hbb, encZ, hd0]; all_goals fail_if_success guard_target =ₛ False) | (with_reducible first | ((first | refine seqVC_stepN rfl ?_ | refine AWP.seq ?_ | refine AWP.seqR (by kernel_rfl) ?_ | refine parVC_stepN rfl ?_ | refine parEVC_stepN rfl ?_ | refine genVC_stepN rfl ?_); intro K hK) | ((first | refine hK _ _ _ ?_ | refine hK _ _ ?_ | refine hK _ ?_); clear hK K) | refine seqVC_nil ?_ | refine parVC_nil ?_ | refine parEVC_nil ?_ | refine genVC_nil ?_ | refine AWP.block ?_ | (refine AWP.cond (by with_unfolding_all rfl) ?_ ?_ <;> intro h <;> (try simp only [zM, zN] at h) <;> try exact absurd h (by decide)) | refine AWP.skip ?_ | refine AWP.ret ?_ | refine AWP.exit ?_ | refine ⟨_, hpc, ?_⟩ | refine ⟨by omega, encZ p, hx', ?_⟩ | refine ⟨encZ p, hx', ?_⟩ | (refine ⟨(by first | omega | (simp only [List.length_append, List.length_map, List.length_take, List.length_drop, List.length_cons, List.length_nil, List.length_replicate]; omega) : _ ≤ _), ?_⟩) | refine ⟨by omega, by omega, ?_⟩ | refine AWP.parR mixed (by kernel_rfl) fun K hK => ?_ | refine ⟨(by kernel_rfl : depB _ _ _ = true), ?_⟩ | refine Or.inl ?_) | (clear hK K))
      all_goals (rw [wrap_succ hlt hlen0, hst]; exact Gh.to [] (by repeat (first | exact trivial | refine ⟨rfl, ?_⟩ | refine ⟨by (simp only [go_sem, zA, zB, zC, zD, zE, zF, zG, reduceCtorEq, zH, zI, zJ, zK, zL, List.length_append, List.length_map, List.length_cons, List.length_nil, Nat.zero_add]) <;> rfl, ?_⟩)) (by repeat (first | exact trivial | refine ⟨rfl, ?_⟩ | refine ⟨by (simp only [go_sem, zA, zB, zC, zD, zE, zF, zG, reduceCtorEq, zH, zI, zJ, zK, zL, List.length_append, List.length_map, List.length_cons, List.length_nil, Nat.zero_add]) <;> rfl, ?_⟩)) rfl rfl rfl)
    · have hd0 : decide (0 < (k : Int)) = true := by rw [decide_eq_true_eq]; omega
      rw [show decide (k = 0) = false from by simp [hk0], cond_false] at hst
      repeat' (first | (simp only [go_sem, zA, zB, zC, zD, zE, zF, zG, reduceCtorEq, zH, zI, zJ, zK, zL, List.length_map, hbb, encZ, hd0]; all_goals fail_if_success guard_target =ₛ False) | (with_reducible first | ((first | refine seqVC_stepN rfl ?_ | refine AWP.seq ?_ | refine AWP.seqR (by kernel_rfl) ?_ | refine parVC_stepN rfl ?_ | refine parEVC_stepN rfl ?_ | refine genVC_stepN rfl ?_); intro K hK) | ((first | refine hK _ _ _ ?_ | refine hK _ _ ?_ | refine hK _ ?_); clear hK K) | refine seqVC_nil ?_ | refine parVC_nil ?_ | refine parEVC_nil ?_ | refine genVC_nil ?_ | refine AWP.block ?_ | (refine AWP.cond (by with_unfolding_all rfl) ?_ ?_ <;> intro h <;> (try simp only [zM, zN] at h) <;> try exact absurd h (by decide)) | refine AWP.skip ?_ | refine AWP.ret ?_ | refine AWP.exit ?_ | refine ⟨_, hpc, ?_⟩ | refine ⟨by omega, encZ p, hx', ?_⟩ | refine ⟨encZ p, hx', ?_⟩ | (refine ⟨(by first | omega | (simp only [List.length_append, List.length_map, List.length_take, List.length_drop, List.length_cons, List.length_nil, List.length_replicate]; omega) : _ ≤ _), ?_⟩) | refine ⟨by omega, by omega, ?_⟩ | refine AWP.parR mixed (by kernel_rfl) fun K hK => ?_ | refine ⟨(by kernel_rfl : depB _ _ _ = true), ?_⟩ | refine Or.inl ?_) | (clear hK K))
      all_goals (rw [wrap_succ hlt hlen0, hst]; exact Gh.to [] (by repeat (first | exact trivial | refine ⟨rfl, ?_⟩ | refine ⟨by (simp only [go_sem, zA, zB, zC, zD, zE, zF, zG, reduceCtorEq, zH, zI, zJ, zK, zL, List.length_append, List.length_map, List.length_cons, List.length_nil, Nat.zero_add]) <;> rfl, ?_⟩)) (by repeat (first | exact trivial | refine ⟨rfl, ?_⟩ | refine ⟨by (simp only [go_sem, zA, zB, zC, zD, zE, zF, zG, reduceCtorEq, zH, zI, zJ, zK, zL, List.length_append, List.length_map, List.length_cons, List.length_nil, Nat.zero_add]) <;> rfl, ?_⟩)) rfl rfl rfl)
  · intro s hbb hok
    simp only [go_sem, zA, zB, zC, zD, zE, zF, zG, reduceCtorEq, zH, zI, zJ, zK, zL]
    have hk := hsl d.params.length (Nat.le_refl _)
    rw [← hok] at hk
    repeat' (first | (simp only [go_sem, zA, zB, zC, zD, zE, zF, zG, reduceCtorEq, zH, zI, zJ, zK, zL, List.length_map, hbb]; all_goals fail_if_success guard_target =ₛ False) | (with_reducible first | ((first | refine seqVC_stepN rfl ?_ | refine AWP.seq ?_ | refine AWP.seqR (by kernel_rfl) ?_ | refine parVC_stepN rfl ?_ | refine parEVC_stepN rfl ?_ | refine genVC_stepN rfl ?_); intro K hK) | ((first | refine hK _ _ _ ?_ | refine hK _ _ ?_ | refine hK _ ?_); clear hK K) | refine seqVC_nil ?_ | refine parVC_nil ?_ | refine parEVC_nil ?_ | refine genVC_nil ?_ | refine AWP.block ?_ | (refine AWP.cond (by with_unfolding_all rfl) ?_ ?_ <;> intro h <;> (try simp only [zM, zN] at h) <;> try exact absurd h (by decide)) | refine AWP.skip ?_ | refine AWP.ret ?_ | refine AWP.exit ?_ | refine ⟨_, hdc, ?_⟩ | (refine ⟨(by first | omega | (simp only [List.length_append, List.length_map, List.length_take, List.length_drop, List.length_cons, List.length_nil, List.length_replicate]; omega) : _ ≤ _), ?_⟩) | refine ⟨by omega, by omega, ?_⟩ | refine AWP.parR mixed (by kernel_rfl) fun K hK => ?_ | refine ⟨(by kernel_rfl : depB _ _ _ = true), ?_⟩ | refine Or.inl ?_) | (clear hK K))
    all_goals (first | exact fun _ h => absurd h List.not_mem_nil | refine fin0 ?_)
    all_goals (rw [hhv, ← hok])
def patternV (sort : Int) (g : Gn) : List UInt8 × Gn :=
  bif decide (sort = 0) then (smallV g, nxt g 7)
  else bif decide (sort = 1) then ([116, 114, 117, 101], g)
  else bif decide (sort = 2) then (atomV g.s, nxt g 4)
  else bif decide (sort = 3) then ([91, 93], g)
  else bif decide (sort = 4) then ([123, 111, 107, 44, 32, 95, 125], g)
  else bif decide (sort = 6) then ([35, 123, 97, 32, 61, 62, 32, 49, 125], g)
  else ([95], g)
theorem patternV_fine (sort : Int) (g : Gn) (hg : g.s.ok) : Fine 50 (patternV sort g) := by
  have h1 := atomV_len g.s
  have h2 := smallV_len g
  unfold patternV
  repeat' refine bif_fine _ ?_ ?_
  all_goals first | exact ⟨hg, by simp only [List.length_cons, List.length_nil]; omega⟩ | exact ⟨ok_nxt hg _, by simp only; omega⟩
theorem pattern_c (c : Cst) (g : Gn) (hg : g.s.ok) (sort : Int) : PCB Tryd.prog 53 [Sp 1000000, I .i64 sort] (gB c g) (S (patternV sort g).1) (gB c (patternV sort g).2) := by
  refine PCB.of_body Tryd.func53 rfl (by decide) Tryd.ntmps53 Tryd.results53 rfl rfl rfl ?_ rfl rfl
  repeat' (first | (simp only [go_sem, zA, zB, zC, zD, zE, zF, zG, reduceCtorEq, zH, zI, zJ, zK, zL, List.length_map, Bx.puts]; all_goals fail_if_success guard_target =ₛ False) | (with_reducible first | ((first | refine seqVC_stepN rfl ?_ | refine AWP.seq ?_ | refine AWP.seqR (by kernel_rfl) ?_); intro K hK) | ((first | refine hK _ _ _ ?_ | refine hK _ _ ?_ | refine hK _ ?_); clear hK K) | refine seqVC_nil ?_ | refine AWP.block ?_ | (refine AWP.cond (by with_unfolding_all rfl) ?_ ?_ <;> intro h <;> (try simp only [zM, zN] at h) <;> try exact absurd h (by decide)) | refine AWP.skip ?_ | refine AWP.ret ?_ | refine AWP.exit ?_) | (refine ⟨1000001, _, _, _, atomName_k 1000001 g.s hg, rfl, ?_⟩) | ( refine Or.inr ⟨_, _, _, small_c c g hg, ⟨rfl, rfl, trivial⟩, rfl, rfl, ?_⟩) | (with_reducible first | refine Or.inl ?_) | (clear hK K))
  all_goals (simp only [patternV, *, cond_true, cond_false]; refine ⟨?_, fun x hx => hx⟩; first | rfl | (simp only [List.append_assoc, List.cons_append, List.nil_append]))
end Go.Proofs.YtogponhonjiidaaDoor
set_option linter.unusedVariables false
set_option linter.unusedSimpArgs false
namespace Go.Sx
variable {P : Program} {n : Nat} {σ : AS} {Q : Exit → AS → Prop}
theorem lookup_of_mem : ∀ {B : Bx} {k : Nat} {r : Res}, (B.map (·.1)).Nodup → (k, r) ∈ B → B.lookup k = some r
  | (q, s) :: B, k, r, hn, h => by
    simp only [List.map_cons, List.nodup_cons] at hn
    rcases List.mem_cons.1 h with e | h
    · cases e; simp
    · have hne : (k == q) = false := by
        rw [beq_eq_false_iff_ne]
        exact fun e => hn.1 (by rw [← e]; exact List.mem_map.2 ⟨_, h, rfl⟩)
      rw [List.lookup_cons, hne]
      exact lookup_of_mem hn.2 h
theorem Bx.put_mem {k : Nat} {r r2 : Res} : ∀ {B : Bx}, B.lookup k = some r → (k, r2) ∈ Bx.put k r2 B
  | (q, s) :: B, h => by
    rw [List.lookup_cons] at h
    unfold Bx.put
    cases hq : (k == q) with
    | true =>
      have : q = k := (by simpa using hq : k = q).symm
      subst this
      simp
    | false =>
      rw [hq] at h
      have : (q == k) = false := by rw [beq_eq_false_iff_ne] at hq ⊢; exact fun e => hq e.symm
      simp only [this, cond_false]
      exact List.mem_cons_of_mem _ (Bx.put_mem h)
theorem Bx.put_mem_ne {k : Nat} {r : Res} {x : Nat × Res} (hx : x.1 ≠ k) : ∀ {B : Bx}, x ∈ B → x ∈ Bx.put k r B
  | p :: B, h => by
    unfold Bx.put
    cases hp : (p.1 == k) with
    | true =>
      rcases List.mem_cons.1 h with rfl | h
      · exact absurd (by simpa using hp) hx
      · exact List.mem_cons_of_mem _ h
    | false =>
      rcases List.mem_cons.1 h with rfl | h
      · exact List.mem_cons_self
      · exact List.mem_cons_of_mem _ (Bx.put_mem_ne hx h)
structure MidC (κ : Kap) (M0 : Mem) (n : Nat) (l : List Oper) (t : Nat → T) (mk : Nat → Option (Nat × Res)) (B0 B1 : Bx) (c : Nat) (env0 : Env) (listed : Array Bool) (a : Act) (w : World) : Prop where
  size : listed.size = l.length
  closed : Closed l listed
  st : ∃ M ν, M0.ext κ M ∧ a.tmps.size = n ∧ a.defers = [] ∧ EnvOk M ν a.tmps (envA l t (xs listed) env0 l.length) ∧ Sat κ M ν (bxX mk (bif xs listed c then B1 else B0) (xs listed) l.length) w ∧ ∀ k, pin ≤ k → ν k = κ.nu k
theorem genCS_sound {κ : Kap} {M0 : Mem} {l : List Oper} {B0 Bf : Bx} {c kb : Nat} {res res2 : Res} {t : Nat → T} {mk : Nat → Option (Nat × Res)} {env0 : Env} {L : Nat} {Q' : Exit → Act → World → Prop}
    (hback : Back l) (hpairs : Pairs l) (hap : Apart mk B0) (hc0 : B0.lookup kb = some res) (hcm : mk c = none) (hcL : c < L) (hB0 : ∀ x ∈ Bf, x ∈ B0) (hB1 : ∀ x ∈ Bf, x ∈ Bx.put kb res2 B0) (hfB0 : ∀ i p, mk i = some p → Bx.fresh p.1 B0 = true ∧ Bx.fresh p.1 (Bx.put kb res2 B0) = true)
    (hturn : ∀ o, l[c]? = some o → dstOk n o = true ∧ o.guard = none ∧ ∀ B2 : Bx, B2.lookup kb = some res → OpE P o (envA l t (fun _ => true) env0 c) B2 (t c) (Bx.put kb res2 B2)) (hro : RowsOnly mk) (hlen : ∀ i p, mk i = some p → i < l.length)
    {oL : Oper} {B' : Bx} (hL : l.length = L + 1) (hoL : l[L]? = some oL) (hdL : dstOk n oL = true) (hgL : oL.guard = none) (hdep : ∀ i, i < L → depB l L i = true) (hopL : OpE P oL (envA l t (fun _ => true) env0 L) (bxX mk (Bx.put kb res2 B0) (fun _ => true) L) (t L) B')
    (hs : ∀ i o, i < L → i ≠ c → l[i]? = some o → OSpecM P n l Bf o (envA l t (fun _ => true) env0 i) (t i) (mk i))
    (hfr : ∀ g k p, mk g = some p → g < k → k < l.length → (t k).fresh p.1 = true ∨ depB l k g = true)
    (hQ : ∀ a w, St κ M0 n ⟨envA l t (fun _ => true) env0 l.length, B'⟩ a w → Q' .normal a w) :
    ∀ (fuel : Nat) (listed : Array Bool) (a : Act) (w : World), cnt l listed = fuel → (MidC κ M0 n l t mk B0 (Bx.put kb res2 B0) c env0 listed a w ∧ listed.getD L false = false) →
      wpAny P .any l.toArray Q' fuel listed a w := by
  have fin : ∀ (fuel : Nat) (listed : Array Bool) (a : Act) (w : World), listed.size = l.length → (∀ i, i < l.length → listed.getD i false = true) → St κ M0 n ⟨envA l t (fun _ => true) env0 l.length, B'⟩ a w → wpAny P .any l.toArray Q' fuel listed a w := by
    intro fuel listed a w hsz hall hst
    cases fuel with
    | zero => exact ⟨ready_none hsz hall, hQ a w hst⟩
    | succ fuel =>
      refine ⟨fun _ => hQ a w hst, fun i hi => ?_⟩
      exfalso
      rw [ready_none hsz hall] at hi
      cases hi
  intro fuel
  induction fuel with
  | zero =>
    intro listed a w hfuel ⟨hm, hxL⟩
    have hall := cnt_zero hfuel L (by omega)
    rw [hxL] at hall; cases hall
  | succ fuel ih =>
    intro listed a w hfuel ⟨hm, hxL⟩
    refine ⟨fun hr => (by have := ready_least hback hm.size hr L (by omega); rw [hxL] at this; cases this), fun i hi => ?_⟩
    obtain ⟨h0, oi, hoi, hall⟩ := mem_ready.1 hi
    have hil : i < l.length := by have := (Array.getElem?_eq_some_iff.1 hoi).1; simpa using this
    have hoi' : l[i]? = some oi := by simpa using hoi
    have hisz : i < listed.size := by rw [hm.size]; exact hil
    have hxi : listed.getD i false = false := by simp [hisz] at h0 ⊢; exact h0
    obtain ⟨M, ν, h1, h2, h3, h4, h7, h8⟩ := hm.st
    have hd : dstOk n oi = true := by
      by_cases hiL : i < L
      · by_cases hic : i = c
        · subst hic; exact (hturn oi hoi').1
        · exact (hs i oi hiL hic hoi').1
      · have : i = L := by omega
        subst this
        rw [hoL] at hoi'; cases hoi'; exact hdL
    have look : ∀ d, d ∈ oi.looksAt l.toArray → (envA l t (xs listed) env0 l.length).lookup d = (envA l t (fun _ => true) env0 i).lookup d := by
      intro d hdm
      rw [envA_skip l t (xs listed) env0 d i l.length (by omega) ?_, envA_same l t (xs listed) (fun _ => true) env0 d i ?_]
      · intro j o hj ho hod
        rcases hpairs j i o oi hj ho hoi' with ⟨e', he', hb', hon⟩ | hap
        · exact hon ▸ hall e' he' hb'
        · exact absurd hdm ((Oper.apart_spec hap).1 d hod)
      · intro j o hj hjl ho hod
        by_cases hji : i = j
        · subst hji; exact hxi
        · cases hxj : xs listed j with
          | false => rfl
          | true =>
            rcases hpairs i j oi o (by omega) hoi' ho with ⟨e', he', hb', hon⟩ | hap
            · have := hm.closed j o ho hxj e' he' hb'
              rw [hon, hxi] at this; cases this
            · exact absurd hdm ((Oper.apart_spec hap).2.2 d hod)
    have hclosed : Closed l (listed.setIfInBounds i true) := by
      intro j oj hj hx e' he' hb'
      by_cases hji : i = j
      · subst hji
        rw [hoi'] at hj; cases hj
        exact getD_set_true (hall e' he' hb')
      · rw [getD_set_ne false hji] at hx
        exact getD_set_true (hm.closed j oj hj hx e' he' hb')
    have hcount : cnt l (listed.setIfInBounds i true) = fuel := by
      have := cnt_set hm.size hil hxi; omega
    have after : ∀ (M' : Mem) (ν' : Nu) (v : Value) (w' : World), M.ext κ M' → EnvOk M ν' a.tmps (envA l t (xs listed) env0 l.length) → (t i).rep M' ν' v → Sat κ M' ν' (bxX mk (bif xs (listed.setIfInBounds i true) c then Bx.put kb res2 B0 else B0) (xs (listed.setIfInBounds i true)) l.length) w' → (∀ k, pin ≤ k → ν' k = κ.nu k) →
        MidC κ M0 n l t mk B0 (Bx.put kb res2 B0) c env0 (listed.setIfInBounds i true) (a.put oi.dst v) w' := by
      intro M' ν' v w' hle h4 hr hsat hpin
      refine ⟨by simpa using hm.size, hclosed, M', ν', h1.trans hle, by rw [Act.put_size]; exact h2, by rw [Act.put_defers']; exact h3, ?_, hsat, hpin⟩
      have hput := EnvOk.put (df := a.defers) (h4.mono hle.1) (dst := oi.dst) (v := v) (t := t i) (fun d he => by rw [h2]; exact dstOk_spec hd d he) hr
      intro k u hu
      refine hput k u ?_
      rw [putE_lookup]
      by_cases hk : oi.dst = some k
      · rw [if_pos hk]
        have e1 := envA_skip l t (xs (listed.setIfInBounds i true)) env0 k (i + 1) l.length (by omega) (fun j o hj hjl ho hod => by
          cases hxj : xs (listed.setIfInBounds i true) j with
          | false => rfl
          | true =>
            have hne : i ≠ j := by omega
            have hxj' : listed.getD j false = true := by rw [← getD_set_ne false hne]; exact hxj
            rcases hpairs i j oi o (by omega) hoi' ho with ⟨e', he', hb', hon⟩ | hap
            · have := hm.closed j o ho hxj' e' he' hb'
              rw [hon, hxi] at this; cases this
            · exact absurd hod ((Oper.apart_spec hap).2.1 k hk))
        rw [e1] at hu
        have hself : xs (listed.setIfInBounds i true) i = true := by simp [xs, hisz]
        rw [envA, hself] at hu
        simp only [cond_true, putE_lookup, hoi', Option.bind_some, hk, if_true] at hu
        exact hu
      · rw [if_neg hk]
        have e2 := envA_same l t (xs (listed.setIfInBounds i true)) (xs listed) env0 k l.length (fun j o hj ho hod => by
          have hne : i ≠ j := fun h => by subst h; rw [hoi'] at ho; cases ho; exact hk hod
          exact getD_set_ne false hne)
        rw [← e2]; exact hu
    have hon : EnvOn M ν a (envA l t (fun _ => true) env0 i) oi := by
      intro d u hdo hu
      refine h4 d u ?_
      rw [look d (looksAt_op hdo)]; exact hu
    have hgd : ∀ g want d u, oi.guard = some (g, want) → (l[g]?).bind (·.dst) = some d → (envA l t (fun _ => true) env0 i).lookup d = some u → u.rep M ν (a.tmps.getD d undef) := by
      intro g want d u hg hgd hu
      refine h4 d u ?_
      rw [look d (looksAt_guard hg hgd)]; exact hu
    have hap1 : Apart mk (Bx.put kb res2 B0) := ⟨hap.1, fun q p hq x hx => (Bx.fresh_spec (j := x.1) (r := x.2) (hfB0 q p hq).2 hx).1⟩
    by_cases hiL : i = L
    · subst hiL
      rw [hoL] at hoi'; cases hoi'
      have hlist : ∀ j, j < i → listed.getD j false = true := fun j hj => dep_of (hdep j hj) hoL hm.closed (fun e' he' hb' => hall e' he' hb')
      unfold wpOp
      rw [hoi]
      simp only []
      rw [if_pos (by simp [Region.wanted, hgL])]
      left
      have hxc : xs listed c = true := hlist c hcL
      rw [hxc, cond_true] at h7
      have hbx : ∀ x ∈ bxX mk (Bx.put kb res2 B0) (fun _ => true) i, x ∈ bxX mk (Bx.put kb res2 B0) (xs listed) l.length := by
        intro x hx
        rcases mem_bxX.1 hx with h | ⟨j, hj, _, hk⟩
        · exact mem_bxX.2 (.inl h)
        · exact mem_bxX.2 (.inr ⟨j, by omega, hlist j hj, hk⟩)
      refine Oper.wp_mono_Q (Oper.wp_mono ?_ (hopL κ M ν a w hon (h7.drop hbx (nodup_bxX hap1 (nodup_B0 h7.nodup) _))))
      rintro a' w' ⟨v, M', rfl, hle, hr, hsat⟩
      have hall' : ∀ j, j < l.length → (listed.setIfInBounds i true).getD j false = true := by
        intro j hj
        by_cases hji : j = i
        · subst hji; simp [hisz]
        · exact getD_set_true (hlist j (by omega))
      refine fin _ _ _ _ (by simpa using hm.size) hall' ⟨M', ν, h1.trans hle, by rw [Act.put_size]; exact h2, by rw [Act.put_defers']; exact h3, ?_, hsat, h8⟩
      have hput := EnvOk.put (df := a.defers) (h4.mono hle.1) (dst := oL.dst) (v := v) (t := t i) (fun d he => by rw [h2]; exact dstOk_spec hd d he) hr
      intro k u hu
      refine hput k u ?_
      rw [putE_lookup]
      have e0 : envA l t (fun _ => true) env0 l.length = putE (envA l t (fun _ => true) env0 i) oL.dst (t i) := by
        rw [hL, envA]
        simp only [cond_true, hoL, Option.bind_some]
        try (cases oL.dst <;> rfl)
      have hup : (putE (envA l t (fun _ => true) env0 i) oL.dst (t i)).lookup k = some u := by rw [← e0]; exact hu
      rw [putE_lookup] at hup
      by_cases hk : oL.dst = some k
      · rw [if_pos hk] at hup ⊢; exact hup
      · rw [if_neg hk] at hup ⊢
        have e1 : envA l t (xs listed) env0 l.length = envA l t (xs listed) env0 i := by
          rw [hL, envA]
          have : xs listed i = false := hxL
          rw [this]; rfl
        rw [e1, envA_same l t (xs listed) (fun _ => true) env0 k i (fun j o hj _ _ => hlist j hj)]
        exact hup
    have hiL' : i < L := by omega
    have hxL' : (listed.setIfInBounds i true).getD L false = false := by rw [getD_set_ne false (by omega)]; exact hxL
    have hself : xs (listed.setIfInBounds i true) i = true := by simp [xs, hisz]
    have hold : ∀ j, i ≠ j → xs (listed.setIfInBounds i true) j = xs listed j := fun j hj => getD_set_ne false hj
    have h0nd : (B0.map (·.1)).Nodup := by
      have := nodup_B0 h7.nodup
      cases hxc : xs listed c <;> rw [hxc] at this
      · exact this
      · rw [cond_true, Bx.put_keys] at this; exact this
    have hapB : ∀ b : Bool, Apart mk (bif b then Bx.put kb res2 B0 else B0) := fun b => by
      cases b
      · exact hap
      · exact hap1
    have hnB : ∀ b : Bool, ((bif b then Bx.put kb res2 B0 else B0).map (·.1)).Nodup := fun b => by
      cases b
      · exact h0nd
      · rw [cond_true, Bx.put_keys]; exact h0nd
    have hfixB : ∀ b : Bool, ∀ x ∈ Bf, x ∈ (bif b then Bx.put kb res2 B0 else B0) := fun b x hx => by
      cases b
      · exact hB0 x hx
      · exact hB1 x hx
    by_cases hic : i = c
    · subst hic
      have hco : xs listed i = false := hxi
      rw [hco, cond_false] at h7
      obtain ⟨_, hgn, hop⟩ := hturn oi hoi'
      unfold wpOp
      rw [hoi]
      simp only []
      rw [if_pos (by simp [Region.wanted, hgn])]
      left
      have hlk : (bxX mk B0 (xs listed) l.length).lookup kb = some res := lookup_of_mem h7.nodup (mem_bxX.2 (.inl (lookup_box hc0)))
      refine Oper.wp_mono_Q (Oper.wp_mono ?_ (hop _ hlk κ M ν a w hon h7))
      rintro a' w' ⟨v, M', rfl, hle, hr, hsat⟩
      refine ih _ _ _ hcount ⟨after M' ν v w' hle h4 hr ?_ h8, hxL'⟩
      rw [hself, cond_true]
      refine hsat.drop (fun x hx => ?_) (nodup_bxX hap1 (by rw [Bx.put_keys]; exact h0nd) _)
      rcases mem_bxX.1 hx with h | ⟨j, hj, hX, hkj⟩
      · rcases Bx.mem_put h0nd h with e | ⟨h1, h2⟩
        · rw [e]; exact Bx.put_mem hlk
        · exact Bx.put_mem_ne h2 (mem_bxX.2 (.inl h1))
      · have hne : i ≠ j := fun e => by subst e; rw [hcm] at hkj; cases hkj
        refine Bx.put_mem_ne ?_ (mem_bxX.2 (.inr ⟨j, hj, by rw [← hold j hne]; exact hX, hkj⟩))
        exact fun e => hap.2 j x hkj (kb, res) (lookup_box hc0) e.symm
    have hspec := (hs i oi hiL' hic hoi').2
    have hcc : xs (listed.setIfInBounds i true) c = xs listed c := hold c hic
    have nod : ((bxX mk (bif xs (listed.setIfInBounds i true) c then Bx.put kb res2 B0 else B0) (xs (listed.setIfInBounds i true)) l.length).map (·.1)).Nodup := nodup_bxX (hapB _) (hnB _) _
    have same : mk i = none → ∀ x ∈ bxX mk (bif xs (listed.setIfInBounds i true) c then Bx.put kb res2 B0 else B0) (xs (listed.setIfInBounds i true)) l.length, x ∈ bxX mk (bif xs listed c then Bx.put kb res2 B0 else B0) (xs listed) l.length := by
      intro hk x hx
      rw [hcc] at hx
      rcases mem_bxX.1 hx with h | ⟨j, hj, hX, hkj⟩
      · exact mem_bxX.2 (.inl h)
      · have hne : i ≠ j := fun e => by subst e; rw [hk] at hkj; cases hkj
        exact mem_bxX.2 (.inr ⟨j, hj, by rw [← hold j hne]; exact hX, hkj⟩)
    unfold wpOp
    rw [hoi]
    simp only []
    rcases hspec with ⟨hg, ⟨hjn, hop⟩ | ⟨k, r, hjn, hkp, hfk, _, hop⟩⟩ | ⟨hg, ht, hjn⟩
    · rw [if_pos (wanted_of hg hgd)]
      left
      refine Oper.wp_mono_Q (Oper.wp_mono ?_ (hop κ M ν a w _ (fun x hx => mem_bxX.2 (.inl (hfixB _ x hx))) hon h7))
      rintro a' w' ⟨v, M', rfl, hle, hr, hsat⟩
      exact ih _ _ _ hcount ⟨after M' ν v w' hle h4 hr (hsat.drop (same hjn) nod) h8, hxL'⟩
    · rw [if_pos (wanted_of hg hgd)]
      left
      have hfB : Bx.fresh k (bxX mk (bif xs listed c then Bx.put kb res2 B0 else B0) (xs listed) l.length) = true := by
        refine bx_fresh_of fun x hx => ?_
        rcases mem_bxX.1 hx with h | ⟨j, hj, hX, hkj⟩
        · have hff := hfB0 i (k, r) hjn
          cases hxc : xs listed c <;> rw [hxc] at h
          · exact Bx.fresh_spec (j := x.1) (r := x.2) hff.1 h
          · exact Bx.fresh_spec (j := x.1) (r := x.2) hff.2 h
        · have hne : j ≠ i := fun e => by subst e; unfold xs at hX; rw [hxi] at hX; cases hX
          refine ⟨hap.1 j i x _ hkj hjn hne, fun cs e => ?_⟩
          exact hro j x hkj k cs e
      refine Oper.wp_mono_Q (Oper.wp_mono ?_ (hop _ (fun x hx => mem_bxX.2 (.inl (hfixB _ x hx))) hfB κ M ν a w hon h7))
      rintro a' w' ⟨v, M', ν', rfl, hle, hν, hr, hsat⟩
      obtain ⟨hf0, hft⟩ := fresh_envA i hfk
      have hfresh : Env.fresh k (envA l t (xs listed) env0 l.length) = true := by
        refine envA_fresh' hf0 l.length (fun q hq hx hdq => ?_)
        rcases Nat.lt_trichotomy q i with h | h | h
        · exact hft q h hdq
        · subst h; unfold xs at hx; rw [hxi] at hx; cases hx
        · rcases hfr i q _ hjn h hq with h' | h'
          · exact h'
          · exfalso
            have := dep_of h' (List.getElem?_eq_getElem hq) hm.closed (fun e' he' hb' => hm.closed q l[q] (List.getElem?_eq_getElem hq) hx e' he' hb')
            rw [hxi] at this; cases this
      refine ih _ _ _ hcount ⟨after M' ν' v w' hle (h4.fresh hfresh hν) hr (hsat.drop ?_ nod) (fun q hq => by rw [hν q (by omega)]; exact h8 q hq), hxL'⟩
      intro x hx
      rw [hcc] at hx
      rcases mem_bxX.1 hx with h | ⟨j, hj, hX, hkj⟩
      · exact List.mem_cons_of_mem _ (mem_bxX.2 (.inl h))
      · by_cases hne : i = j
        · subst hne; rw [hjn] at hkj; cases hkj; exact List.mem_cons_self
        · exact List.mem_cons_of_mem _ (mem_bxX.2 (.inr ⟨j, hj, by rw [← hold j hne]; exact hX, hkj⟩))
    · rw [unwanted_of hg hgd]
      simp only [Bool.false_eq_true, if_false]
      refine ih _ _ _ hcount ⟨after M ν undef w (Mem.ext.refl κ M) h4 (by rw [ht]; simp [undefT, T.rep, Cell.rep, C.rep]) (h7.drop (same hjn) nod) h8, hxL'⟩
theorem parM_trace (all : List Oper) (Bf : Bx) (K : Env → Prop) : ∀ (l : List Oper) (env : Env), dstsOk n l = true → parVC P all Bf l env K →
    ∃ t : Nat → T, (∀ i o, l[i]? = some o → OSpecM P n all Bf o (envA l t (fun _ => true) env i) (t i) none) ∧ K (envA l t (fun _ => true) env l.length)
  | [], env, _, h => ⟨fun _ => undefT, fun i o ho => by simp at ho, h⟩
  | o :: os, env, hd, h => by
    simp only [dstsOk, List.all_cons, Bool.and_eq_true] at hd
    obtain ⟨⟨hd1, hd2⟩, hd3⟩ := hd
    have step : ∃ t0 : T, OSpecM P n all Bf o env t0 none ∧ parVC P all Bf os (putE env o.dst t0) K := by
      rcases guardT_true h with ⟨hg, hx⟩ | ⟨hg, hx⟩
      · obtain ⟨t, hop, h2⟩ := pureVC_sound hx
        exact ⟨t, ⟨hd1, .inl ⟨hg, .inl ⟨rfl, hop⟩⟩⟩, h2⟩
      · exact ⟨undefT, ⟨hd1, .inr ⟨hg, rfl, rfl⟩⟩, hx⟩
    obtain ⟨t0, hspec, hk⟩ := step
    obtain ⟨t, hs, hK⟩ := parM_trace all Bf K os _ hd3 hk
    refine ⟨fun i => match i with | 0 => t0 | i + 1 => t i, ?_, ?_⟩
    · intro i o' ho
      cases i with
      | zero => simp at ho; subst ho; exact hspec
      | succ i => rw [envA_cons]; exact hs i o' (by simpa using ho)
    · rw [List.length_cons, envA_cons]; exact hK
/-- no name stands in the box -/
def Res.flatB : Res → Bool
  | .cells cs => Cell.allInP (fun _ => false) cs
  | .row _ _ => true
  | .mp _ _ => true
mutual
theorem Cell.fresh_flat (j : Nat) : ∀ c : Cell, c.inP (fun _ => false) = true → c.fresh j = true
  | .dat _, _ => rfl
  | .ref _, _ => rfl
  | .ptr _ _, h => by simp [Cell.inP] at h
  | .own _ _, h => by simp [Cell.inP] at h
  | .rp _ _ _ _, h => by simp [Cell.inP] at h
  | .arr _ _, h => by simp [Cell.inP] at h
  | .mp _, h => by simp [Cell.inP] at h
  | .clo f caps, h => by
    simp only [Cell.inP] at h
    simp only [Cell.fresh]
    exact Cell.freshs_flat j caps h
theorem Cell.freshs_flat (j : Nat) : ∀ cs : List Cell, Cell.allInP (fun _ => false) cs = true → Cell.freshs j cs = true
  | [], _ => rfl
  | c :: cs, h => by
    simp only [Cell.allInP, Bool.and_eq_true] at h
    simp only [Cell.freshs, Bool.and_eq_true]
    exact ⟨Cell.fresh_flat j c h.1, Cell.freshs_flat j cs h.2⟩
end
theorem Bx.fresh_unput {j k : Nat} {res res2 : Res} {B : Bx} (hn : (B.map (·.1)).Nodup) (h : Bx.fresh j (Bx.put k res2 B) = true) (hl : B.lookup k = some res) (hf : res.flatB = true) : Bx.fresh j B = true := by
  refine bx_fresh_of fun x hx => ?_
  by_cases hk : x.1 = k
  · have e : B.lookup k = some x.2 := lookup_of_mem hn (by rw [← hk]; exact hx)
    rw [hl] at e
    cases e
    have h1 := Bx.fresh_spec h (Bx.put_mem hl)
    refine ⟨by rw [hk]; exact h1.1, fun cs e => ?_⟩
    rw [e] at hf
    exact Cell.freshs_flat j cs hf
  · exact Bx.fresh_spec (j := x.1) (r := x.2) h (Bx.put_mem_ne hk hx)
/-- what is to be shown of a call that turns a box -/
def turnVC (P : Program) (o : Oper) (env : Env) (B : Bx) (K : T → Bx → Prop) : Prop :=
  match o.op with
  | .call { callee := .value f, args := args, argTypes := ts } =>
    match calleeT (ev P env 0 f), evs P env args.toList ts.toList with
    | some (g, caps), some us => ∃ k res r res', PCBk P g (us ++ caps) k res r res' ∧ B.lookup k = some res ∧ res.flatB = true ∧ K r (Bx.put k res' B)
    | _, _ => False
  | _ => False
theorem turnVC_sound {o : Oper} {env : Env} {B : Bx} {K : T → Bx → Prop} (h : turnVC P o env B K) :
    ∃ k res t res', B.lookup k = some res ∧ res.flatB = true ∧ K t (Bx.put k res' B) ∧ ∀ B2 : Bx, B2.lookup k = some res → OpE P o env B2 t (Bx.put k res' B2) := by
  unfold turnVC at h
  split at h
  · rename_i f args ts ho
    split at h
    · rename_i g caps us hf hu
      obtain ⟨k, res, r, res', hpc, hb, hfl, hK⟩ := h
      refine ⟨k, res, r, res', hb, hfl, hK, fun B2 hb2 => ?_⟩
      obtain ⟨u, B', hop, _, rfl, rfl⟩ := vCall1_sound (B := B2) (args := args.toList) (K := fun u B' => u = r ∧ B' = Bx.put k res' B2) (by rw [ho]) hf hu ⟨k, res, r, res', hpc, hb2, rfl, rfl⟩
      exact hop
    · exact h.elim
  · exact h.elim
def genVCC (P : Program) (l : List Oper) (es : List Nat) (c m : Nat) (Bf : Bx) (env : Env) (B : Bx) (K : Env → Bx → Prop) : Prop :=
  parVC P l Bf (l.take c) env fun env1 => match l.drop c with
    | o :: os => turnVC P o env1 B fun t B1 => bxSub B1 Bf ∧ genVCM P l es Bf (c + 1) [] (os.take (m - (c + 1))) (putE env1 o.dst t) B1 fun env2 B2 => lastVC P (l.drop m) env2 B2 K
    | [] => False
def genCOk (n : Nat) (l : List Oper) (c m : Nat) : Bool := genMSOk n l m && (Nat.blt c m && (match l[c]? with | some o => o.guard.isNone | none => false))
/-- THE RULE: the call c turns a box; es: the operations that make rows or boxes, behind it in the text; the last operation, that waits for all others, stores -/
theorem AWP.genC {id : Nat} {l : List Oper} {env : Env} {B : Bx} (c : Nat) (es : List Nat) (m : Nat) (ks : List Nat) (hm : P.follows .mixedOrders = true) (hl : genCOk n l c m = true)
    (h : ∀ K : Env → Bx → Prop, (∀ e b, Q .normal ⟨e, b⟩ → K e b) → genVCC P l es c m (Bx.outs B ks) env B K) : AWP P n (.region id l.toArray true) ⟨env, B⟩ Q := by
  simp only [genCOk, genMSOk, genMOk, Bool.and_eq_true, beq_iff_eq] at hl
  obtain ⟨⟨⟨hlex, hds⟩, hlen1, hdep, hgd⟩, hcm, hgc⟩ := hl
  have hcm : c < m := Nat.le_of_ble_eq_true hcm
  have hlt : m < l.length := by omega
  obtain ⟨oL, hoL⟩ : ∃ o, l[m]? = some o := ⟨l[m], by simp [hlt]⟩
  obtain ⟨oC, hoC⟩ : ∃ o, l[c]? = some o := ⟨l[c]'(by omega), by simp [show c < l.length by omega]⟩
  rw [hoL] at hgd
  rw [hoC] at hgc
  have hgL : oL.guard = none := by simpa using hgd
  have hgC : oC.guard = none := by simpa using hgc
  have hdst : ∀ i o, l[i]? = some o → dstOk n o = true ∧ Nat.blt (dstN o) pin = true := fun i o ho => by
    have := List.all_eq_true.1 hds o (List.mem_of_getElem? ho)
    simpa [Bool.and_eq_true] using this
  have hsub : ∀ l' : List Oper, (∀ x ∈ l', x ∈ l) → dstsOk n l' = true := fun l' hs => List.all_eq_true.2 fun x hx => List.all_eq_true.1 hds x (hs x hx)
  have hdropm : l.drop m = [oL] := by
    rw [List.drop_eq_getElem_cons hlt, List.drop_eq_nil_of_le (by omega)]
    have := List.getElem?_eq_getElem hlt
    rw [hoL] at this
    rw [Option.some.inj this]
  have hdropc : l.drop c = oC :: l.drop (c + 1) := by
    rw [List.drop_eq_getElem_cons (by omega)]
    have := List.getElem?_eq_getElem (show c < l.length by omega)
    rw [hoC] at this
    rw [Option.some.inj this]
  intro κ M0 a w hs
  have hBn : (B.map (·.1)).Nodup := by obtain ⟨M, ν, _, _, _, _, h7, _⟩ := hs; exact h7.nodup
  obtain ⟨hback, hpairs, _⟩ := lex_pairs hlex
  have hv := h (fun e b => Q .normal ⟨e, b⟩) (fun _ _ k => k)
  unfold genVCC at hv
  obtain ⟨t1, hs1, hK1⟩ := parM_trace l _ _ (l.take c) env (hsub _ fun x hx => List.mem_of_mem_take hx) hv
  rw [hdropc] at hK1
  simp only [List.length_take, show min c l.length = c by omega] at hK1
  obtain ⟨kb, res, tc, res2, hlk, hflat, ⟨hb1, hv2⟩, hop⟩ := turnVC_sound hK1
  have hB1f : ∀ x ∈ Bx.outs B ks, x ∈ Bx.put kb res2 B := bxSub_spec hb1
  obtain ⟨t2, mk2, hs2, hlen2, hro2, hfb2, hdis2, _, hjj2, hK2⟩ := genM_trace l es (Bx.outs B ks) _ ((l.drop (c + 1)).take (m - (c + 1))) (c + 1) [] _ _ (hsub _ fun x hx => List.mem_of_mem_drop (List.mem_of_mem_take hx)) hB1f hv2
  have hl2 : ((l.drop (c + 1)).take (m - (c + 1))).length = m - (c + 1) := by simp; omega
  rw [hl2] at hlen2 hjj2 hK2
  rw [hdropm] at hK2
  let t : Nat → T := fun i => if i < c then t1 i else if i = c then tc else if i < m then t2 (i - (c + 1)) else undefT
  let mk : Nat → Option (Nat × Res) := fun i => if c < i then mk2 (i - (c + 1)) else none
  have e1 : ∀ i, i ≤ c → envA l t (fun _ => true) env i = envA (l.take c) t1 (fun _ => true) env i := by
    intro i
    induction i with
    | zero => intro _; rfl
    | succ i ih =>
      intro hi
      rw [envA, envA, ih (by omega), List.getElem?_take_of_lt (by omega)]
      simp only [t, show i < c by omega, if_true]
  have ec : envA l t (fun _ => true) env (c + 1) = putE (envA (l.take c) t1 (fun _ => true) env c) oC.dst tc := by
    rw [envA, e1 c (Nat.le_refl _), hoC]
    simp only [cond_true, Option.bind_some, t, Nat.lt_irrefl, if_false, if_true]
  have e2 : ∀ i, c + 1 + i ≤ m → envA l t (fun _ => true) env (c + 1 + i) = envA ((l.drop (c + 1)).take (m - (c + 1))) t2 (fun _ => true) (putE (envA (l.take c) t1 (fun _ => true) env c) oC.dst tc) i := by
    intro i
    induction i with
    | zero => intro _; exact ec
    | succ i ih =>
      intro hi
      rw [show c + 1 + (i + 1) = (c + 1 + i) + 1 by omega, envA, envA, ih (by omega), List.getElem?_take_of_lt (by omega), List.getElem?_drop]
      simp only [t, show ¬ (c + 1 + i < c) by omega, show ¬ (c + 1 + i = c) by omega, show c + 1 + i < m by omega, if_false, if_true, show c + 1 + i - (c + 1) = i by omega]
  have em := e2 (m - (c + 1)) (by omega)
  rw [show c + 1 + (m - (c + 1)) = m by omega] at em
  have htm : t m = undefT := by simp only [t, show ¬ (m < c) by omega, show ¬ (m = c) by omega, Nat.lt_irrefl, if_false]
  have hbx : ∀ q, bxX mk (Bx.put kb res2 B) (fun _ => true) (c + 1 + q) = bxX mk2 (Bx.put kb res2 B) (fun _ => true) q := by
    intro q
    induction q with
    | zero =>
      have : ∀ q, q ≤ c + 1 → bxX mk (Bx.put kb res2 B) (fun _ => true) q = Bx.put kb res2 B := by
        intro q
        induction q with
        | zero => intro _; rfl
        | succ q ih =>
          intro hq
          rw [bxX, ih (by omega)]
          simp only [mk, show ¬ (c < q) by omega, if_false]
      exact this _ (Nat.le_refl _)
    | succ q ih =>
      rw [show c + 1 + (q + 1) = (c + 1 + q) + 1 by omega, bxX, bxX, ih]
      simp only [mk, show c < c + 1 + q by omega, if_true, show c + 1 + q - (c + 1) = q by omega]
  have hbm := hbx (m - (c + 1))
  rw [show c + 1 + (m - (c + 1)) = m by omega] at hbm
  rw [← em, ← hbm] at hK2
  obtain ⟨B', hopL, hKB⟩ : ∃ B', OpE P oL (envA l t (fun _ => true) env m) (bxX mk (Bx.put kb res2 B) (fun _ => true) m) undefT B' ∧ Q .normal ⟨putE (envA l t (fun _ => true) env m) oL.dst undefT, B'⟩ := by
    simp only [lastVC] at hK2
    split at hK2
    · rename_i ho
      exact vStore_sound ho hK2
    · exact hK2.elim
  have hmkS : ∀ i p, mk i = some p → c < i ∧ i < m ∧ mk2 (i - (c + 1)) = some p := by
    intro i p hp
    by_cases hci : c < i
    · simp only [mk, hci, if_true] at hp
      have := hlen2 _ p hp
      exact ⟨hci, by omega, hp⟩
    · simp only [mk, hci, if_false] at hp; cases hp
  have hfr1 : ∀ i p, mk i = some p → Bx.fresh p.1 (Bx.put kb res2 B) = true := fun i p hp => hfb2 _ p (hmkS i p hp).2.2
  have hfr0 : ∀ i p, mk i = some p → Bx.fresh p.1 B = true := fun i p hp => Bx.fresh_unput hBn (hfr1 i p hp) hlk hflat
  refine wp_region_any hm ?_
  have hsz : l.toArray.size = l.length := by simp
  rw [hsz]
  have hrep : ∀ j, (Array.replicate l.length false).getD j false = false := fun j => rep_getD _ j
  have hxs : ∀ j, xs (Array.replicate l.length false) j = false := fun j => rep_getD _ j
  have hend : envA l t (fun _ => true) env l.length = putE (envA l t (fun _ => true) env m) oL.dst undefT := by
    rw [hlen1, envA]
    simp only [cond_true, hoL, Option.bind_some, htm]
  refine genCS_sound (κ := κ) (M0 := M0) (t := t) (mk := mk) (B0 := B) (Bf := Bx.outs B ks) (c := c) (kb := kb) (res := res) (res2 := res2) (env0 := env) (L := m) (oL := oL) (B' := B') hback hpairs
    ⟨fun i j p q hp hq hij => ?_, fun i p hp x hx => (Bx.fresh_spec (j := x.1) (r := x.2) (hfr0 i p hp) hx).1⟩ hlk (by simp only [mk, Nat.lt_irrefl, if_false]) hcm (fun x hx => Bx.outs_sub hx) hB1f (fun i p hp => ⟨hfr0 i p hp, hfr1 i p hp⟩) (fun o ho => ?_)
    (fun i p hp => hro2 _ p (hmkS i p hp).2.2) (fun i p hp => by have := hmkS i p hp; omega) hlen1 hoL (hdst m oL hoL).1 hgL (fun i hi => List.all_eq_true.1 hdep i (List.mem_range.2 hi)) ?_ ?_ ?_ (fun a w s => ?_) l.length _ a _ ?_ ?_
  · have h1 := hmkS i p hp
    have h2 := hmkS j q hq
    exact hdis2 _ _ p q h1.2.2 h2.2.2 (by omega)
  · rw [hoC] at ho; cases ho
    refine ⟨(hdst c oC hoC).1, hgC, fun B2 hb2 => ?_⟩
    rw [e1 c (Nat.le_refl _)]
    have : t c = tc := by simp only [t, Nat.lt_irrefl, if_false, if_true]
    rw [this]
    exact hop B2 hb2
  · rw [htm]; exact hopL
  · intro i o hi hic ho
    by_cases hci : i < c
    · rw [e1 i (by omega)]
      have h1 := hs1 i o (by rw [List.getElem?_take_of_lt hci]; exact ho)
      have : t i = t1 i := by simp only [t, hci, if_true]
      have hm0 : mk i = none := by simp only [mk, show ¬ (c < i) by omega, if_false]
      rw [this, hm0]; exact h1
    · have hq : c + 1 + (i - (c + 1)) = i := by omega
      have he := e2 (i - (c + 1)) (by omega)
      rw [hq] at he
      have h1 := hs2 (i - (c + 1)) o (by rw [List.getElem?_take_of_lt (by omega), List.getElem?_drop, hq]; exact ho)
      have : t i = t2 (i - (c + 1)) := by simp only [t, hci, hic, hi, if_false, if_true]
      have hm0 : mk i = mk2 (i - (c + 1)) := by simp only [mk, show c < i by omega, if_true]
      rw [this, hm0, he]; exact h1
  · intro g k p hg hgk hk
    obtain ⟨h1, h2, h3⟩ := hmkS g p hg
    by_cases hkm : k < m
    · have := hjj2 (g - (c + 1)) (k - (c + 1)) p h3 (by omega) (by omega)
      have htk : t k = t2 (k - (c + 1)) := by simp only [t, show ¬ (k < c) by omega, show ¬ (k = c) by omega, hkm, if_false, if_true]
      rw [htk]
      rw [show c + 1 + (k - (c + 1)) = k by omega, show c + 1 + (g - (c + 1)) = g by omega] at this
      exact this
    · left
      have : t k = undefT := by simp only [t, show ¬ (k < c) by omega, show ¬ (k = c) by omega, hkm, if_false]
      rw [this]; rfl
  · rw [hend] at s
    exact ⟨_, s, hKB⟩
  · unfold cnt
    have hfil : (List.range l.length).filter (fun i => !(Array.replicate l.length false).getD i false) = List.range l.length := by
      rw [List.filter_eq_self]
      intro x _
      simp only [hrep x, Bool.not_false]
    rw [hfil, List.length_range]
  · have hst := mid_start (σ := ⟨env, B⟩) (l := l) (t := t) (b := fun _ => B) (e := fun _ => false) rfl hs
    obtain ⟨M, ν, _, h1, h2, h3, h4, _, _, h7, h8⟩ := hst.st
    have hbx0 : ∀ q, bxX mk B (xs (Array.replicate l.length false)) q = B := by
      intro q
      induction q with
      | zero => rfl
      | succ q ih => unfold bxX; rw [hxs q]; simp only [ih]
    exact ⟨⟨hst.size, hst.closed, M, ν, h1, h2, h3, h4, by rw [hxs c, cond_false, hbx0]; exact h7, h8⟩, hrep m⟩
attribute [go_sem] turnVC Res.flatB Cell.allInP Cell.inP
end Go.Sx
