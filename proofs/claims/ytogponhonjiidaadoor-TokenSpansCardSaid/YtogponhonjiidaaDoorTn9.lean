/- A part of the proof: lemmas about the walk of the program and about plain integers and lists. No conditions beyond those that each lemma states. -/
import Derived.Test.YtogponhonjiidaaDoorTn8
set_option linter.unusedSimpArgs false
set_option linter.unusedVariables false
set_option maxRecDepth 20000
set_option maxHeartbeats 16000000
namespace Go.Proofs.YtogponhonjiidaaDoor
open Go Go.Sx
open Nat renaming reduceBEq → zA, reduceBNe → zB, reduceAdd → zC, reduceSub → zD, reduceMul → zE, reduceLeDiff → zF, reduceLT → zG, reduceEqDiff → zH
open Int renaming reduceToNat → zI, reduceLE → zJ, reduceLT → zK, reduceEq → zL
open Bool renaming not_eq_true' → zM, not_eq_false' → zN
/-- the environment with the new variable, an integer -/
abbrev inV (env : List NamD) (g : Gn) : List NamD := env ++ [⟨freshV g, 0⟩]
theorem inV_len {env : List NamD} {m : Nat} (g : Gn) (h : EOk m env) : EOk (m + 1) (inV env g) := h.snoc _ (by have := freshV_len g; simp only; omega)
def tryV (E : Mk) (sort : Int) (env : List NamD) (g : Gn) : List UInt8 × Gn :=
  let a0 := E sort env (nxt (incK g) 5)
  let a1 := E sort env a0.2
  ([116, 114, 121, 32] ++ a0.1 ++ [32, 99, 97, 116, 99, 104, 32, 95, 32, 45, 62, 32] ++ a1.1 ++ [32, 101, 110, 100], a1.2)
theorem try_c (c : Cst) (D D1 : Int) (m L : Nat) (E : Mk) (hD : IntKind.i64.wrap (D - 1) = D1) (hE : Good c D1 (m + 1) L E) (hL : L ≤ 1000000) (g : Gn) (hg : g.s.ok) (sort : Int) (env : List NamD) (he : EOk m env) (hm : m ≤ 1000) (h0 : drawV (incK g).s 5 = 0) : PCB Tryd.prog 79 [Sp 1000000, I .i64 sort, I .i64 D, Envt env] (gB c g) (S (tryV E sort env g).1) (gB c (tryV E sort env g).2) := by
  have hmax : 10000000 ≤ maxLen := by unfold maxLen; omega
  have hlf := freshV_len g
  have he1 := he.mono (Nat.le_succ m)
  have hlen1 := he.len
  have hein := inV_len g he
  have hlen2 := hein.len
  have r0 := hE.run sort env (nxt (incK g) 5) (ok_nxt (g := incK g) hg 5) he1
  have k0 := hE.ok sort env (nxt (incK g) 5) (ok_nxt (g := incK g) hg 5) he1
  have l0 := hE.len sort env (nxt (incK g) 5) (ok_nxt (g := incK g) hg 5) he1
  have r1 := hE.run sort env (E sort env (nxt (incK g) 5)).2 k0 he1
  have k1 := hE.ok sort env (E sort env (nxt (incK g) 5)).2 k0 he1
  have l1 := hE.len sort env (E sort env (nxt (incK g) 5)).2 k0 he1
  refine PCB.of_body Tryd.func79 rfl (by decide) Tryd.ntmps79 Tryd.results79 rfl rfl rfl ?_ rfl rfl
  repeat' (first | (simp only [go_sem, zA, zB, zC, zD, zE, zF, zG, reduceCtorEq, zH, zI, zJ, zK, zL, Bx.puts, hD, nam_snoc, List.length_map, h0]; all_goals fail_if_success guard_target =ₛ False) | (with_reducible first | ((first | refine seqVC_stepN rfl ?_ | refine AWP.seq ?_ | refine AWP.seqR (by kernel_rfl) ?_); intro K hK) | ((first | refine hK _ _ _ ?_ | refine hK _ _ ?_ | refine hK _ ?_); clear hK K) | refine seqVC_nil ?_ | refine AWP.block ?_ | (refine AWP.cond (by with_unfolding_all rfl) ?_ ?_ <;> intro h <;> (try simp only [zM, zN] at h) <;> try exact absurd h (by decide)) | refine AWP.skip ?_ | refine AWP.ret ?_ | refine AWP.exit ?_ | (refine ⟨(by first | omega | (simp only [List.length_append, List.length_map, List.length_take, List.length_drop, List.length_cons, List.length_nil, List.length_replicate]; omega) : _ ≤ _), ?_⟩) | refine ⟨by omega, by omega, ?_⟩) | ( refine Or.inr ⟨_, _, _, fresh_c c g, ⟨rfl, rfl, trivial⟩, rfl, rfl, ?_⟩) | (refine ⟨1000001, _, _, _, draw_k 1000001 (incK g).s hg 5 (by omega), rfl, ?_⟩) | ( refine Or.inr ⟨_, _, _, r0, ⟨rfl, rfl, trivial⟩, rfl, rfl, ?_⟩) | ( refine Or.inr ⟨_, _, _, r1, ⟨rfl, rfl, trivial⟩, rfl, rfl, ?_⟩) | (with_reducible first | refine Or.inl ?_) | (clear hK K))
  all_goals (refine ⟨?_, fun x hx => hx⟩; first | rfl | (simp only [tryV, List.append_assoc, List.cons_append, List.nil_append]))
def case0V (E : Mk) (sort : Int) (env : List NamD) (g : Gn) : List UInt8 × Gn :=
  let a0 := E 0 env (nxt (nxt (incK g) 5) 4)
  let a1 := E sort env (nxt a0.2 7)
  let a2 := E sort (inV env g) a1.2
  ([99, 97, 115, 101, 32] ++ a0.1 ++ [32, 111, 102, 32] ++ smallV a0.2 ++ [32, 45, 62, 32] ++ a1.1 ++ [59, 32] ++ freshV g ++ [32, 45, 62, 32] ++ a2.1 ++ [32, 101, 110, 100], a2.2)
theorem case0_c (c : Cst) (D D1 : Int) (m L : Nat) (E : Mk) (hD : IntKind.i64.wrap (D - 1) = D1) (hE : Good c D1 (m + 1) L E) (hL : L ≤ 1000000) (g : Gn) (hg : g.s.ok) (sort : Int) (env : List NamD) (he : EOk m env) (hm : m ≤ 1000) (h0 : decide (drawV (incK g).s 5 = 0) = false) (h1 : drawV (nxt (incK g) 5).s 4 = 0) : PCB Tryd.prog 79 [Sp 1000000, I .i64 sort, I .i64 D, Envt env] (gB c g) (S (case0V E sort env g).1) (gB c (case0V E sort env g).2) := by
  have hmax : 10000000 ≤ maxLen := by unfold maxLen; omega
  have hlf := freshV_len g
  have he1 := he.mono (Nat.le_succ m)
  have hlen1 := he.len
  have hein := inV_len g he
  have hlen2 := hein.len
  have r0 := hE.run 0 env (nxt (nxt (incK g) 5) 4) (ok_nxt (ok_nxt (g := incK g) hg 5) 4) he1
  have k0 := hE.ok 0 env (nxt (nxt (incK g) 5) 4) (ok_nxt (ok_nxt (g := incK g) hg 5) 4) he1
  have l0 := hE.len 0 env (nxt (nxt (incK g) 5) 4) (ok_nxt (ok_nxt (g := incK g) hg 5) 4) he1
  have ls := smallV_len (E 0 env (nxt (nxt (incK g) 5) 4)).2
  have r1 := hE.run sort env (nxt (E 0 env (nxt (nxt (incK g) 5) 4)).2 7) (ok_nxt k0 7) he1
  have k1 := hE.ok sort env (nxt (E 0 env (nxt (nxt (incK g) 5) 4)).2 7) (ok_nxt k0 7) he1
  have l1 := hE.len sort env (nxt (E 0 env (nxt (nxt (incK g) 5) 4)).2 7) (ok_nxt k0 7) he1
  have r2 := hE.run sort (inV env g) (E sort env (nxt (E 0 env (nxt (nxt (incK g) 5) 4)).2 7)).2 k1 hein
  have k2 := hE.ok sort (inV env g) (E sort env (nxt (E 0 env (nxt (nxt (incK g) 5) 4)).2 7)).2 k1 hein
  have l2 := hE.len sort (inV env g) (E sort env (nxt (E 0 env (nxt (nxt (incK g) 5) 4)).2 7)).2 k1 hein
  refine PCB.of_body Tryd.func79 rfl (by decide) Tryd.ntmps79 Tryd.results79 rfl rfl rfl ?_ rfl rfl
  repeat' (first | (refine atR 8 (Gh.freeze 51 (by rfl) (by rfl) (by simp only [go_sem, zA, zB, zC, zD, zE, zF, zG, reduceCtorEq, zH, zI, zJ, zK, zL, Bx.puts, hD, nam_snoc, List.length_map, h0, h1, List.length_map]) (by simp only [go_sem, zA, zB, zC, zD, zE, zF, zG, reduceCtorEq, zH, zI, zJ, zK, zL, Bx.puts, hD, nam_snoc, List.length_map, h0, h1, List.length_map])) ?_; simp only [frE, frB, Bx.drop, go_sem, zA, zB, zC, zD, zE, zF, zG, reduceCtorEq, zH, zI, zJ, zK, zL, Bx.puts, hD, nam_snoc, List.length_map, h0, h1]) | (simp only [go_sem, zA, zB, zC, zD, zE, zF, zG, reduceCtorEq, zH, zI, zJ, zK, zL, Bx.puts, hD, nam_snoc, List.length_map, h0, h1]; all_goals fail_if_success guard_target =ₛ False) | (with_reducible first | ((first | refine seqVC_stepN rfl ?_ | refine AWP.seq ?_ | refine AWP.seqR (by kernel_rfl) ?_); intro K hK) | ((first | refine hK _ _ _ ?_ | refine hK _ _ ?_ | refine hK _ ?_); clear hK K) | refine seqVC_nil ?_ | refine AWP.block ?_ | (refine AWP.cond (by with_unfolding_all rfl) ?_ ?_ <;> intro h <;> (try simp only [zM, zN] at h) <;> try exact absurd h (by decide)) | refine AWP.skip ?_ | refine AWP.ret ?_ | refine AWP.exit ?_ | (refine ⟨(by first | omega | (simp only [List.length_append, List.length_map, List.length_take, List.length_drop, List.length_cons, List.length_nil, List.length_replicate]; omega) : _ ≤ _), ?_⟩) | refine ⟨by omega, by omega, ?_⟩) | ( refine Or.inr ⟨_, _, _, fresh_c c g, ⟨rfl, rfl, trivial⟩, rfl, rfl, ?_⟩) | (refine ⟨1000001, _, _, _, draw_k 1000001 (incK g).s hg 5 (by omega), rfl, ?_⟩) | (refine ⟨1000001, _, _, _, draw_k 1000001 (nxt (incK g) 5).s (ok_nxt hg 5) 4 (by omega), rfl, ?_⟩) | ( refine Or.inr ⟨_, _, _, r0, ⟨rfl, rfl, trivial⟩, rfl, rfl, ?_⟩) | ( refine Or.inr ⟨_, _, _, small_c c (E 0 env (nxt (nxt (incK g) 5) 4)).2 k0, ⟨rfl, rfl, trivial⟩, rfl, rfl, ?_⟩) | ( refine Or.inr ⟨_, _, _, r1, ⟨rfl, rfl, trivial⟩, rfl, rfl, ?_⟩) | ( refine Or.inr ⟨_, _, _, r2, ⟨rfl, rfl, trivial⟩, rfl, rfl, ?_⟩) | (with_reducible first | refine Or.inl ?_) | (clear hK K))
  all_goals (refine ⟨?_, fun x hx => hx⟩; first | rfl | (simp only [case0V, List.append_assoc, List.cons_append, List.nil_append]))
def case1V (E : Mk) (sort : Int) (env : List NamD) (g : Gn) : List UInt8 × Gn :=
  let a0 := E 3 env (nxt (nxt (incK g) 5) 4)
  let a1 := E sort env a0.2
  let a2 := E sort (inV env g) a1.2
  ([99, 97, 115, 101, 32] ++ a0.1 ++ [32, 111, 102, 32, 91, 93, 32, 45, 62, 32] ++ a1.1 ++ [59, 32, 91] ++ freshV g ++ [32, 124, 32, 95, 93, 32, 45, 62, 32] ++ a2.1 ++ [32, 101, 110, 100], a2.2)
theorem case1_c (c : Cst) (D D1 : Int) (m L : Nat) (E : Mk) (hD : IntKind.i64.wrap (D - 1) = D1) (hE : Good c D1 (m + 1) L E) (hL : L ≤ 1000000) (g : Gn) (hg : g.s.ok) (sort : Int) (env : List NamD) (he : EOk m env) (hm : m ≤ 1000) (h0 : decide (drawV (incK g).s 5 = 0) = false) (h1 : drawV (nxt (incK g) 5).s 4 = 1) : PCB Tryd.prog 79 [Sp 1000000, I .i64 sort, I .i64 D, Envt env] (gB c g) (S (case1V E sort env g).1) (gB c (case1V E sort env g).2) := by
  have hmax : 10000000 ≤ maxLen := by unfold maxLen; omega
  have hlf := freshV_len g
  have he1 := he.mono (Nat.le_succ m)
  have hlen1 := he.len
  have hein := inV_len g he
  have hlen2 := hein.len
  have r0 := hE.run 3 env (nxt (nxt (incK g) 5) 4) (ok_nxt (ok_nxt (g := incK g) hg 5) 4) he1
  have k0 := hE.ok 3 env (nxt (nxt (incK g) 5) 4) (ok_nxt (ok_nxt (g := incK g) hg 5) 4) he1
  have l0 := hE.len 3 env (nxt (nxt (incK g) 5) 4) (ok_nxt (ok_nxt (g := incK g) hg 5) 4) he1
  have r1 := hE.run sort env (E 3 env (nxt (nxt (incK g) 5) 4)).2 k0 he1
  have k1 := hE.ok sort env (E 3 env (nxt (nxt (incK g) 5) 4)).2 k0 he1
  have l1 := hE.len sort env (E 3 env (nxt (nxt (incK g) 5) 4)).2 k0 he1
  have r2 := hE.run sort (inV env g) (E sort env (E 3 env (nxt (nxt (incK g) 5) 4)).2).2 k1 hein
  have k2 := hE.ok sort (inV env g) (E sort env (E 3 env (nxt (nxt (incK g) 5) 4)).2).2 k1 hein
  have l2 := hE.len sort (inV env g) (E sort env (E 3 env (nxt (nxt (incK g) 5) 4)).2).2 k1 hein
  refine PCB.of_body Tryd.func79 rfl (by decide) Tryd.ntmps79 Tryd.results79 rfl rfl rfl ?_ rfl rfl
  repeat' (first | (refine atR 11 (Gh.freeze 90 (by rfl) (by rfl) (by simp only [go_sem, zA, zB, zC, zD, zE, zF, zG, reduceCtorEq, zH, zI, zJ, zK, zL, Bx.puts, hD, nam_snoc, List.length_map, h0, h1, List.length_map]) (by simp only [go_sem, zA, zB, zC, zD, zE, zF, zG, reduceCtorEq, zH, zI, zJ, zK, zL, Bx.puts, hD, nam_snoc, List.length_map, h0, h1, List.length_map])) ?_; simp only [frE, frB, Bx.drop, go_sem, zA, zB, zC, zD, zE, zF, zG, reduceCtorEq, zH, zI, zJ, zK, zL, Bx.puts, hD, nam_snoc, List.length_map, h0, h1]) | (simp only [go_sem, zA, zB, zC, zD, zE, zF, zG, reduceCtorEq, zH, zI, zJ, zK, zL, Bx.puts, hD, nam_snoc, List.length_map, h0, h1]; all_goals fail_if_success guard_target =ₛ False) | (with_reducible first | ((first | refine seqVC_stepN rfl ?_ | refine AWP.seq ?_ | refine AWP.seqR (by kernel_rfl) ?_); intro K hK) | ((first | refine hK _ _ _ ?_ | refine hK _ _ ?_ | refine hK _ ?_); clear hK K) | refine seqVC_nil ?_ | refine AWP.block ?_ | (refine AWP.cond (by with_unfolding_all rfl) ?_ ?_ <;> intro h <;> (try simp only [zM, zN] at h) <;> try exact absurd h (by decide)) | refine AWP.skip ?_ | refine AWP.ret ?_ | refine AWP.exit ?_ | (refine ⟨(by first | omega | (simp only [List.length_append, List.length_map, List.length_take, List.length_drop, List.length_cons, List.length_nil, List.length_replicate]; omega) : _ ≤ _), ?_⟩) | refine ⟨by omega, by omega, ?_⟩) | ( refine Or.inr ⟨_, _, _, fresh_c c g, ⟨rfl, rfl, trivial⟩, rfl, rfl, ?_⟩) | (refine ⟨1000001, _, _, _, draw_k 1000001 (incK g).s hg 5 (by omega), rfl, ?_⟩) | (refine ⟨1000001, _, _, _, draw_k 1000001 (nxt (incK g) 5).s (ok_nxt hg 5) 4 (by omega), rfl, ?_⟩) | ( refine Or.inr ⟨_, _, _, r0, ⟨rfl, rfl, trivial⟩, rfl, rfl, ?_⟩) | ( refine Or.inr ⟨_, _, _, r1, ⟨rfl, rfl, trivial⟩, rfl, rfl, ?_⟩) | ( refine Or.inr ⟨_, _, _, r2, ⟨rfl, rfl, trivial⟩, rfl, rfl, ?_⟩) | (with_reducible first | refine Or.inl ?_) | (clear hK K))
  all_goals (refine ⟨?_, fun x hx => hx⟩; first | rfl | (simp only [case1V, List.append_assoc, List.cons_append, List.nil_append]))
def case2V (E : Mk) (sort : Int) (env : List NamD) (g : Gn) : List UInt8 × Gn :=
  let a0 := E 4 env (nxt (nxt (incK g) 5) 4)
  let a1 := E sort (inV env g) a0.2
  let a2 := E sort env a1.2
  ([99, 97, 115, 101, 32] ++ a0.1 ++ [32, 111, 102, 32, 123, 111, 107, 44, 32] ++ freshV g ++ [125, 32, 45, 62, 32] ++ a1.1 ++ [59, 32, 95, 32, 45, 62, 32] ++ a2.1 ++ [32, 101, 110, 100], a2.2)
theorem case2_c (c : Cst) (D D1 : Int) (m L : Nat) (E : Mk) (hD : IntKind.i64.wrap (D - 1) = D1) (hE : Good c D1 (m + 1) L E) (hL : L ≤ 1000000) (g : Gn) (hg : g.s.ok) (sort : Int) (env : List NamD) (he : EOk m env) (hm : m ≤ 1000) (h0 : decide (drawV (incK g).s 5 = 0) = false) (h1 : drawV (nxt (incK g) 5).s 4 = 2) : PCB Tryd.prog 79 [Sp 1000000, I .i64 sort, I .i64 D, Envt env] (gB c g) (S (case2V E sort env g).1) (gB c (case2V E sort env g).2) := by
  have hmax : 10000000 ≤ maxLen := by unfold maxLen; omega
  have hlf := freshV_len g
  have he1 := he.mono (Nat.le_succ m)
  have hlen1 := he.len
  have hein := inV_len g he
  have hlen2 := hein.len
  have r0 := hE.run 4 env (nxt (nxt (incK g) 5) 4) (ok_nxt (ok_nxt (g := incK g) hg 5) 4) he1
  have k0 := hE.ok 4 env (nxt (nxt (incK g) 5) 4) (ok_nxt (ok_nxt (g := incK g) hg 5) 4) he1
  have l0 := hE.len 4 env (nxt (nxt (incK g) 5) 4) (ok_nxt (ok_nxt (g := incK g) hg 5) 4) he1
  have r1 := hE.run sort (inV env g) (E 4 env (nxt (nxt (incK g) 5) 4)).2 k0 hein
  have k1 := hE.ok sort (inV env g) (E 4 env (nxt (nxt (incK g) 5) 4)).2 k0 hein
  have l1 := hE.len sort (inV env g) (E 4 env (nxt (nxt (incK g) 5) 4)).2 k0 hein
  have r2 := hE.run sort env (E sort (inV env g) (E 4 env (nxt (nxt (incK g) 5) 4)).2).2 k1 he1
  have k2 := hE.ok sort env (E sort (inV env g) (E 4 env (nxt (nxt (incK g) 5) 4)).2).2 k1 he1
  have l2 := hE.len sort env (E sort (inV env g) (E 4 env (nxt (nxt (incK g) 5) 4)).2).2 k1 he1
  refine PCB.of_body Tryd.func79 rfl (by decide) Tryd.ntmps79 Tryd.results79 rfl rfl rfl ?_ rfl rfl
  repeat' (first | (refine atR 14 (Gh.freeze 125 (by rfl) (by rfl) (by simp only [go_sem, zA, zB, zC, zD, zE, zF, zG, reduceCtorEq, zH, zI, zJ, zK, zL, Bx.puts, hD, nam_snoc, List.length_map, h0, h1, List.length_map]) (by simp only [go_sem, zA, zB, zC, zD, zE, zF, zG, reduceCtorEq, zH, zI, zJ, zK, zL, Bx.puts, hD, nam_snoc, List.length_map, h0, h1, List.length_map])) ?_; simp only [frE, frB, Bx.drop, go_sem, zA, zB, zC, zD, zE, zF, zG, reduceCtorEq, zH, zI, zJ, zK, zL, Bx.puts, hD, nam_snoc, List.length_map, h0, h1]) | (simp only [go_sem, zA, zB, zC, zD, zE, zF, zG, reduceCtorEq, zH, zI, zJ, zK, zL, Bx.puts, hD, nam_snoc, List.length_map, h0, h1]; all_goals fail_if_success guard_target =ₛ False) | (with_reducible first | ((first | refine seqVC_stepN rfl ?_ | refine AWP.seq ?_ | refine AWP.seqR (by kernel_rfl) ?_); intro K hK) | ((first | refine hK _ _ _ ?_ | refine hK _ _ ?_ | refine hK _ ?_); clear hK K) | refine seqVC_nil ?_ | refine AWP.block ?_ | (refine AWP.cond (by with_unfolding_all rfl) ?_ ?_ <;> intro h <;> (try simp only [zM, zN] at h) <;> try exact absurd h (by decide)) | refine AWP.skip ?_ | refine AWP.ret ?_ | refine AWP.exit ?_ | (refine ⟨(by first | omega | (simp only [List.length_append, List.length_map, List.length_take, List.length_drop, List.length_cons, List.length_nil, List.length_replicate]; omega) : _ ≤ _), ?_⟩) | refine ⟨by omega, by omega, ?_⟩) | ( refine Or.inr ⟨_, _, _, fresh_c c g, ⟨rfl, rfl, trivial⟩, rfl, rfl, ?_⟩) | (refine ⟨1000001, _, _, _, draw_k 1000001 (incK g).s hg 5 (by omega), rfl, ?_⟩) | (refine ⟨1000001, _, _, _, draw_k 1000001 (nxt (incK g) 5).s (ok_nxt hg 5) 4 (by omega), rfl, ?_⟩) | ( refine Or.inr ⟨_, _, _, r0, ⟨rfl, rfl, trivial⟩, rfl, rfl, ?_⟩) | ( refine Or.inr ⟨_, _, _, r1, ⟨rfl, rfl, trivial⟩, rfl, rfl, ?_⟩) | ( refine Or.inr ⟨_, _, _, r2, ⟨rfl, rfl, trivial⟩, rfl, rfl, ?_⟩) | (with_reducible first | refine Or.inl ?_) | (clear hK K))
  all_goals (refine ⟨?_, fun x hx => hx⟩; first | rfl | (simp only [case2V, List.append_assoc, List.cons_append, List.nil_append]))
def case3V (E : Mk) (sort : Int) (env : List NamD) (g : Gn) : List UInt8 × Gn :=
  let a0 := E 7 env (nxt (nxt (incK g) 5) 4)
  let a1 := E sort (inV env g) a0.2
  let a2 := E sort env a1.2
  ([99, 97, 115, 101, 32] ++ a0.1 ++ [32, 111, 102, 32] ++ freshV g ++ [32, 119, 104, 101, 110, 32, 105, 115, 95, 105, 110, 116, 40] ++ freshV g ++ [41, 32, 45, 62, 32] ++ a1.1 ++ [59, 32, 95, 32, 45, 62, 32] ++ a2.1 ++ [32, 101, 110, 100], a2.2)
theorem case3_c (c : Cst) (D D1 : Int) (m L : Nat) (E : Mk) (hD : IntKind.i64.wrap (D - 1) = D1) (hE : Good c D1 (m + 1) L E) (hL : L ≤ 1000000) (g : Gn) (hg : g.s.ok) (sort : Int) (env : List NamD) (he : EOk m env) (hm : m ≤ 1000) (h0 : decide (drawV (incK g).s 5 = 0) = false) (h1 : drawV (nxt (incK g) 5).s 4 = 3) : PCB Tryd.prog 79 [Sp 1000000, I .i64 sort, I .i64 D, Envt env] (gB c g) (S (case3V E sort env g).1) (gB c (case3V E sort env g).2) := by
  have hmax : 10000000 ≤ maxLen := by unfold maxLen; omega
  have hlf := freshV_len g
  have he1 := he.mono (Nat.le_succ m)
  have hlen1 := he.len
  have hein := inV_len g he
  have hlen2 := hein.len
  have r0 := hE.run 7 env (nxt (nxt (incK g) 5) 4) (ok_nxt (ok_nxt (g := incK g) hg 5) 4) he1
  have k0 := hE.ok 7 env (nxt (nxt (incK g) 5) 4) (ok_nxt (ok_nxt (g := incK g) hg 5) 4) he1
  have l0 := hE.len 7 env (nxt (nxt (incK g) 5) 4) (ok_nxt (ok_nxt (g := incK g) hg 5) 4) he1
  have r1 := hE.run sort (inV env g) (E 7 env (nxt (nxt (incK g) 5) 4)).2 k0 hein
  have k1 := hE.ok sort (inV env g) (E 7 env (nxt (nxt (incK g) 5) 4)).2 k0 hein
  have l1 := hE.len sort (inV env g) (E 7 env (nxt (nxt (incK g) 5) 4)).2 k0 hein
  have r2 := hE.run sort env (E sort (inV env g) (E 7 env (nxt (nxt (incK g) 5) 4)).2).2 k1 he1
  have k2 := hE.ok sort env (E sort (inV env g) (E 7 env (nxt (nxt (incK g) 5) 4)).2).2 k1 he1
  have l2 := hE.len sort env (E sort (inV env g) (E 7 env (nxt (nxt (incK g) 5) 4)).2).2 k1 he1
  refine PCB.of_body Tryd.func79 rfl (by decide) Tryd.ntmps79 Tryd.results79 rfl rfl rfl ?_ rfl rfl
  repeat' (first | (refine atR 16 (Gh.freeze 158 (by rfl) (by rfl) (by simp only [go_sem, zA, zB, zC, zD, zE, zF, zG, reduceCtorEq, zH, zI, zJ, zK, zL, Bx.puts, hD, nam_snoc, List.length_map, h0, h1, List.length_map]) (by simp only [go_sem, zA, zB, zC, zD, zE, zF, zG, reduceCtorEq, zH, zI, zJ, zK, zL, Bx.puts, hD, nam_snoc, List.length_map, h0, h1, List.length_map])) ?_; simp only [frE, frB, Bx.drop, go_sem, zA, zB, zC, zD, zE, zF, zG, reduceCtorEq, zH, zI, zJ, zK, zL, Bx.puts, hD, nam_snoc, List.length_map, h0, h1]) | (simp only [go_sem, zA, zB, zC, zD, zE, zF, zG, reduceCtorEq, zH, zI, zJ, zK, zL, Bx.puts, hD, nam_snoc, List.length_map, h0, h1]; all_goals fail_if_success guard_target =ₛ False) | (with_reducible first | ((first | refine seqVC_stepN rfl ?_ | refine AWP.seq ?_ | refine AWP.seqR (by kernel_rfl) ?_); intro K hK) | ((first | refine hK _ _ _ ?_ | refine hK _ _ ?_ | refine hK _ ?_); clear hK K) | refine seqVC_nil ?_ | refine AWP.block ?_ | (refine AWP.cond (by with_unfolding_all rfl) ?_ ?_ <;> intro h <;> (try simp only [zM, zN] at h) <;> try exact absurd h (by decide)) | refine AWP.skip ?_ | refine AWP.ret ?_ | refine AWP.exit ?_ | (refine ⟨(by first | omega | (simp only [List.length_append, List.length_map, List.length_take, List.length_drop, List.length_cons, List.length_nil, List.length_replicate]; omega) : _ ≤ _), ?_⟩) | refine ⟨by omega, by omega, ?_⟩) | ( refine Or.inr ⟨_, _, _, fresh_c c g, ⟨rfl, rfl, trivial⟩, rfl, rfl, ?_⟩) | (refine ⟨1000001, _, _, _, draw_k 1000001 (incK g).s hg 5 (by omega), rfl, ?_⟩) | (refine ⟨1000001, _, _, _, draw_k 1000001 (nxt (incK g) 5).s (ok_nxt hg 5) 4 (by omega), rfl, ?_⟩) | ( refine Or.inr ⟨_, _, _, r0, ⟨rfl, rfl, trivial⟩, rfl, rfl, ?_⟩) | ( refine Or.inr ⟨_, _, _, r1, ⟨rfl, rfl, trivial⟩, rfl, rfl, ?_⟩) | ( refine Or.inr ⟨_, _, _, r2, ⟨rfl, rfl, trivial⟩, rfl, rfl, ?_⟩) | (with_reducible first | refine Or.inl ?_) | (clear hK K))
  all_goals (refine ⟨?_, fun x hx => hx⟩; first | rfl | (simp only [case3V, List.append_assoc, List.cons_append, List.nil_append]))
def proc0V (E : Mk) (sort : Int) (env : List NamD) (g : Gn) : List UInt8 × Gn :=
  let a0 := E sort env (nxt (incK g) 3)
  let a1 := E sort env a0.2
  ([108, 101, 116, 32, 95, 32, 61, 32, 115, 101, 110, 100, 40, 115, 101, 108, 102, 40, 41, 44, 32] ++ a0.1 ++ [41, 32, 105, 110, 32] ++ a1.1, a1.2)
theorem proc0_c (c : Cst) (D D1 : Int) (m L : Nat) (E : Mk) (hD : IntKind.i64.wrap (D - 1) = D1) (hE : Good c D1 (m + 1) L E) (hL : L ≤ 1000000) (g : Gn) (hg : g.s.ok) (sort : Int) (env : List NamD) (he : EOk m env) (hm : m ≤ 1000) (h0 : drawV (incK g).s 3 = 0) : PCB Tryd.prog 80 [Sp 1000000, I .i64 sort, I .i64 D, Envt env] (gB c g) (S (proc0V E sort env g).1) (gB c (proc0V E sort env g).2) := by
  have hmax : 10000000 ≤ maxLen := by unfold maxLen; omega
  have hlf := freshV_len g
  have he1 := he.mono (Nat.le_succ m)
  have hlen1 := he.len
  have hein := inV_len g he
  have hlen2 := hein.len
  have r0 := hE.run sort env (nxt (incK g) 3) (ok_nxt (g := incK g) hg 3) he1
  have k0 := hE.ok sort env (nxt (incK g) 3) (ok_nxt (g := incK g) hg 3) he1
  have l0 := hE.len sort env (nxt (incK g) 3) (ok_nxt (g := incK g) hg 3) he1
  have r1 := hE.run sort env (E sort env (nxt (incK g) 3)).2 k0 he1
  have k1 := hE.ok sort env (E sort env (nxt (incK g) 3)).2 k0 he1
  have l1 := hE.len sort env (E sort env (nxt (incK g) 3)).2 k0 he1
  refine PCB.of_body Tryd.func80 rfl (by decide) Tryd.ntmps80 Tryd.results80 rfl rfl rfl ?_ rfl rfl
  repeat' (first | (simp only [go_sem, zA, zB, zC, zD, zE, zF, zG, reduceCtorEq, zH, zI, zJ, zK, zL, Bx.puts, hD, nam_snoc, List.length_map, h0]; all_goals fail_if_success guard_target =ₛ False) | (with_reducible first | ((first | refine seqVC_stepN rfl ?_ | refine AWP.seq ?_ | refine AWP.seqR (by kernel_rfl) ?_); intro K hK) | ((first | refine hK _ _ _ ?_ | refine hK _ _ ?_ | refine hK _ ?_); clear hK K) | refine seqVC_nil ?_ | refine AWP.block ?_ | (refine AWP.cond (by with_unfolding_all rfl) ?_ ?_ <;> intro h <;> (try simp only [zM, zN] at h) <;> try exact absurd h (by decide)) | refine AWP.skip ?_ | refine AWP.ret ?_ | refine AWP.exit ?_ | (refine ⟨(by first | omega | (simp only [List.length_append, List.length_map, List.length_take, List.length_drop, List.length_cons, List.length_nil, List.length_replicate]; omega) : _ ≤ _), ?_⟩) | refine ⟨by omega, by omega, ?_⟩) | ( refine Or.inr ⟨_, _, _, fresh_c c g, ⟨rfl, rfl, trivial⟩, rfl, rfl, ?_⟩) | (refine ⟨1000001, _, _, _, draw_k 1000001 (incK g).s hg 3 (by omega), rfl, ?_⟩) | ( refine Or.inr ⟨_, _, _, r0, ⟨rfl, rfl, trivial⟩, rfl, rfl, ?_⟩) | ( refine Or.inr ⟨_, _, _, r1, ⟨rfl, rfl, trivial⟩, rfl, rfl, ?_⟩) | (with_reducible first | refine Or.inl ?_) | (clear hK K))
  all_goals (refine ⟨?_, fun x hx => hx⟩; first | rfl | (simp only [proc0V, List.append_assoc, List.cons_append, List.nil_append]))
def proc1V (E : Mk) (sort : Int) (env : List NamD) (g : Gn) : List UInt8 × Gn :=
  let a0 := E sort env (nxt (incK g) 3)
  let a1 := E 7 env a0.2
  let a2 := E sort env a1.2
  ([108, 101, 116, 32] ++ freshV g ++ [32, 61, 32, 115, 112, 97, 119, 110, 40, 102, 117, 110, 32, 40, 41, 32, 45, 62, 32] ++ a0.1 ++ [32, 101, 110, 100, 41, 32, 105, 110, 32, 108, 101, 116, 32, 95, 32, 61, 32, 115, 101, 110, 100, 40] ++ freshV g ++ [44, 32] ++ a1.1 ++ [41, 32, 105, 110, 32] ++ a2.1, a2.2)
theorem proc1_c (c : Cst) (D D1 : Int) (m L : Nat) (E : Mk) (hD : IntKind.i64.wrap (D - 1) = D1) (hE : Good c D1 (m + 1) L E) (hL : L ≤ 1000000) (g : Gn) (hg : g.s.ok) (sort : Int) (env : List NamD) (he : EOk m env) (hm : m ≤ 1000) (h0 : drawV (incK g).s 3 = 1) : PCB Tryd.prog 80 [Sp 1000000, I .i64 sort, I .i64 D, Envt env] (gB c g) (S (proc1V E sort env g).1) (gB c (proc1V E sort env g).2) := by
  have hmax : 10000000 ≤ maxLen := by unfold maxLen; omega
  have hlf := freshV_len g
  have he1 := he.mono (Nat.le_succ m)
  have hlen1 := he.len
  have hein := inV_len g he
  have hlen2 := hein.len
  have r0 := hE.run sort env (nxt (incK g) 3) (ok_nxt (g := incK g) hg 3) he1
  have k0 := hE.ok sort env (nxt (incK g) 3) (ok_nxt (g := incK g) hg 3) he1
  have l0 := hE.len sort env (nxt (incK g) 3) (ok_nxt (g := incK g) hg 3) he1
  have r1 := hE.run 7 env (E sort env (nxt (incK g) 3)).2 k0 he1
  have k1 := hE.ok 7 env (E sort env (nxt (incK g) 3)).2 k0 he1
  have l1 := hE.len 7 env (E sort env (nxt (incK g) 3)).2 k0 he1
  have r2 := hE.run sort env (E 7 env (E sort env (nxt (incK g) 3)).2).2 k1 he1
  have k2 := hE.ok sort env (E 7 env (E sort env (nxt (incK g) 3)).2).2 k1 he1
  have l2 := hE.len sort env (E 7 env (E sort env (nxt (incK g) 3)).2).2 k1 he1
  refine PCB.of_body Tryd.func80 rfl (by decide) Tryd.ntmps80 Tryd.results80 rfl rfl rfl ?_ rfl rfl
  repeat' (first | (simp only [go_sem, zA, zB, zC, zD, zE, zF, zG, reduceCtorEq, zH, zI, zJ, zK, zL, Bx.puts, hD, nam_snoc, List.length_map, h0]; all_goals fail_if_success guard_target =ₛ False) | (with_reducible first | ((first | refine seqVC_stepN rfl ?_ | refine AWP.seq ?_ | refine AWP.seqR (by kernel_rfl) ?_); intro K hK) | ((first | refine hK _ _ _ ?_ | refine hK _ _ ?_ | refine hK _ ?_); clear hK K) | refine seqVC_nil ?_ | refine AWP.block ?_ | (refine AWP.cond (by with_unfolding_all rfl) ?_ ?_ <;> intro h <;> (try simp only [zM, zN] at h) <;> try exact absurd h (by decide)) | refine AWP.skip ?_ | refine AWP.ret ?_ | refine AWP.exit ?_ | (refine ⟨(by first | omega | (simp only [List.length_append, List.length_map, List.length_take, List.length_drop, List.length_cons, List.length_nil, List.length_replicate]; omega) : _ ≤ _), ?_⟩) | refine ⟨by omega, by omega, ?_⟩) | ( refine Or.inr ⟨_, _, _, fresh_c c g, ⟨rfl, rfl, trivial⟩, rfl, rfl, ?_⟩) | (refine ⟨1000001, _, _, _, draw_k 1000001 (incK g).s hg 3 (by omega), rfl, ?_⟩) | ( refine Or.inr ⟨_, _, _, r0, ⟨rfl, rfl, trivial⟩, rfl, rfl, ?_⟩) | ( refine Or.inr ⟨_, _, _, r1, ⟨rfl, rfl, trivial⟩, rfl, rfl, ?_⟩) | ( refine Or.inr ⟨_, _, _, r2, ⟨rfl, rfl, trivial⟩, rfl, rfl, ?_⟩) | (with_reducible first | refine Or.inl ?_) | (clear hK K))
  all_goals (refine ⟨?_, fun x hx => hx⟩; first | rfl | (simp only [proc1V, List.append_assoc, List.cons_append, List.nil_append]))
def proc2V (E : Mk) (sort : Int) (env : List NamD) (g : Gn) : List UInt8 × Gn :=
  let a0 := E sort env (nxt (incK g) 3)
  let a1 := E sort env a0.2
  ([114, 101, 99, 101, 105, 118, 101, 32, 95, 32, 45, 62, 32] ++ a0.1 ++ [32, 97, 102, 116, 101, 114, 32] ++ a1.1 ++ [32, 101, 110, 100], a1.2)
theorem proc2_c (c : Cst) (D D1 : Int) (m L : Nat) (E : Mk) (hD : IntKind.i64.wrap (D - 1) = D1) (hE : Good c D1 (m + 1) L E) (hL : L ≤ 1000000) (g : Gn) (hg : g.s.ok) (sort : Int) (env : List NamD) (he : EOk m env) (hm : m ≤ 1000) (h0 : drawV (incK g).s 3 = 2) (hs : decide (sort = 0) = false) : PCB Tryd.prog 80 [Sp 1000000, I .i64 sort, I .i64 D, Envt env] (gB c g) (S (proc2V E sort env g).1) (gB c (proc2V E sort env g).2) := by
  have hmax : 10000000 ≤ maxLen := by unfold maxLen; omega
  have hlf := freshV_len g
  have he1 := he.mono (Nat.le_succ m)
  have hlen1 := he.len
  have hein := inV_len g he
  have hlen2 := hein.len
  have r0 := hE.run sort env (nxt (incK g) 3) (ok_nxt (g := incK g) hg 3) he1
  have k0 := hE.ok sort env (nxt (incK g) 3) (ok_nxt (g := incK g) hg 3) he1
  have l0 := hE.len sort env (nxt (incK g) 3) (ok_nxt (g := incK g) hg 3) he1
  have r1 := hE.run sort env (E sort env (nxt (incK g) 3)).2 k0 he1
  have k1 := hE.ok sort env (E sort env (nxt (incK g) 3)).2 k0 he1
  have l1 := hE.len sort env (E sort env (nxt (incK g) 3)).2 k0 he1
  refine PCB.of_body Tryd.func80 rfl (by decide) Tryd.ntmps80 Tryd.results80 rfl rfl rfl ?_ rfl rfl
  repeat' (first | (simp only [go_sem, zA, zB, zC, zD, zE, zF, zG, reduceCtorEq, zH, zI, zJ, zK, zL, Bx.puts, hD, nam_snoc, List.length_map, h0, hs]; all_goals fail_if_success guard_target =ₛ False) | (with_reducible first | ((first | refine seqVC_stepN rfl ?_ | refine AWP.seq ?_ | refine AWP.seqR (by kernel_rfl) ?_); intro K hK) | ((first | refine hK _ _ _ ?_ | refine hK _ _ ?_ | refine hK _ ?_); clear hK K) | refine seqVC_nil ?_ | refine AWP.block ?_ | (refine AWP.cond (by with_unfolding_all rfl) ?_ ?_ <;> intro h <;> (try simp only [zM, zN] at h) <;> try exact absurd h (by decide)) | refine AWP.skip ?_ | refine AWP.ret ?_ | refine AWP.exit ?_ | (refine ⟨(by first | omega | (simp only [List.length_append, List.length_map, List.length_take, List.length_drop, List.length_cons, List.length_nil, List.length_replicate]; omega) : _ ≤ _), ?_⟩) | refine ⟨by omega, by omega, ?_⟩) | ( refine Or.inr ⟨_, _, _, fresh_c c g, ⟨rfl, rfl, trivial⟩, rfl, rfl, ?_⟩) | (refine ⟨1000001, _, _, _, draw_k 1000001 (incK g).s hg 3 (by omega), rfl, ?_⟩) | ( refine Or.inr ⟨_, _, _, r0, ⟨rfl, rfl, trivial⟩, rfl, rfl, ?_⟩) | ( refine Or.inr ⟨_, _, _, r1, ⟨rfl, rfl, trivial⟩, rfl, rfl, ?_⟩) | (with_reducible first | refine Or.inl ?_) | (clear hK K))
  all_goals (refine ⟨?_, fun x hx => hx⟩; first | rfl | (simp only [proc2V, List.append_assoc, List.cons_append, List.nil_append]))
def proc3V (E : Mk) (sort : Int) (env : List NamD) (g : Gn) : List UInt8 × Gn :=
  let a0 := E 0 (inV env g) (nxt (incK g) 3)
  let a1 := E 0 env a0.2
  ([114, 101, 99, 101, 105, 118, 101, 32] ++ freshV g ++ [32, 119, 104, 101, 110, 32, 105, 115, 95, 105, 110, 116, 40] ++ freshV g ++ [41, 32, 45, 62, 32] ++ a0.1 ++ [32, 97, 102, 116, 101, 114, 32] ++ a1.1 ++ [32, 101, 110, 100], a1.2)
theorem proc3_c (c : Cst) (D D1 : Int) (m L : Nat) (E : Mk) (hD : IntKind.i64.wrap (D - 1) = D1) (hE : Good c D1 (m + 1) L E) (hL : L ≤ 1000000) (g : Gn) (hg : g.s.ok) (sort : Int) (env : List NamD) (he : EOk m env) (hm : m ≤ 1000) (h0 : drawV (incK g).s 3 = 2) (hs : sort = 0) : PCB Tryd.prog 80 [Sp 1000000, I .i64 sort, I .i64 D, Envt env] (gB c g) (S (proc3V E sort env g).1) (gB c (proc3V E sort env g).2) := by
  subst hs
  have hmax : 10000000 ≤ maxLen := by unfold maxLen; omega
  have hlf := freshV_len g
  have he1 := he.mono (Nat.le_succ m)
  have hlen1 := he.len
  have hein := inV_len g he
  have hlen2 := hein.len
  have r0 := hE.run 0 (inV env g) (nxt (incK g) 3) (ok_nxt (g := incK g) hg 3) hein
  have k0 := hE.ok 0 (inV env g) (nxt (incK g) 3) (ok_nxt (g := incK g) hg 3) hein
  have l0 := hE.len 0 (inV env g) (nxt (incK g) 3) (ok_nxt (g := incK g) hg 3) hein
  have r1 := hE.run 0 env (E 0 (inV env g) (nxt (incK g) 3)).2 k0 he1
  have k1 := hE.ok 0 env (E 0 (inV env g) (nxt (incK g) 3)).2 k0 he1
  have l1 := hE.len 0 env (E 0 (inV env g) (nxt (incK g) 3)).2 k0 he1
  refine PCB.of_body Tryd.func80 rfl (by decide) Tryd.ntmps80 Tryd.results80 rfl rfl rfl ?_ rfl rfl
  repeat' (first | (refine atR 10 (Gh.freeze 88 (by rfl) (by rfl) (by simp only [go_sem, zA, zB, zC, zD, zE, zF, zG, reduceCtorEq, zH, zI, zJ, zK, zL, Bx.puts, hD, nam_snoc, List.length_map, h0, List.length_map]) (by simp only [go_sem, zA, zB, zC, zD, zE, zF, zG, reduceCtorEq, zH, zI, zJ, zK, zL, Bx.puts, hD, nam_snoc, List.length_map, h0, List.length_map])) ?_; simp only [frE, frB, Bx.drop, go_sem, zA, zB, zC, zD, zE, zF, zG, reduceCtorEq, zH, zI, zJ, zK, zL, Bx.puts, hD, nam_snoc, List.length_map, h0]) | (simp only [go_sem, zA, zB, zC, zD, zE, zF, zG, reduceCtorEq, zH, zI, zJ, zK, zL, Bx.puts, hD, nam_snoc, List.length_map, h0]; all_goals fail_if_success guard_target =ₛ False) | (with_reducible first | ((first | refine seqVC_stepN rfl ?_ | refine AWP.seq ?_ | refine AWP.seqR (by kernel_rfl) ?_); intro K hK) | ((first | refine hK _ _ _ ?_ | refine hK _ _ ?_ | refine hK _ ?_); clear hK K) | refine seqVC_nil ?_ | refine AWP.block ?_ | (refine AWP.cond (by with_unfolding_all rfl) ?_ ?_ <;> intro h <;> (try simp only [zM, zN] at h) <;> try exact absurd h (by decide)) | refine AWP.skip ?_ | refine AWP.ret ?_ | refine AWP.exit ?_ | (refine ⟨(by first | omega | (simp only [List.length_append, List.length_map, List.length_take, List.length_drop, List.length_cons, List.length_nil, List.length_replicate]; omega) : _ ≤ _), ?_⟩) | refine ⟨by omega, by omega, ?_⟩) | ( refine Or.inr ⟨_, _, _, fresh_c c g, ⟨rfl, rfl, trivial⟩, rfl, rfl, ?_⟩) | (refine ⟨1000001, _, _, _, draw_k 1000001 (incK g).s hg 3 (by omega), rfl, ?_⟩) | ( refine Or.inr ⟨_, _, _, r0, ⟨rfl, rfl, trivial⟩, rfl, rfl, ?_⟩) | ( refine Or.inr ⟨_, _, _, r1, ⟨rfl, rfl, trivial⟩, rfl, rfl, ?_⟩) | (with_reducible first | refine Or.inl ?_) | (clear hK K))
  all_goals (refine ⟨?_, fun x hx => hx⟩; first | rfl | (simp only [proc3V, List.append_assoc, List.cons_append, List.nil_append]))
def specialV (E : Mk) (sort : Int) (env : List NamD) (g : Gn) : List UInt8 × Gn :=
  bif decide (sort = 0) then
    bif decide (drawV g.s 4 = 0) then addV E env g else bif decide (drawV g.s 4 = 1) then getV E env g else bif decide (drawV g.s 4 = 2) then applyV E env g else assertV E env g
  else bif decide (sort = 1) then
    bif decide (drawV g.s 3 = 0) then lessV E env g else bif decide (drawV g.s 3 = 1) then eqlV E env g else notV E env g
  else bif decide (sort = 3) then consV E env g
  else bif decide (sort = 4) then pairV E env g
  else bif decide (sort = 5) then funV E env g
  else bif decide (sort = 6) then putV E env g
  else bif decide (sort = 7) then thingV E env g
  else leafV sort env g
theorem special_leaf (c : Cst) (D : Int) (g : Gn) (hg : g.s.ok) (sort : Int) (env : List NamD) (he : env.length ≤ 1000) (h0 : decide (sort = 0) = false) (h1 : decide (sort = 1) = false) (h3 : decide (sort = 3) = false) (h4 : decide (sort = 4) = false) (h5 : decide (sort = 5) = false) (h6 : decide (sort = 6) = false) (h7 : decide (sort = 7) = false) : PCB Tryd.prog 81 [Sp 1000000, I .i64 sort, I .i64 D, Envt env] (gB c g) (S (leafV sort env g).1) (gB c (leafV sort env g).2) := by
  have r0 := leaf_c c g hg sort env he
  refine PCB.of_body Tryd.func81 rfl (by decide) Tryd.ntmps81 Tryd.results81 rfl rfl rfl ?_ rfl rfl
  repeat' (first | (simp only [go_sem, zA, zB, zC, zD, zE, zF, zG, reduceCtorEq, zH, zI, zJ, zK, zL, Bx.puts, h0, h1, h3, h4, h5, h6, h7]; all_goals fail_if_success guard_target =ₛ False) | (with_reducible first | ((first | refine seqVC_stepN rfl ?_ | refine AWP.seq ?_ | refine AWP.seqR (by kernel_rfl) ?_ | refine parVC_stepN rfl ?_ | refine parEVC_stepN rfl ?_ | refine genVC_stepN rfl ?_); intro K hK) | ((first | refine hK _ _ _ ?_ | refine hK _ _ ?_ | refine hK _ ?_); clear hK K) | refine seqVC_nil ?_ | refine parVC_nil ?_ | refine parEVC_nil ?_ | refine genVC_nil ?_ | refine AWP.block ?_ | (refine AWP.cond (by with_unfolding_all rfl) ?_ ?_ <;> intro h <;> (try simp only [zM, zN] at h) <;> try exact absurd h (by decide)) | refine AWP.skip ?_ | refine AWP.ret ?_ | refine AWP.exit ?_) | ( refine Or.inr ⟨_, _, _, r0, ⟨rfl, rfl, trivial⟩, rfl, rfl, ?_⟩) | (with_reducible first | refine AWP.parR mixed (by kernel_rfl) fun K hK => ?_ | refine ⟨(by kernel_rfl : depB _ _ _ = true), ?_⟩ | refine Or.inl ?_) | (clear hK K))
  all_goals first | exact fun x hx => hx | exact ⟨rfl, fun x hx => hx⟩
theorem special_c (c : Cst) (D D1 : Int) (m L : Nat) (E : Mk) (hD : IntKind.i64.wrap (D - 1) = D1) (hE : Good c D1 (m + 1) L E) (hL : L ≤ 1000000) (g : Gn) (hg : g.s.ok) (sort : Int) (env : List NamD) (he : EOk m env) (hm : m ≤ 900) : PCB Tryd.prog 81 [Sp 1000000, I .i64 sort, I .i64 D, Envt env] (gB c g) (S (specialV E sort env g).1) (gB c (specialV E sort env g).2) := by
  have hv4 := drawV_in g.s (n := 4) (by omega)
  have hv3 := drawV_in g.s (n := 3) (by omega)
  have he1 := he.mono (Nat.le_succ m)
  have hm1 : m + 1 ≤ 1000 := by omega
  unfold specialV
  cases h0 : decide (sort = 0) with
  | true =>
    obtain rfl : sort = 0 := by simpa using h0
    cases a0 : decide (drawV g.s 4 = 0) with
    | true => exact add_c c D D1 (m + 1) L E hD hE hL g hg env he1 hm1 (by simpa using a0)
    | false =>
      cases a1 : decide (drawV g.s 4 = 1) with
      | true => exact get_c c D D1 (m + 1) L E hD hE hL g hg env he1 hm1 (by simpa using a1)
      | false =>
        cases a2 : decide (drawV g.s 4 = 2) with
        | true => exact apply_c c D D1 (m + 1) L E hD hE hL g hg env he1 hm1 (by simpa using a2)
        | false =>
          simp only [decide_eq_false_iff_not] at a0 a1 a2
          exact assert_c c D D1 (m + 1) L E hD hE hL g hg env he1 hm1 (by omega)
  | false =>
    cases h1 : decide (sort = 1) with
    | true =>
      obtain rfl : sort = 1 := by simpa using h1
      cases a0 : decide (drawV g.s 3 = 0) with
      | true => exact less_c c D D1 (m + 1) L E hD hE hL g hg env he1 hm1 (by simpa using a0)
      | false =>
        cases a1 : decide (drawV g.s 3 = 1) with
        | true => exact eql_c c D D1 (m + 1) L E hD hE hL g hg env he1 hm1 (by simpa using a1)
        | false =>
          simp only [decide_eq_false_iff_not] at a0 a1
          exact not_c c D D1 (m + 1) L E hD hE hL g hg env he1 hm1 (by omega)
    | false =>
      cases h3 : decide (sort = 3) with
      | true =>
        obtain rfl : sort = 3 := by simpa using h3
        exact cons_c c D D1 (m + 1) L E hD hE hL g hg env he1 hm1
      | false =>
        cases h4 : decide (sort = 4) with
        | true =>
          obtain rfl : sort = 4 := by simpa using h4
          exact pair_c c D D1 (m + 1) L E hD hE hL g hg env he1 hm1
        | false =>
          cases h5 : decide (sort = 5) with
          | true =>
            obtain rfl : sort = 5 := by simpa using h5
            exact fun_c c D D1 m L E hD hE hL g hg env he (by omega)
          | false =>
            cases h6 : decide (sort = 6) with
            | true =>
              obtain rfl : sort = 6 := by simpa using h6
              exact put_c c D D1 (m + 1) L E hD hE hL g hg env he1 hm1
            | false =>
              cases h7 : decide (sort = 7) with
              | true =>
                obtain rfl : sort = 7 := by simpa using h7
                exact thing_c c D D1 (m + 1) L E hD hE hL g hg env he1 hm1
              | false => exact special_leaf c D g hg sort env (by have := he.len; omega) h0 h1 h3 h4 h5 h6 h7
/-- a text and the maker behind it are as they should be -/
def Fine (L : Nat) (r : List UInt8 × Gn) : Prop := r.2.s.ok ∧ r.1.length ≤ L
theorem bif_fine {K : Nat} (b : Bool) {x y : List UInt8 × Gn} (hx : Fine K x) (hy : Fine K y) : Fine K (bif b then x else y) := by cases b <;> assumption
theorem leafV_fine (sort : Int) (env : List NamD) (g : Gn) (hg : g.s.ok) (K : Nat) (hK : 200 ≤ K) (hen : ∀ x ∈ env, x.text.length ≤ K) : Fine K (leafV sort env g) := by
  have hS : ∀ g : Gn, g.s.ok → Fine K (leafS sort g) := by
    intro g hg
    have hv2 := lit_len boolL (by decide) (drawV_in g.s (n := 2) (by omega))
    have hv3 := lit_len listL (by decide) (drawV_in g.s (n := 3) (by omega))
    have hv6 := lit_len thingL (by decide) (drawV_in g.s (n := 6) (by omega))
    have h1 := atomV_len g.s
    have h2 := smallV_len g
    have h3 := smallV_len (nxt g 4)
    have h4 := smallV_len (incK g)
    have h5 := freshV_len g
    unfold leafS
    repeat' refine bif_fine _ ?_ ?_
    all_goals (refine ⟨?_, ?_⟩)
    all_goals (first | exact ok_nxt hg _ | exact ok_nxt (ok_nxt hg _) _ | exact ok_nxt (g := incK g) hg _ | (simp only [List.length_append, List.length_cons, List.length_nil]; omega) | (simp only; omega))
  unfold leafV
  cases h0 : decide (0 < ((ofV env sort).length : Int)) with
  | false => exact hS g hg
  | true =>
    cases decide (0 < drawV g.s 4) with
    | false => exact hS _ (ok_nxt hg _)
    | true =>
      have hl : 0 < ((ofV env sort).length : Int) := by simpa using h0
      have hv := drawV_in (nxt g 4).s (n := ((ofV env sort).length : Int)) (by omega)
      refine ⟨ok_nxt (ok_nxt hg _) _, ?_⟩
      simp only [cond_true]
      rw [List.getD_eq_getElem?_getD, List.getElem?_eq_getElem (show (drawV (nxt g 4).s ((ofV env sort).length : Int)).toNat < (ofV env sort).length by omega)]
      have := List.getElem_mem (l := ofV env sort) (show (drawV (nxt g 4).s ((ofV env sort).length : Int)).toNat < (ofV env sort).length by omega)
      obtain ⟨y, hy, e⟩ := List.mem_map.1 this
      rw [Option.getD_some, ← e]
      exact hen y (List.mem_filter.1 hy).1
def branchV (E : Mk) (sort : Int) (env : List NamD) (g : Gn) : List UInt8 × Gn :=
  bif decide (drawV (incK g).s 5 = 0) then tryV E sort env g
  else bif decide (drawV (nxt (incK g) 5).s 4 = 0) then case0V E sort env g
  else bif decide (drawV (nxt (incK g) 5).s 4 = 1) then case1V E sort env g
  else bif decide (drawV (nxt (incK g) 5).s 4 = 2) then case2V E sort env g else case3V E sort env g
theorem branch_c (c : Cst) (D D1 : Int) (m L : Nat) (E : Mk) (hD : IntKind.i64.wrap (D - 1) = D1) (hE : Good c D1 (m + 1) L E) (hL : L ≤ 1000000) (g : Gn) (hg : g.s.ok) (sort : Int) (env : List NamD) (he : EOk m env) (hm : m ≤ 900) : PCB Tryd.prog 79 [Sp 1000000, I .i64 sort, I .i64 D, Envt env] (gB c g) (S (branchV E sort env g).1) (gB c (branchV E sort env g).2) := by
  have hv4 := drawV_in (nxt (incK g) 5).s (n := 4) (by omega)
  have hm1 : m ≤ 1000 := by omega
  unfold branchV
  cases a : decide (drawV (incK g).s 5 = 0) with
  | true => exact try_c c D D1 m L E hD hE hL g hg sort env he hm1 (by simpa using a)
  | false =>
    cases a0 : decide (drawV (nxt (incK g) 5).s 4 = 0) with
    | true => exact case0_c c D D1 m L E hD hE hL g hg sort env he hm1 a (by simpa using a0)
    | false =>
      cases a1 : decide (drawV (nxt (incK g) 5).s 4 = 1) with
      | true => exact case1_c c D D1 m L E hD hE hL g hg sort env he hm1 a (by simpa using a1)
      | false =>
        cases a2 : decide (drawV (nxt (incK g) 5).s 4 = 2) with
        | true => exact case2_c c D D1 m L E hD hE hL g hg sort env he hm1 a (by simpa using a2)
        | false =>
          simp only [decide_eq_false_iff_not] at a0 a1 a2
          exact case3_c c D D1 m L E hD hE hL g hg sort env he hm1 a (by omega)
def processV (E : Mk) (sort : Int) (env : List NamD) (g : Gn) : List UInt8 × Gn :=
  bif decide (drawV (incK g).s 3 = 0) then proc0V E sort env g
  else bif decide (drawV (incK g).s 3 = 1) then proc1V E sort env g
  else bif decide (sort = 0) then proc3V E sort env g else proc2V E sort env g
theorem process_c (c : Cst) (D D1 : Int) (m L : Nat) (E : Mk) (hD : IntKind.i64.wrap (D - 1) = D1) (hE : Good c D1 (m + 1) L E) (hL : L ≤ 1000000) (g : Gn) (hg : g.s.ok) (sort : Int) (env : List NamD) (he : EOk m env) (hm : m ≤ 900) : PCB Tryd.prog 80 [Sp 1000000, I .i64 sort, I .i64 D, Envt env] (gB c g) (S (processV E sort env g).1) (gB c (processV E sort env g).2) := by
  have hv3 := drawV_in (incK g).s (n := 3) (by omega)
  have hm1 : m ≤ 1000 := by omega
  unfold processV
  cases a0 : decide (drawV (incK g).s 3 = 0) with
  | true => exact proc0_c c D D1 m L E hD hE hL g hg sort env he hm1 (by simpa using a0)
  | false =>
    cases a1 : decide (drawV (incK g).s 3 = 1) with
    | true => exact proc1_c c D D1 m L E hD hE hL g hg sort env he hm1 (by simpa using a1)
    | false =>
      simp only [decide_eq_false_iff_not] at a0 a1
      cases a2 : decide (sort = 0) with
      | true => exact proc3_c c D D1 m L E hD hE hL g hg sort env he hm1 (by omega) (by simpa using a2)
      | false => exact proc2_c c D D1 m L E hD hE hL g hg sort env he hm1 (by omega) a2
theorem addV_fine {c : Cst} {D : Int} {m L : Nat} {E : Mk} (hE : Good c D m L E) (g : Gn) (hg : g.s.ok) (env : List NamD) (he : EOk m env) : Fine (3 * L + 1000) (addV E env g) := by
  have k0 := hE.ok 0 env (nxt g 4) (ok_nxt hg 4) he
  have l0 := hE.len 0 env (nxt g 4) (ok_nxt hg 4) he
  have hvl := lit_len opL (by decide) (drawV_in (E 0 env (nxt g 4)).2.s (n := 5) (by omega))
  have k1 := hE.ok 0 env (nxt (E 0 env (nxt g 4)).2 5) (ok_nxt k0 5) he
  have l1 := hE.len 0 env (nxt (E 0 env (nxt g 4)).2 5) (ok_nxt k0 5) he
  exact ⟨k1, by simp only [addV, List.length_append, List.length_cons, List.length_nil]; omega⟩
theorem getV_fine {c : Cst} {D : Int} {m L : Nat} {E : Mk} (hE : Good c D m L E) (g : Gn) (hg : g.s.ok) (env : List NamD) (he : EOk m env) : Fine (3 * L + 1000) (getV E env g) := by
  have k0 := hE.ok 6 env (nxt g 4) (ok_nxt hg 4) he
  have l0 := hE.len 6 env (nxt g 4) (ok_nxt hg 4) he
  exact ⟨k0, by simp only [getV, List.length_append, List.length_cons, List.length_nil]; omega⟩
theorem applyV_fine {c : Cst} {D : Int} {m L : Nat} {E : Mk} (hE : Good c D m L E) (g : Gn) (hg : g.s.ok) (env : List NamD) (he : EOk m env) : Fine (3 * L + 1000) (applyV E env g) := by
  have k0 := hE.ok 5 env (nxt g 4) (ok_nxt hg 4) he
  have l0 := hE.len 5 env (nxt g 4) (ok_nxt hg 4) he
  have k1 := hE.ok 0 env (E 5 env (nxt g 4)).2 k0 he
  have l1 := hE.len 0 env (E 5 env (nxt g 4)).2 k0 he
  exact ⟨k1, by simp only [applyV, List.length_append, List.length_cons, List.length_nil]; omega⟩
theorem assertV_fine {c : Cst} {D : Int} {m L : Nat} {E : Mk} (hE : Good c D m L E) (g : Gn) (hg : g.s.ok) (env : List NamD) (he : EOk m env) : Fine (3 * L + 1000) (assertV E env g) := by
  have k0 := hE.ok 0 env (nxt g 4) (ok_nxt hg 4) he
  have l0 := hE.len 0 env (nxt g 4) (ok_nxt hg 4) he
  exact ⟨k0, by simp only [assertV, List.length_append, List.length_cons, List.length_nil]; omega⟩
theorem lessV_fine {c : Cst} {D : Int} {m L : Nat} {E : Mk} (hE : Good c D m L E) (g : Gn) (hg : g.s.ok) (env : List NamD) (he : EOk m env) : Fine (3 * L + 1000) (lessV E env g) := by
  have k0 := hE.ok 0 env (nxt g 3) (ok_nxt hg 3) he
  have l0 := hE.len 0 env (nxt g 3) (ok_nxt hg 3) he
  have k1 := hE.ok 0 env (E 0 env (nxt g 3)).2 k0 he
  have l1 := hE.len 0 env (E 0 env (nxt g 3)).2 k0 he
  exact ⟨k1, by simp only [lessV, List.length_append, List.length_cons, List.length_nil]; omega⟩
theorem eqlV_fine {c : Cst} {D : Int} {m L : Nat} {E : Mk} (hE : Good c D m L E) (g : Gn) (hg : g.s.ok) (env : List NamD) (he : EOk m env) : Fine (3 * L + 1000) (eqlV E env g) := by
  have k0 := hE.ok 7 env (nxt g 3) (ok_nxt hg 3) he
  have l0 := hE.len 7 env (nxt g 3) (ok_nxt hg 3) he
  have k1 := hE.ok 7 env (E 7 env (nxt g 3)).2 k0 he
  have l1 := hE.len 7 env (E 7 env (nxt g 3)).2 k0 he
  exact ⟨k1, by simp only [eqlV, List.length_append, List.length_cons, List.length_nil]; omega⟩
theorem notV_fine {c : Cst} {D : Int} {m L : Nat} {E : Mk} (hE : Good c D m L E) (g : Gn) (hg : g.s.ok) (env : List NamD) (he : EOk m env) : Fine (3 * L + 1000) (notV E env g) := by
  have k0 := hE.ok 1 env (nxt g 3) (ok_nxt hg 3) he
  have l0 := hE.len 1 env (nxt g 3) (ok_nxt hg 3) he
  exact ⟨k0, by simp only [notV, List.length_append, List.length_cons, List.length_nil]; omega⟩
theorem consV_fine {c : Cst} {D : Int} {m L : Nat} {E : Mk} (hE : Good c D m L E) (g : Gn) (hg : g.s.ok) (env : List NamD) (he : EOk m env) : Fine (3 * L + 1000) (consV E env g) := by
  have k0 := hE.ok 0 env g hg he
  have l0 := hE.len 0 env g hg he
  have k1 := hE.ok 3 env (E 0 env g).2 k0 he
  have l1 := hE.len 3 env (E 0 env g).2 k0 he
  exact ⟨k1, by simp only [consV, List.length_append, List.length_cons, List.length_nil]; omega⟩
theorem pairV_fine {c : Cst} {D : Int} {m L : Nat} {E : Mk} (hE : Good c D m L E) (g : Gn) (hg : g.s.ok) (env : List NamD) (he : EOk m env) : Fine (3 * L + 1000) (pairV E env g) := by
  have k0 := hE.ok 2 env g hg he
  have l0 := hE.len 2 env g hg he
  have k1 := hE.ok 0 env (E 2 env g).2 k0 he
  have l1 := hE.len 0 env (E 2 env g).2 k0 he
  exact ⟨k1, by simp only [pairV, List.length_append, List.length_cons, List.length_nil]; omega⟩
theorem putV_fine {c : Cst} {D : Int} {m L : Nat} {E : Mk} (hE : Good c D m L E) (g : Gn) (hg : g.s.ok) (env : List NamD) (he : EOk m env) : Fine (3 * L + 1000) (putV E env g) := by
  have k0 := hE.ok 6 env g hg he
  have l0 := hE.len 6 env g hg he
  have hvl := lit_len putL (by decide) (drawV_in (E 6 env g).2.s (n := 3) (by omega))
  have k1 := hE.ok 0 env (nxt (E 6 env g).2 3) (ok_nxt k0 3) he
  have l1 := hE.len 0 env (nxt (E 6 env g).2 3) (ok_nxt k0 3) he
  exact ⟨k1, by simp only [putV, List.length_append, List.length_cons, List.length_nil]; omega⟩
theorem thingV_fine {c : Cst} {D : Int} {m L : Nat} {E : Mk} (hE : Good c D m L E) (g : Gn) (hg : g.s.ok) (env : List NamD) (he : EOk m env) : Fine (3 * L + 1000) (thingV E env g) := by
  have k0 := hE.ok 7 env g hg he
  have l0 := hE.len 7 env g hg he
  have k1 := hE.ok 7 env (E 7 env g).2 k0 he
  have l1 := hE.len 7 env (E 7 env g).2 k0 he
  exact ⟨k1, by simp only [thingV, List.length_append, List.length_cons, List.length_nil]; omega⟩
theorem tryV_fine {c : Cst} {D : Int} {m L : Nat} {E : Mk} (hE : Good c D (m + 1) L E) (g : Gn) (hg : g.s.ok) (sort : Int) (env : List NamD) (he : EOk m env) : Fine (3 * L + 1000) (tryV E sort env g) := by
  have hlf := freshV_len g
  have he1 := he.mono (Nat.le_succ m)
  have hein := inV_len g he
  have k0 := hE.ok sort env (nxt (incK g) 5) (ok_nxt (g := incK g) hg 5) he1
  have l0 := hE.len sort env (nxt (incK g) 5) (ok_nxt (g := incK g) hg 5) he1
  have k1 := hE.ok sort env (E sort env (nxt (incK g) 5)).2 k0 he1
  have l1 := hE.len sort env (E sort env (nxt (incK g) 5)).2 k0 he1
  exact ⟨k1, by simp only [tryV, List.length_append, List.length_cons, List.length_nil]; omega⟩
theorem case0V_fine {c : Cst} {D : Int} {m L : Nat} {E : Mk} (hE : Good c D (m + 1) L E) (g : Gn) (hg : g.s.ok) (sort : Int) (env : List NamD) (he : EOk m env) : Fine (3 * L + 1000) (case0V E sort env g) := by
  have hlf := freshV_len g
  have he1 := he.mono (Nat.le_succ m)
  have hein := inV_len g he
  have k0 := hE.ok 0 env (nxt (nxt (incK g) 5) 4) (ok_nxt (ok_nxt (g := incK g) hg 5) 4) he1
  have l0 := hE.len 0 env (nxt (nxt (incK g) 5) 4) (ok_nxt (ok_nxt (g := incK g) hg 5) 4) he1
  have ls := smallV_len (E 0 env (nxt (nxt (incK g) 5) 4)).2
  have k1 := hE.ok sort env (nxt (E 0 env (nxt (nxt (incK g) 5) 4)).2 7) (ok_nxt k0 7) he1
  have l1 := hE.len sort env (nxt (E 0 env (nxt (nxt (incK g) 5) 4)).2 7) (ok_nxt k0 7) he1
  have k2 := hE.ok sort (inV env g) (E sort env (nxt (E 0 env (nxt (nxt (incK g) 5) 4)).2 7)).2 k1 hein
  have l2 := hE.len sort (inV env g) (E sort env (nxt (E 0 env (nxt (nxt (incK g) 5) 4)).2 7)).2 k1 hein
  exact ⟨k2, by simp only [case0V, List.length_append, List.length_cons, List.length_nil]; omega⟩
theorem case1V_fine {c : Cst} {D : Int} {m L : Nat} {E : Mk} (hE : Good c D (m + 1) L E) (g : Gn) (hg : g.s.ok) (sort : Int) (env : List NamD) (he : EOk m env) : Fine (3 * L + 1000) (case1V E sort env g) := by
  have hlf := freshV_len g
  have he1 := he.mono (Nat.le_succ m)
  have hein := inV_len g he
  have k0 := hE.ok 3 env (nxt (nxt (incK g) 5) 4) (ok_nxt (ok_nxt (g := incK g) hg 5) 4) he1
  have l0 := hE.len 3 env (nxt (nxt (incK g) 5) 4) (ok_nxt (ok_nxt (g := incK g) hg 5) 4) he1
  have k1 := hE.ok sort env (E 3 env (nxt (nxt (incK g) 5) 4)).2 k0 he1
  have l1 := hE.len sort env (E 3 env (nxt (nxt (incK g) 5) 4)).2 k0 he1
  have k2 := hE.ok sort (inV env g) (E sort env (E 3 env (nxt (nxt (incK g) 5) 4)).2).2 k1 hein
  have l2 := hE.len sort (inV env g) (E sort env (E 3 env (nxt (nxt (incK g) 5) 4)).2).2 k1 hein
  exact ⟨k2, by simp only [case1V, List.length_append, List.length_cons, List.length_nil]; omega⟩
theorem case2V_fine {c : Cst} {D : Int} {m L : Nat} {E : Mk} (hE : Good c D (m + 1) L E) (g : Gn) (hg : g.s.ok) (sort : Int) (env : List NamD) (he : EOk m env) : Fine (3 * L + 1000) (case2V E sort env g) := by
  have hlf := freshV_len g
  have he1 := he.mono (Nat.le_succ m)
  have hein := inV_len g he
  have k0 := hE.ok 4 env (nxt (nxt (incK g) 5) 4) (ok_nxt (ok_nxt (g := incK g) hg 5) 4) he1
  have l0 := hE.len 4 env (nxt (nxt (incK g) 5) 4) (ok_nxt (ok_nxt (g := incK g) hg 5) 4) he1
  have k1 := hE.ok sort (inV env g) (E 4 env (nxt (nxt (incK g) 5) 4)).2 k0 hein
  have l1 := hE.len sort (inV env g) (E 4 env (nxt (nxt (incK g) 5) 4)).2 k0 hein
  have k2 := hE.ok sort env (E sort (inV env g) (E 4 env (nxt (nxt (incK g) 5) 4)).2).2 k1 he1
  have l2 := hE.len sort env (E sort (inV env g) (E 4 env (nxt (nxt (incK g) 5) 4)).2).2 k1 he1
  exact ⟨k2, by simp only [case2V, List.length_append, List.length_cons, List.length_nil]; omega⟩
theorem case3V_fine {c : Cst} {D : Int} {m L : Nat} {E : Mk} (hE : Good c D (m + 1) L E) (g : Gn) (hg : g.s.ok) (sort : Int) (env : List NamD) (he : EOk m env) : Fine (3 * L + 1000) (case3V E sort env g) := by
  have hlf := freshV_len g
  have he1 := he.mono (Nat.le_succ m)
  have hein := inV_len g he
  have k0 := hE.ok 7 env (nxt (nxt (incK g) 5) 4) (ok_nxt (ok_nxt (g := incK g) hg 5) 4) he1
  have l0 := hE.len 7 env (nxt (nxt (incK g) 5) 4) (ok_nxt (ok_nxt (g := incK g) hg 5) 4) he1
  have k1 := hE.ok sort (inV env g) (E 7 env (nxt (nxt (incK g) 5) 4)).2 k0 hein
  have l1 := hE.len sort (inV env g) (E 7 env (nxt (nxt (incK g) 5) 4)).2 k0 hein
  have k2 := hE.ok sort env (E sort (inV env g) (E 7 env (nxt (nxt (incK g) 5) 4)).2).2 k1 he1
  have l2 := hE.len sort env (E sort (inV env g) (E 7 env (nxt (nxt (incK g) 5) 4)).2).2 k1 he1
  exact ⟨k2, by simp only [case3V, List.length_append, List.length_cons, List.length_nil]; omega⟩
theorem proc0V_fine {c : Cst} {D : Int} {m L : Nat} {E : Mk} (hE : Good c D (m + 1) L E) (g : Gn) (hg : g.s.ok) (sort : Int) (env : List NamD) (he : EOk m env) : Fine (3 * L + 1000) (proc0V E sort env g) := by
  have hlf := freshV_len g
  have he1 := he.mono (Nat.le_succ m)
  have hein := inV_len g he
  have k0 := hE.ok sort env (nxt (incK g) 3) (ok_nxt (g := incK g) hg 3) he1
  have l0 := hE.len sort env (nxt (incK g) 3) (ok_nxt (g := incK g) hg 3) he1
  have k1 := hE.ok sort env (E sort env (nxt (incK g) 3)).2 k0 he1
  have l1 := hE.len sort env (E sort env (nxt (incK g) 3)).2 k0 he1
  exact ⟨k1, by simp only [proc0V, List.length_append, List.length_cons, List.length_nil]; omega⟩
theorem proc1V_fine {c : Cst} {D : Int} {m L : Nat} {E : Mk} (hE : Good c D (m + 1) L E) (g : Gn) (hg : g.s.ok) (sort : Int) (env : List NamD) (he : EOk m env) : Fine (3 * L + 1000) (proc1V E sort env g) := by
  have hlf := freshV_len g
  have he1 := he.mono (Nat.le_succ m)
  have hein := inV_len g he
  have k0 := hE.ok sort env (nxt (incK g) 3) (ok_nxt (g := incK g) hg 3) he1
  have l0 := hE.len sort env (nxt (incK g) 3) (ok_nxt (g := incK g) hg 3) he1
  have k1 := hE.ok 7 env (E sort env (nxt (incK g) 3)).2 k0 he1
  have l1 := hE.len 7 env (E sort env (nxt (incK g) 3)).2 k0 he1
  have k2 := hE.ok sort env (E 7 env (E sort env (nxt (incK g) 3)).2).2 k1 he1
  have l2 := hE.len sort env (E 7 env (E sort env (nxt (incK g) 3)).2).2 k1 he1
  exact ⟨k2, by simp only [proc1V, List.length_append, List.length_cons, List.length_nil]; omega⟩
theorem proc2V_fine {c : Cst} {D : Int} {m L : Nat} {E : Mk} (hE : Good c D (m + 1) L E) (g : Gn) (hg : g.s.ok) (sort : Int) (env : List NamD) (he : EOk m env) : Fine (3 * L + 1000) (proc2V E sort env g) := by
  have hlf := freshV_len g
  have he1 := he.mono (Nat.le_succ m)
  have hein := inV_len g he
  have k0 := hE.ok sort env (nxt (incK g) 3) (ok_nxt (g := incK g) hg 3) he1
  have l0 := hE.len sort env (nxt (incK g) 3) (ok_nxt (g := incK g) hg 3) he1
  have k1 := hE.ok sort env (E sort env (nxt (incK g) 3)).2 k0 he1
  have l1 := hE.len sort env (E sort env (nxt (incK g) 3)).2 k0 he1
  exact ⟨k1, by simp only [proc2V, List.length_append, List.length_cons, List.length_nil]; omega⟩
theorem proc3V_fine {c : Cst} {D : Int} {m L : Nat} {E : Mk} (hE : Good c D (m + 1) L E) (g : Gn) (hg : g.s.ok) (sort : Int) (env : List NamD) (he : EOk m env) : Fine (3 * L + 1000) (proc3V E sort env g) := by
  have hlf := freshV_len g
  have he1 := he.mono (Nat.le_succ m)
  have hein := inV_len g he
  have k0 := hE.ok 0 (inV env g) (nxt (incK g) 3) (ok_nxt (g := incK g) hg 3) hein
  have l0 := hE.len 0 (inV env g) (nxt (incK g) 3) (ok_nxt (g := incK g) hg 3) hein
  have k1 := hE.ok 0 env (E 0 (inV env g) (nxt (incK g) 3)).2 k0 he1
  have l1 := hE.len 0 env (E 0 (inV env g) (nxt (incK g) 3)).2 k0 he1
  exact ⟨k1, by simp only [proc3V, List.length_append, List.length_cons, List.length_nil]; omega⟩
theorem funV_fine {c : Cst} {D : Int} {m L : Nat} {E : Mk} (hE : Good c D (m + 1) L E) (g : Gn) (hg : g.s.ok) (env : List NamD) (he : EOk m env) : Fine (3 * L + 1000) (funV E env g) := by
  have hlf := freshV_len g
  have k0 := hE.ok 0 (env ++ [⟨freshV g, 0⟩]) (incK g) hg (inV_len g he)
  have l0 := hE.len 0 (env ++ [⟨freshV g, 0⟩]) (incK g) hg (inV_len g he)
  exact ⟨k0, by simp only [funV, List.length_append, List.length_cons, List.length_nil]; omega⟩
theorem specialV_fine {c : Cst} {D : Int} {m L : Nat} {E : Mk} (hE : Good c D (m + 1) L E) (g : Gn) (hg : g.s.ok) (sort : Int) (env : List NamD) (he : EOk m env) : Fine (3 * L + 1000) (specialV E sort env g) := by
  have he1 := he.mono (Nat.le_succ m)
  unfold specialV
  have hleaf : Fine (3 * L + 1000) (leafV sort env g) := leafV_fine sort env g hg _ (by omega) (fun x hx => by have := he.txt x hx; omega)
  repeat' (first | exact hleaf | refine bif_fine _ ?_ ?_)
  · exact addV_fine hE g hg env he1
  · exact getV_fine hE g hg env he1
  · exact applyV_fine hE g hg env he1
  · exact assertV_fine hE g hg env he1
  · exact lessV_fine hE g hg env he1
  · exact eqlV_fine hE g hg env he1
  · exact notV_fine hE g hg env he1
  · exact consV_fine hE g hg env he1
  · exact pairV_fine hE g hg env he1
  · exact funV_fine hE g hg env he
  · exact putV_fine hE g hg env he1
  · exact thingV_fine hE g hg env he1
theorem branchV_fine {c : Cst} {D : Int} {m L : Nat} {E : Mk} (hE : Good c D (m + 1) L E) (g : Gn) (hg : g.s.ok) (sort : Int) (env : List NamD) (he : EOk m env) : Fine (3 * L + 1000) (branchV E sort env g) := by
  unfold branchV
  repeat' refine bif_fine _ ?_ ?_
  · exact tryV_fine hE g hg sort env he
  · exact case0V_fine hE g hg sort env he
  · exact case1V_fine hE g hg sort env he
  · exact case2V_fine hE g hg sort env he
  · exact case3V_fine hE g hg sort env he
theorem processV_fine {c : Cst} {D : Int} {m L : Nat} {E : Mk} (hE : Good c D (m + 1) L E) (g : Gn) (hg : g.s.ok) (sort : Int) (env : List NamD) (he : EOk m env) : Fine (3 * L + 1000) (processV E sort env g) := by
  unfold processV
  repeat' refine bif_fine _ ?_ ?_
  · exact proc0V_fine hE g hg sort env he
  · exact proc1V_fine hE g hg sort env he
  · exact proc3V_fine hE g hg sort env he
  · exact proc2V_fine hE g hg sort env he
def calsV (l : List CalD) (sort : Int) : List CalD := l.filter fun x => decide (x.res = sort)
def pickV (l : List CalD) (g : Gn) : CalD := l.getD (drawV g.s (l.length : Int)).toNat ⟨[], [], [], 0⟩
def argStep (E : Mk) (env : List NamD) (st : Bool × List UInt8 × Gn) (p : Int) : Bool × List UInt8 × Gn :=
  (false, (bif st.1 then st.2.1 else st.2.1 ++ [44, 32]) ++ (E p env st.2.2).1, (E p env st.2.2).2)
def argAt (E : Mk) (env : List NamD) (s : List UInt8) (g : Gn) (ps : List Int) (k : Nat) : Bool × List UInt8 × Gn := (ps.take k).foldl (argStep E env) (true, s, g)
def headV (d : CalD) : List UInt8 := bif decide (d.mod = []) then d.name ++ [40] else d.mod ++ [58] ++ (d.name ++ [40])
def callW (E : Mk) (env : List NamD) (d : CalD) (g : Gn) : List UInt8 × Gn :=
  ((argAt E env (headV d) g d.params d.params.length).2.1 ++ [41], (argAt E env (headV d) g d.params d.params.length).2.2)
/-- functions that may be called: short names, few parameters -/
def CalOk (d : CalD) : Prop := d.mod.length ≤ 100 ∧ d.name.length ≤ 100 ∧ d.params.length ≤ 2
structure CstOk (c : Cst) : Prop where
  len : c.calls.length ≤ 1000
  cal : ∀ d ∈ c.calls, CalOk d
theorem argAt_succ (E : Mk) (env : List NamD) (s : List UInt8) (g : Gn) (ps : List Int) (k : Nat) (p : Int) (hp : ps[k]? = some p) : argAt E env s g ps (k + 1) = argStep E env (argAt E env s g ps k) p := by
  unfold argAt; rw [List.take_add_one, hp, List.foldl_append]; rfl
theorem argAt_fst (E : Mk) (env : List NamD) (s : List UInt8) (g : Gn) (ps : List Int) : ∀ k, k ≤ ps.length → (argAt E env s g ps k).1 = decide (k = 0)
  | 0, _ => by simp [argAt]
  | k + 1, hk => by
    rw [argAt_succ E env s g ps k ps[k] (List.getElem?_eq_getElem (by omega))]
    simp [argStep]
theorem argAt_fine {c : Cst} {D : Int} {m L : Nat} {E : Mk} (hE : Good c D m L E) (env : List NamD) (he : EOk m env) (s : List UInt8) (g : Gn) (hg : g.s.ok) (ps : List Int) : ∀ k, k ≤ ps.length → (argAt E env s g ps k).2.2.s.ok ∧ (argAt E env s g ps k).2.1.length ≤ s.length + k * (L + 2)
  | 0, _ => ⟨hg, by simp [argAt]⟩
  | k + 1, hk => by
    have ih := argAt_fine hE env he s g hg ps k (by omega)
    rw [argAt_succ E env s g ps k ps[k] (List.getElem?_eq_getElem (by omega))]
    refine ⟨hE.ok _ env _ ih.1 he, ?_⟩
    have hl := hE.len ps[k] env _ ih.1 he
    have hb : ∀ b : Bool, ∀ t : List UInt8, (bif b then t else t ++ [44, 32]).length ≤ t.length + 2 := by intro b t; cases b <;> simp
    have := hb (argAt E env s g ps k).1 (argAt E env s g ps k).2.1
    simp only [argStep, List.length_append]
    rw [Nat.add_mul]; omega
theorem headV_len (d : CalD) (h : CalOk d) : (headV d).length ≤ 202 := by
  obtain ⟨h1, h2, _⟩ := h
  unfold headV
  cases decide (d.mod = []) <;> simp only [cond_true, cond_false, List.length_append, List.length_cons, List.length_nil] <;> omega
theorem callW_fine {c : Cst} {D : Int} {m L : Nat} {E : Mk} (hE : Good c D m L E) (env : List NamD) (he : EOk m env) (d : CalD) (hd : CalOk d) (g : Gn) (hg : g.s.ok) : Fine (3 * L + 1000) (callW E env d g) := by
  have h := argAt_fine hE env he (headV d) g hg d.params d.params.length (Nat.le_refl _)
  have hh := headV_len d hd
  have h2 := hd.2.2
  have h3 : d.params.length * (L + 2) ≤ 2 * (L + 2) := Nat.mul_le_mul_right _ h2
  refine ⟨h.1, ?_⟩
  simp only [callW, List.length_append, List.length_cons, List.length_nil]; omega
theorem cals_mem {l : List CalD} {sort : Int} {g : Gn} (h : 0 < (calsV l sort).length) : pickV (calsV l sort) g ∈ l := by
  have hv := drawV_in g.s (n := ((calsV l sort).length : Int)) (by omega)
  unfold pickV
  rw [List.getD_eq_getElem?_getD, List.getElem?_eq_getElem (show (drawV g.s ((calsV l sort).length : Int)).toNat < (calsV l sort).length by omega)]
  exact (List.mem_filter.1 (List.getElem_mem (l := calsV l sort) (h := _))).1
def callV (c : Cst) (E : Mk) (sort : Int) (env : List NamD) (g : Gn) : List UInt8 × Gn :=
  callW E env (pickV (calsV c.calls sort) g) (nxt g ((calsV c.calls sort).length : Int))
theorem cal_snoc (l : List CalD) (d : CalD) : l.map encCal ++ [[.str d.mod, .str d.name, .sl 1 (d.params.map encZ), .int .i64 d.res]] = (l ++ [d]).map encCal := by rw [List.map_append]; rfl
theorem cals_none (c : Cst) (hc : CstOk c) (D : Int) (g : Gn) (sort : Int) (env : List NamD) (hn : (calsV c.calls sort).length = 0) : PCB Tryd.prog 78 [Sp 1000000, I .i64 sort, I .i64 D, Envt env] (gB c g) (.tup [S [], .one (.dat (.bool false))]) (gB c g) := by
  have hcl := hc.len
  have hdn : decide (((calsV c.calls sort).length : Int) = 0) = true := by rw [hn]; rfl
  refine PCB.of_body Tryd.func78 rfl (by decide) Tryd.ntmps78 Tryd.results78 rfl rfl rfl ?_ rfl rfl
  repeat' (first | (simp only [go_sem, zA, zB, zC, zD, zE, zF, zG, reduceCtorEq, zH, zI, zJ, zK, zL, List.length_map]; all_goals fail_if_success guard_target =ₛ False) | (with_reducible first | ((first | refine seqVC_stepN rfl ?_ | refine AWP.seq ?_ | refine AWP.seqR (by kernel_rfl) ?_); intro K hK) | ((first | refine hK _ _ _ ?_ | refine hK _ _ ?_ | refine hK _ ?_); clear hK K) | refine seqVC_nil ?_ | refine AWP.block ?_ | (refine AWP.cond (by with_unfolding_all rfl) ?_ ?_ <;> intro h <;> (try simp only [zM, zN] at h) <;> try exact absurd h (by decide)) | refine AWP.skip ?_ | refine AWP.ret ?_ | refine AWP.exit ?_ | refine Or.inl ?_) | (clear hK K))
  refine AWP.gh (Gh.nilrow 10 900 rfl rfl rfl (by simp [Bx.fresh, Cell.freshs, Cell.fresh])) ?_
  refine AWP.len 20 rfl fun hlen0 => ?_
  (try rw [List.length_map] at hlen0)
  refine AWP.range (S := List CalD) (c.calls) encCal (fun k s => (22, I .i64 (k : Nat)) :: [(10, .one (.own 900 s.length))]) (fun k s => [(900, .row 4 (s.map encCal)), (1000000, mkB c g), (1000001, srcB g.s)]) [0, 1, 2, 3, 20, 21] [] (fun k s => s = calsV (c.calls.take k) sort) ([]) (by simp only [go_sem, zA, zB, zC, zD, zE, zF, zG, reduceCtorEq, zH, zI, zJ, zK, zL]; exact Gh.to [] (by repeat (first | exact trivial | refine ⟨rfl, ?_⟩ | refine ⟨by (simp only [go_sem, zA, zB, zC, zD, zE, zF, zG, reduceCtorEq, zH, zI, zJ, zK, zL, List.length_append, List.length_map, List.length_cons, List.length_nil, Nat.zero_add]) <;> rfl, ?_⟩)) (by repeat (first | exact trivial | refine ⟨rfl, ?_⟩ | refine ⟨by (simp only [go_sem, zA, zB, zC, zD, zE, zF, zG, reduceCtorEq, zH, zI, zJ, zK, zL, List.length_append, List.length_map, List.length_cons, List.length_nil, Nat.zero_add]) <;> rfl, ?_⟩)) rfl rfl rfl) ?_ ?_ ?_
  · rfl
  · intro k s x hlt hx hx' hbb hok
    simp only [go_sem, zA, zB, zC, zD, zE, zF, zG, reduceCtorEq, zH, zI, zJ, zK, zL]
    have hsl : s.length ≤ 1000 := by
      rw [hok]; unfold calsV
      have := List.length_filter_le (fun x : CalD => decide (x.res = sort)) (c.calls.take k)
      rw [List.length_take] at this; omega
    have hok' : calsV (c.calls.take (k + 1)) sort = bif decide (x.res = sort) then s ++ [x] else s := by
      rw [List.take_add_one, hx, hok]
      unfold calsV
      rw [List.filter_append]
      cases hd : decide (x.res = sort) <;> simp [List.filter_cons, hd]
    repeat' (first | (simp only [go_sem, zA, zB, zC, zD, zE, zF, zG, reduceCtorEq, zH, zI, zJ, zK, zL, List.length_map, hbb, encCal, cal_snoc]; all_goals fail_if_success guard_target =ₛ False) | (with_reducible first | ((first | refine seqVC_stepN rfl ?_ | refine AWP.seq ?_ | refine AWP.seqR (by kernel_rfl) ?_); intro K hK) | ((first | refine hK _ _ _ ?_ | refine hK _ _ ?_ | refine hK _ ?_); clear hK K) | refine seqVC_nil ?_ | refine AWP.block ?_ | (refine AWP.cond (by with_unfolding_all rfl) ?_ ?_ <;> intro h <;> (try simp only [zM, zN] at h) <;> try exact absurd h (by decide)) | refine AWP.skip ?_ | refine AWP.ret ?_ | refine AWP.exit ?_ | refine ⟨(by omega : _ ≤ _), ?_⟩ | refine ⟨(by omega : _ ≤ _), (by omega : _ ≤ _), ?_⟩ | refine ⟨by omega, encCal x, hx', ?_⟩ | refine ⟨encCal x, hx', ?_⟩ | refine Or.inl ?_) | (clear hK K))
    all_goals rw [wrap_succ hlt hlen0, hok', h]
    · rw [cond_true]; exact Gh.to [(900, 33)] (by repeat (first | exact trivial | refine ⟨rfl, ?_⟩ | refine ⟨by (simp only [go_sem, zA, zB, zC, zD, zE, zF, zG, reduceCtorEq, zH, zI, zJ, zK, zL, List.length_append, List.length_map, List.length_cons, List.length_nil, Nat.zero_add]) <;> rfl, ?_⟩)) (by repeat (first | exact trivial | refine ⟨rfl, ?_⟩ | refine ⟨by (simp only [go_sem, zA, zB, zC, zD, zE, zF, zG, reduceCtorEq, zH, zI, zJ, zK, zL, List.length_append, List.length_map, List.length_cons, List.length_nil, Nat.zero_add]) <;> rfl, ?_⟩)) rfl rfl rfl
    · rw [cond_false]; exact Gh.to [(900, 900)] (by repeat (first | exact trivial | refine ⟨rfl, ?_⟩ | refine ⟨by (simp only [go_sem, zA, zB, zC, zD, zE, zF, zG, reduceCtorEq, zH, zI, zJ, zK, zL, List.length_append, List.length_map, List.length_cons, List.length_nil, Nat.zero_add]) <;> rfl, ?_⟩)) (by repeat (first | exact trivial | refine ⟨rfl, ?_⟩ | refine ⟨by (simp only [go_sem, zA, zB, zC, zD, zE, zF, zG, reduceCtorEq, zH, zI, zJ, zK, zL, List.length_append, List.length_map, List.length_cons, List.length_nil, Nat.zero_add]) <;> rfl, ?_⟩)) rfl rfl rfl
  · intro s hbb hok
    simp only [go_sem, zA, zB, zC, zD, zE, zF, zG, reduceCtorEq, zH, zI, zJ, zK, zL]
    rw [List.take_length] at hok
    rw [hok]
    repeat' (first | (simp only [go_sem, zA, zB, zC, zD, zE, zF, zG, reduceCtorEq, zH, zI, zJ, zK, zL, List.length_map, hbb, hdn]; all_goals fail_if_success guard_target =ₛ False) | (with_reducible first | ((first | refine seqVC_stepN rfl ?_ | refine AWP.seq ?_ | refine AWP.seqR (by kernel_rfl) ?_); intro K hK) | ((first | refine hK _ _ _ ?_ | refine hK _ _ ?_ | refine hK _ ?_); clear hK K) | refine seqVC_nil ?_ | refine AWP.block ?_ | (refine AWP.cond (by with_unfolding_all rfl) ?_ ?_ <;> intro h <;> (try simp only [zM, zN] at h) <;> try exact absurd h (by decide)) | refine AWP.skip ?_ | refine AWP.ret ?_ | refine AWP.exit ?_ | refine Or.inl ?_) | (clear hK K))
    all_goals exact fun x hx => List.mem_cons_of_mem _ hx
theorem cals_own (c : Cst) (hc : CstOk c) (D D1 : Int) (m L : Nat) (E : Mk) (hD : IntKind.i64.wrap (D - 1) = D1) (hE : Good c D1 m L E) (hL : L ≤ 1000000) (g : Gn) (hg : g.s.ok) (sort : Int) (env : List NamD) (he : EOk m env) (hn : 0 < (calsV c.calls sort).length) (hmd : decide ((pickV (calsV c.calls sort) g).mod = []) = true) : PCB Tryd.prog 78 [Sp 1000000, I .i64 sort, I .i64 D, Envt env] (gB c g) (.tup [S (callV c E sort env g).1, .one (.dat (.bool true))]) (gB c (callV c E sort env g).2) := by
  have hcl := hc.len
  have hdn : decide (((calsV c.calls sort).length : Int) = 0) = false := by rw [decide_eq_false_iff_not]; omega
  have hll : (calsV c.calls sort).length ≤ c.calls.length := List.length_filter_le _ _
  have hdk := hc.cal _ (cals_mem (g := g) hn)
  have hv := drawV_in g.s (n := ((calsV c.calls sort).length : Int)) (by omega)
  have hpk := lit_get encCal (calsV c.calls sort) ⟨[], [], [], 0⟩ hv
  have hok1 := ok_nxt hg ((calsV c.calls sort).length : Int)
  have hfin := argAt_fine hE env he (headV (pickV (calsV c.calls sort) g)) (nxt g ((calsV c.calls sort).length : Int)) hok1 (pickV (calsV c.calls sort) g).params
  have hfst := argAt_fst E env (headV (pickV (calsV c.calls sort) g)) (nxt g ((calsV c.calls sort).length : Int)) (pickV (calsV c.calls sort) g).params
  have hsuc := argAt_succ E env (headV (pickV (calsV c.calls sort) g)) (nxt g ((calsV c.calls sort).length : Int)) (pickV (calsV c.calls sort) g).params
  have hhl := headV_len _ hdk
  have hmax : 10000000 ≤ maxLen := by unfold maxLen; omega
  refine PCB.of_body Tryd.func78 rfl (by decide) Tryd.ntmps78 Tryd.results78 rfl rfl rfl ?_ rfl rfl
  repeat' (first | (simp only [go_sem, zA, zB, zC, zD, zE, zF, zG, reduceCtorEq, zH, zI, zJ, zK, zL, List.length_map]; all_goals fail_if_success guard_target =ₛ False) | (with_reducible first | ((first | refine seqVC_stepN rfl ?_ | refine AWP.seq ?_ | refine AWP.seqR (by kernel_rfl) ?_); intro K hK) | ((first | refine hK _ _ _ ?_ | refine hK _ _ ?_ | refine hK _ ?_); clear hK K) | refine seqVC_nil ?_ | refine AWP.block ?_ | (refine AWP.cond (by with_unfolding_all rfl) ?_ ?_ <;> intro h <;> (try simp only [zM, zN] at h) <;> try exact absurd h (by decide)) | refine AWP.skip ?_ | refine AWP.ret ?_ | refine AWP.exit ?_ | refine Or.inl ?_) | (clear hK K))
  refine AWP.gh (Gh.nilrow 10 900 rfl rfl rfl (by simp [Bx.fresh, Cell.freshs, Cell.fresh])) ?_
  refine AWP.len 20 rfl fun hlen0 => ?_
  (try rw [List.length_map] at hlen0)
  refine AWP.range (S := List CalD) (c.calls) encCal (fun k s => (22, I .i64 (k : Nat)) :: [(10, .one (.own 900 s.length))]) (fun k s => [(900, .row 4 (s.map encCal)), (1000000, mkB c g), (1000001, srcB g.s)]) [0, 1, 2, 3, 20, 21] [] (fun k s => s = calsV (c.calls.take k) sort) ([]) (by simp only [go_sem, zA, zB, zC, zD, zE, zF, zG, reduceCtorEq, zH, zI, zJ, zK, zL]; exact Gh.to [] (by repeat (first | exact trivial | refine ⟨rfl, ?_⟩ | refine ⟨by (simp only [go_sem, zA, zB, zC, zD, zE, zF, zG, reduceCtorEq, zH, zI, zJ, zK, zL, List.length_append, List.length_map, List.length_cons, List.length_nil, Nat.zero_add]) <;> rfl, ?_⟩)) (by repeat (first | exact trivial | refine ⟨rfl, ?_⟩ | refine ⟨by (simp only [go_sem, zA, zB, zC, zD, zE, zF, zG, reduceCtorEq, zH, zI, zJ, zK, zL, List.length_append, List.length_map, List.length_cons, List.length_nil, Nat.zero_add]) <;> rfl, ?_⟩)) rfl rfl rfl) ?_ ?_ ?_
  · rfl
  · intro k s x hlt hx hx' hbb hok
    simp only [go_sem, zA, zB, zC, zD, zE, zF, zG, reduceCtorEq, zH, zI, zJ, zK, zL]
    have hsl : s.length ≤ 1000 := by
      rw [hok]; unfold calsV
      have := List.length_filter_le (fun x : CalD => decide (x.res = sort)) (c.calls.take k)
      rw [List.length_take] at this; omega
    have hok' : calsV (c.calls.take (k + 1)) sort = bif decide (x.res = sort) then s ++ [x] else s := by
      rw [List.take_add_one, hx, hok]
      unfold calsV
      rw [List.filter_append]
      cases hd : decide (x.res = sort) <;> simp [List.filter_cons, hd]
    repeat' (first | (simp only [go_sem, zA, zB, zC, zD, zE, zF, zG, reduceCtorEq, zH, zI, zJ, zK, zL, List.length_map, hbb, encCal, cal_snoc]; all_goals fail_if_success guard_target =ₛ False) | (with_reducible first | ((first | refine seqVC_stepN rfl ?_ | refine AWP.seq ?_ | refine AWP.seqR (by kernel_rfl) ?_); intro K hK) | ((first | refine hK _ _ _ ?_ | refine hK _ _ ?_ | refine hK _ ?_); clear hK K) | refine seqVC_nil ?_ | refine AWP.block ?_ | (refine AWP.cond (by with_unfolding_all rfl) ?_ ?_ <;> intro h <;> (try simp only [zM, zN] at h) <;> try exact absurd h (by decide)) | refine AWP.skip ?_ | refine AWP.ret ?_ | refine AWP.exit ?_ | refine ⟨(by omega : _ ≤ _), ?_⟩ | refine ⟨(by omega : _ ≤ _), (by omega : _ ≤ _), ?_⟩ | refine ⟨by omega, encCal x, hx', ?_⟩ | refine ⟨encCal x, hx', ?_⟩ | refine Or.inl ?_) | (clear hK K))
    all_goals rw [wrap_succ hlt hlen0, hok', h]
    · rw [cond_true]; exact Gh.to [(900, 33)] (by repeat (first | exact trivial | refine ⟨rfl, ?_⟩ | refine ⟨by (simp only [go_sem, zA, zB, zC, zD, zE, zF, zG, reduceCtorEq, zH, zI, zJ, zK, zL, List.length_append, List.length_map, List.length_cons, List.length_nil, Nat.zero_add]) <;> rfl, ?_⟩)) (by repeat (first | exact trivial | refine ⟨rfl, ?_⟩ | refine ⟨by (simp only [go_sem, zA, zB, zC, zD, zE, zF, zG, reduceCtorEq, zH, zI, zJ, zK, zL, List.length_append, List.length_map, List.length_cons, List.length_nil, Nat.zero_add]) <;> rfl, ?_⟩)) rfl rfl rfl
    · rw [cond_false]; exact Gh.to [(900, 900)] (by repeat (first | exact trivial | refine ⟨rfl, ?_⟩ | refine ⟨by (simp only [go_sem, zA, zB, zC, zD, zE, zF, zG, reduceCtorEq, zH, zI, zJ, zK, zL, List.length_append, List.length_map, List.length_cons, List.length_nil, Nat.zero_add]) <;> rfl, ?_⟩)) (by repeat (first | exact trivial | refine ⟨rfl, ?_⟩ | refine ⟨by (simp only [go_sem, zA, zB, zC, zD, zE, zF, zG, reduceCtorEq, zH, zI, zJ, zK, zL, List.length_append, List.length_map, List.length_cons, List.length_nil, Nat.zero_add]) <;> rfl, ?_⟩)) rfl rfl rfl
  · intro s hbb hok
    simp only [go_sem, zA, zB, zC, zD, zE, zF, zG, reduceCtorEq, zH, zI, zJ, zK, zL]
    rw [List.take_length] at hok
    subst hok
    unfold callV callW
    change (List.map encCal (calsV c.calls sort))[(drawV g.s ((calsV c.calls sort).length : Int)).toNat]? = some (encCal (pickV (calsV c.calls sort) g)) at hpk
    generalize hdd : pickV (calsV c.calls sort) g = d at *
    obtain ⟨hd1, hd2, hd3⟩ := hdk
    have hhd : headV d = d.name ++ [40] := by unfold headV; rw [hmd]; rfl
    generalize hg1 : nxt g ((calsV c.calls sort).length : Int) = g1 at *
    have hg1s : nextS g.s ((calsV c.calls sort).length : Int) = g1.s := by rw [← hg1]; rfl
    have hg1k : g.k = g1.k := by rw [← hg1]; rfl
    refine AWP.gh (Gh.freeze 900 rfl rfl (by simp only [go_sem, zA, zB, zC, zD, zE, zF, zG, reduceCtorEq, zH, zI, zJ, zK, zL, List.length_map]) (by simp only [go_sem, zA, zB, zC, zD, zE, zF, zG, reduceCtorEq, zH, zI, zJ, zK, zL, List.length_map])) ?_
    simp only [go_sem, zA, zB, zC, zD, zE, zF, zG, reduceCtorEq, zH, zI, zJ, zK, zL, List.length_map]
    repeat' (first | (simp only [go_sem, zA, zB, zC, zD, zE, zF, zG, reduceCtorEq, zH, zI, zJ, zK, zL, List.length_map, hbb, hdn, encCal, hmd, hg1s, hg1k]; all_goals fail_if_success guard_target =ₛ False) | (with_reducible first | ((first | refine seqVC_stepN rfl ?_ | refine AWP.seq ?_ | refine AWP.seqR (by kernel_rfl) ?_); intro K hK) | ((first | refine hK _ _ _ ?_ | refine hK _ _ ?_ | refine hK _ ?_); clear hK K) | refine seqVC_nil ?_ | refine AWP.block ?_ | (refine AWP.cond (by with_unfolding_all rfl) ?_ ?_ <;> intro h <;> (try simp only [zM, zN] at h) <;> try exact absurd h (by decide)) | refine AWP.skip ?_ | refine AWP.ret ?_ | refine AWP.exit ?_ | (refine ⟨(by first | omega | (simp only [List.length_append, List.length_map, List.length_take, List.length_drop, List.length_cons, List.length_nil, List.length_replicate]; omega) : _ ≤ _), ?_⟩) | refine ⟨by omega, by omega, ?_⟩) | (refine ⟨1000001, _, _, _, draw_k 1000001 g.s hg ((calsV c.calls sort).length : Int) (by omega), rfl, ?_⟩) | ( refine ⟨hv.1, encCal d, hpk, ?_⟩) | ( refine ⟨hv.1, ?_⟩) | ( refine ⟨encCal d, hpk, ?_⟩) | (with_reducible first | refine Or.inl ?_) | (clear hK K))
    refine AWP.len 60 rfl fun hlen1 => ?_
    (try rw [List.length_map] at hlen1)
    refine AWP.range (S := List UInt8 × Gn) (d.params) encZ (fun k s => (62, I .i64 (k : Nat)) :: [(14, S s.1)]) (fun k s => [(13, .cells [.dat (.str d.mod), .dat (.str d.name), .dat (.sl 1 (d.params.map encZ)), .dat (.int .i64 d.res)]), (1000000, mkB c s.2), (1000001, srcB s.2.s)]) [0, 2, 3, 60, 61] [] (fun k s => s = (argAt E env (headV d) g1 d.params k).2) ((d.name ++ [40], g1)) (by simp only [go_sem, zA, zB, zC, zD, zE, zF, zG, reduceCtorEq, zH, zI, zJ, zK, zL, hg1s, hg1k]; exact Gh.to [] (by repeat (first | exact trivial | refine ⟨rfl, ?_⟩ | refine ⟨by (simp only [go_sem, zA, zB, zC, zD, zE, zF, zG, reduceCtorEq, zH, zI, zJ, zK, zL, List.length_append, List.length_map, List.length_cons, List.length_nil, Nat.zero_add]) <;> rfl, ?_⟩)) (by repeat (first | exact trivial | refine ⟨rfl, ?_⟩ | refine ⟨by (simp only [go_sem, zA, zB, zC, zD, zE, zF, zG, reduceCtorEq, zH, zI, zJ, zK, zL, List.length_append, List.length_map, List.length_cons, List.length_nil, Nat.zero_add]) <;> rfl, ?_⟩)) rfl rfl rfl) ?_ ?_ ?_
    · rw [hhd]; rfl
    · intro k s p hlt hx hx' hbb hok
      simp only [go_sem, zA, zB, zC, zD, zE, zF, zG, reduceCtorEq, zH, zI, zJ, zK, zL]
      have hk := hfin k (by omega)
      have hk1 := hfst k (by omega)
      have hk2 := hsuc k p hx
      rw [← hok] at hk
      have hsl : s.1.length ≤ 202 + 2 * (L + 2) := by
        have : k * (L + 2) ≤ 2 * (L + 2) := Nat.mul_le_mul_right _ (by omega)
        omega
      have r0 := hE.run p env s.2 hk.1 he
      have l0 := hE.len p env s.2 hk.1 he
      have hst : (argAt E env (headV d) g1 d.params (k + 1)).2 = ((bif decide (k = 0) then s.1 else s.1 ++ [44, 32]) ++ (E p env s.2).1, (E p env s.2).2) := by rw [hk2]; simp only [argStep, ← hok, hk1]
      by_cases hk0 : k = 0
      · have hd0 : decide (0 < (k : Int)) = false := by rw [decide_eq_false_iff_not]; omega
        rw [show decide (k = 0) = true from by simp [hk0], cond_true] at hst
        repeat' (first | (simp only [go_sem, zA, zB, zC, zD, zE, zF, zG, reduceCtorEq, zH, zI, zJ, zK, zL, List.length_map, hbb, encZ, hd0, hD, Bx.puts]; all_goals fail_if_success guard_target =ₛ False) | (with_reducible first | ((first | refine seqVC_stepN rfl ?_ | refine AWP.seq ?_ | refine AWP.seqR (by kernel_rfl) ?_); intro K hK) | ((first | refine hK _ _ _ ?_ | refine hK _ _ ?_ | refine hK _ ?_); clear hK K) | refine seqVC_nil ?_ | refine AWP.block ?_ | (refine AWP.cond (by with_unfolding_all rfl) ?_ ?_ <;> intro h <;> (try simp only [zM, zN] at h) <;> try exact absurd h (by decide)) | refine AWP.skip ?_ | refine AWP.ret ?_ | refine AWP.exit ?_ | refine ⟨by omega, encZ p, hx', ?_⟩ | refine ⟨encZ p, hx', ?_⟩ | (refine ⟨(by first | omega | (simp only [List.length_append, List.length_map, List.length_take, List.length_drop, List.length_cons, List.length_nil, List.length_replicate]; omega) : _ ≤ _), ?_⟩) | refine ⟨by omega, by omega, ?_⟩) | ( refine Or.inr ⟨_, _, _, r0, ⟨rfl, rfl, trivial⟩, rfl, rfl, ?_⟩) | (with_reducible first | refine Or.inl ?_) | (clear hK K))
        all_goals (rw [wrap_succ hlt hlen1, hst]; exact Gh.to [] (by repeat (first | exact trivial | refine ⟨rfl, ?_⟩ | refine ⟨by (simp only [go_sem, zA, zB, zC, zD, zE, zF, zG, reduceCtorEq, zH, zI, zJ, zK, zL, List.length_append, List.length_map, List.length_cons, List.length_nil, Nat.zero_add]) <;> rfl, ?_⟩)) (by repeat (first | exact trivial | refine ⟨rfl, ?_⟩ | refine ⟨by (simp only [go_sem, zA, zB, zC, zD, zE, zF, zG, reduceCtorEq, zH, zI, zJ, zK, zL, List.length_append, List.length_map, List.length_cons, List.length_nil, Nat.zero_add]) <;> rfl, ?_⟩)) rfl rfl rfl)
      · have hd0 : decide (0 < (k : Int)) = true := by rw [decide_eq_true_eq]; omega
        rw [show decide (k = 0) = false from by simp [hk0], cond_false] at hst
        repeat' (first | (simp only [go_sem, zA, zB, zC, zD, zE, zF, zG, reduceCtorEq, zH, zI, zJ, zK, zL, List.length_map, hbb, encZ, hd0, hD, Bx.puts]; all_goals fail_if_success guard_target =ₛ False) | (with_reducible first | ((first | refine seqVC_stepN rfl ?_ | refine AWP.seq ?_ | refine AWP.seqR (by kernel_rfl) ?_); intro K hK) | ((first | refine hK _ _ _ ?_ | refine hK _ _ ?_ | refine hK _ ?_); clear hK K) | refine seqVC_nil ?_ | refine AWP.block ?_ | (refine AWP.cond (by with_unfolding_all rfl) ?_ ?_ <;> intro h <;> (try simp only [zM, zN] at h) <;> try exact absurd h (by decide)) | refine AWP.skip ?_ | refine AWP.ret ?_ | refine AWP.exit ?_ | refine ⟨by omega, encZ p, hx', ?_⟩ | refine ⟨encZ p, hx', ?_⟩ | (refine ⟨(by first | omega | (simp only [List.length_append, List.length_map, List.length_take, List.length_drop, List.length_cons, List.length_nil, List.length_replicate]; omega) : _ ≤ _), ?_⟩) | refine ⟨by omega, by omega, ?_⟩) | ( refine Or.inr ⟨_, _, _, r0, ⟨rfl, rfl, trivial⟩, rfl, rfl, ?_⟩) | (with_reducible first | refine Or.inl ?_) | (clear hK K))
        all_goals (rw [wrap_succ hlt hlen1, hst]; exact Gh.to [] (by repeat (first | exact trivial | refine ⟨rfl, ?_⟩ | refine ⟨by (simp only [go_sem, zA, zB, zC, zD, zE, zF, zG, reduceCtorEq, zH, zI, zJ, zK, zL, List.length_append, List.length_map, List.length_cons, List.length_nil, Nat.zero_add]) <;> rfl, ?_⟩)) (by repeat (first | exact trivial | refine ⟨rfl, ?_⟩ | refine ⟨by (simp only [go_sem, zA, zB, zC, zD, zE, zF, zG, reduceCtorEq, zH, zI, zJ, zK, zL, List.length_append, List.length_map, List.length_cons, List.length_nil, Nat.zero_add]) <;> rfl, ?_⟩)) rfl rfl rfl)
    · intro s hbb hok
      simp only [go_sem, zA, zB, zC, zD, zE, zF, zG, reduceCtorEq, zH, zI, zJ, zK, zL]
      have hk := hfin d.params.length (by omega)
      rw [← hok] at hk
      have hsl : s.1.length ≤ 202 + 2 * (L + 2) := by
        have : d.params.length * (L + 2) ≤ 2 * (L + 2) := Nat.mul_le_mul_right _ (by omega)
        omega
      repeat' (first | (simp only [go_sem, zA, zB, zC, zD, zE, zF, zG, reduceCtorEq, zH, zI, zJ, zK, zL, List.length_map, hbb]; all_goals fail_if_success guard_target =ₛ False) | (with_reducible first | ((first | refine seqVC_stepN rfl ?_ | refine AWP.seq ?_ | refine AWP.seqR (by kernel_rfl) ?_); intro K hK) | ((first | refine hK _ _ _ ?_ | refine hK _ _ ?_ | refine hK _ ?_); clear hK K) | refine seqVC_nil ?_ | refine AWP.block ?_ | (refine AWP.cond (by with_unfolding_all rfl) ?_ ?_ <;> intro h <;> (try simp only [zM, zN] at h) <;> try exact absurd h (by decide)) | refine AWP.skip ?_ | refine AWP.ret ?_ | refine AWP.exit ?_ | (refine ⟨(by first | omega | (simp only [List.length_append, List.length_map, List.length_take, List.length_drop, List.length_cons, List.length_nil, List.length_replicate]; omega) : _ ≤ _), ?_⟩) | refine ⟨by omega, by omega, ?_⟩ | refine Or.inl ?_) | (clear hK K))
      have hcv : callV c E sort env g = (s.1 ++ [41], s.2) := by unfold callV callW; rw [hdd, hg1, ← hok]
      rw [hcv]
      all_goals exact ⟨rfl, fun x hx => List.mem_cons_of_mem _ hx⟩
theorem cals_far (c : Cst) (hc : CstOk c) (D D1 : Int) (m L : Nat) (E : Mk) (hD : IntKind.i64.wrap (D - 1) = D1) (hE : Good c D1 m L E) (hL : L ≤ 1000000) (g : Gn) (hg : g.s.ok) (sort : Int) (env : List NamD) (he : EOk m env) (hn : 0 < (calsV c.calls sort).length) (hmd : decide ((pickV (calsV c.calls sort) g).mod = []) = false) : PCB Tryd.prog 78 [Sp 1000000, I .i64 sort, I .i64 D, Envt env] (gB c g) (.tup [S (callV c E sort env g).1, .one (.dat (.bool true))]) (gB c (callV c E sort env g).2) := by
  have hcl := hc.len
  have hdn : decide (((calsV c.calls sort).length : Int) = 0) = false := by rw [decide_eq_false_iff_not]; omega
  have hll : (calsV c.calls sort).length ≤ c.calls.length := List.length_filter_le _ _
  have hdk := hc.cal _ (cals_mem (g := g) hn)
  have hv := drawV_in g.s (n := ((calsV c.calls sort).length : Int)) (by omega)
  have hpk := lit_get encCal (calsV c.calls sort) ⟨[], [], [], 0⟩ hv
  have hok1 := ok_nxt hg ((calsV c.calls sort).length : Int)
  have hfin := argAt_fine hE env he (headV (pickV (calsV c.calls sort) g)) (nxt g ((calsV c.calls sort).length : Int)) hok1 (pickV (calsV c.calls sort) g).params
  have hfst := argAt_fst E env (headV (pickV (calsV c.calls sort) g)) (nxt g ((calsV c.calls sort).length : Int)) (pickV (calsV c.calls sort) g).params
  have hsuc := argAt_succ E env (headV (pickV (calsV c.calls sort) g)) (nxt g ((calsV c.calls sort).length : Int)) (pickV (calsV c.calls sort) g).params
  have hhl := headV_len _ hdk
  have hmax : 10000000 ≤ maxLen := by unfold maxLen; omega
  refine PCB.of_body Tryd.func78 rfl (by decide) Tryd.ntmps78 Tryd.results78 rfl rfl rfl ?_ rfl rfl
  repeat' (first | (simp only [go_sem, zA, zB, zC, zD, zE, zF, zG, reduceCtorEq, zH, zI, zJ, zK, zL, List.length_map]; all_goals fail_if_success guard_target =ₛ False) | (with_reducible first | ((first | refine seqVC_stepN rfl ?_ | refine AWP.seq ?_ | refine AWP.seqR (by kernel_rfl) ?_); intro K hK) | ((first | refine hK _ _ _ ?_ | refine hK _ _ ?_ | refine hK _ ?_); clear hK K) | refine seqVC_nil ?_ | refine AWP.block ?_ | (refine AWP.cond (by with_unfolding_all rfl) ?_ ?_ <;> intro h <;> (try simp only [zM, zN] at h) <;> try exact absurd h (by decide)) | refine AWP.skip ?_ | refine AWP.ret ?_ | refine AWP.exit ?_ | refine Or.inl ?_) | (clear hK K))
  refine AWP.gh (Gh.nilrow 10 900 rfl rfl rfl (by simp [Bx.fresh, Cell.freshs, Cell.fresh])) ?_
  refine AWP.len 20 rfl fun hlen0 => ?_
  (try rw [List.length_map] at hlen0)
  refine AWP.range (S := List CalD) (c.calls) encCal (fun k s => (22, I .i64 (k : Nat)) :: [(10, .one (.own 900 s.length))]) (fun k s => [(900, .row 4 (s.map encCal)), (1000000, mkB c g), (1000001, srcB g.s)]) [0, 1, 2, 3, 20, 21] [] (fun k s => s = calsV (c.calls.take k) sort) ([]) (by simp only [go_sem, zA, zB, zC, zD, zE, zF, zG, reduceCtorEq, zH, zI, zJ, zK, zL]; exact Gh.to [] (by repeat (first | exact trivial | refine ⟨rfl, ?_⟩ | refine ⟨by (simp only [go_sem, zA, zB, zC, zD, zE, zF, zG, reduceCtorEq, zH, zI, zJ, zK, zL, List.length_append, List.length_map, List.length_cons, List.length_nil, Nat.zero_add]) <;> rfl, ?_⟩)) (by repeat (first | exact trivial | refine ⟨rfl, ?_⟩ | refine ⟨by (simp only [go_sem, zA, zB, zC, zD, zE, zF, zG, reduceCtorEq, zH, zI, zJ, zK, zL, List.length_append, List.length_map, List.length_cons, List.length_nil, Nat.zero_add]) <;> rfl, ?_⟩)) rfl rfl rfl) ?_ ?_ ?_
  · rfl
  · intro k s x hlt hx hx' hbb hok
    simp only [go_sem, zA, zB, zC, zD, zE, zF, zG, reduceCtorEq, zH, zI, zJ, zK, zL]
    have hsl : s.length ≤ 1000 := by
      rw [hok]; unfold calsV
      have := List.length_filter_le (fun x : CalD => decide (x.res = sort)) (c.calls.take k)
      rw [List.length_take] at this; omega
    have hok' : calsV (c.calls.take (k + 1)) sort = bif decide (x.res = sort) then s ++ [x] else s := by
      rw [List.take_add_one, hx, hok]
      unfold calsV
      rw [List.filter_append]
      cases hd : decide (x.res = sort) <;> simp [List.filter_cons, hd]
    repeat' (first | (simp only [go_sem, zA, zB, zC, zD, zE, zF, zG, reduceCtorEq, zH, zI, zJ, zK, zL, List.length_map, hbb, encCal, cal_snoc]; all_goals fail_if_success guard_target =ₛ False) | (with_reducible first | ((first | refine seqVC_stepN rfl ?_ | refine AWP.seq ?_ | refine AWP.seqR (by kernel_rfl) ?_); intro K hK) | ((first | refine hK _ _ _ ?_ | refine hK _ _ ?_ | refine hK _ ?_); clear hK K) | refine seqVC_nil ?_ | refine AWP.block ?_ | (refine AWP.cond (by with_unfolding_all rfl) ?_ ?_ <;> intro h <;> (try simp only [zM, zN] at h) <;> try exact absurd h (by decide)) | refine AWP.skip ?_ | refine AWP.ret ?_ | refine AWP.exit ?_ | refine ⟨(by omega : _ ≤ _), ?_⟩ | refine ⟨(by omega : _ ≤ _), (by omega : _ ≤ _), ?_⟩ | refine ⟨by omega, encCal x, hx', ?_⟩ | refine ⟨encCal x, hx', ?_⟩ | refine Or.inl ?_) | (clear hK K))
    all_goals rw [wrap_succ hlt hlen0, hok', h]
    · rw [cond_true]; exact Gh.to [(900, 33)] (by repeat (first | exact trivial | refine ⟨rfl, ?_⟩ | refine ⟨by (simp only [go_sem, zA, zB, zC, zD, zE, zF, zG, reduceCtorEq, zH, zI, zJ, zK, zL, List.length_append, List.length_map, List.length_cons, List.length_nil, Nat.zero_add]) <;> rfl, ?_⟩)) (by repeat (first | exact trivial | refine ⟨rfl, ?_⟩ | refine ⟨by (simp only [go_sem, zA, zB, zC, zD, zE, zF, zG, reduceCtorEq, zH, zI, zJ, zK, zL, List.length_append, List.length_map, List.length_cons, List.length_nil, Nat.zero_add]) <;> rfl, ?_⟩)) rfl rfl rfl
    · rw [cond_false]; exact Gh.to [(900, 900)] (by repeat (first | exact trivial | refine ⟨rfl, ?_⟩ | refine ⟨by (simp only [go_sem, zA, zB, zC, zD, zE, zF, zG, reduceCtorEq, zH, zI, zJ, zK, zL, List.length_append, List.length_map, List.length_cons, List.length_nil, Nat.zero_add]) <;> rfl, ?_⟩)) (by repeat (first | exact trivial | refine ⟨rfl, ?_⟩ | refine ⟨by (simp only [go_sem, zA, zB, zC, zD, zE, zF, zG, reduceCtorEq, zH, zI, zJ, zK, zL, List.length_append, List.length_map, List.length_cons, List.length_nil, Nat.zero_add]) <;> rfl, ?_⟩)) rfl rfl rfl
  · intro s hbb hok
    simp only [go_sem, zA, zB, zC, zD, zE, zF, zG, reduceCtorEq, zH, zI, zJ, zK, zL]
    rw [List.take_length] at hok
    subst hok
    unfold callV callW
    change (List.map encCal (calsV c.calls sort))[(drawV g.s ((calsV c.calls sort).length : Int)).toNat]? = some (encCal (pickV (calsV c.calls sort) g)) at hpk
    generalize hdd : pickV (calsV c.calls sort) g = d at *
    obtain ⟨hd1, hd2, hd3⟩ := hdk
    have hhd : headV d = d.mod ++ [58] ++ (d.name ++ [40]) := by unfold headV; rw [hmd]; rfl
    generalize hg1 : nxt g ((calsV c.calls sort).length : Int) = g1 at *
    have hg1s : nextS g.s ((calsV c.calls sort).length : Int) = g1.s := by rw [← hg1]; rfl
    have hg1k : g.k = g1.k := by rw [← hg1]; rfl
    refine AWP.gh (Gh.freeze 900 rfl rfl (by simp only [go_sem, zA, zB, zC, zD, zE, zF, zG, reduceCtorEq, zH, zI, zJ, zK, zL, List.length_map]) (by simp only [go_sem, zA, zB, zC, zD, zE, zF, zG, reduceCtorEq, zH, zI, zJ, zK, zL, List.length_map])) ?_
    simp only [go_sem, zA, zB, zC, zD, zE, zF, zG, reduceCtorEq, zH, zI, zJ, zK, zL, List.length_map]
    repeat' (first | (simp only [go_sem, zA, zB, zC, zD, zE, zF, zG, reduceCtorEq, zH, zI, zJ, zK, zL, List.length_map, hbb, hdn, encCal, hmd, hg1s, hg1k]; all_goals fail_if_success guard_target =ₛ False) | (with_reducible first | ((first | refine seqVC_stepN rfl ?_ | refine AWP.seq ?_ | refine AWP.seqR (by kernel_rfl) ?_); intro K hK) | ((first | refine hK _ _ _ ?_ | refine hK _ _ ?_ | refine hK _ ?_); clear hK K) | refine seqVC_nil ?_ | refine AWP.block ?_ | (refine AWP.cond (by with_unfolding_all rfl) ?_ ?_ <;> intro h <;> (try simp only [zM, zN] at h) <;> try exact absurd h (by decide)) | refine AWP.skip ?_ | refine AWP.ret ?_ | refine AWP.exit ?_ | (refine ⟨(by first | omega | (simp only [List.length_append, List.length_map, List.length_take, List.length_drop, List.length_cons, List.length_nil, List.length_replicate]; omega) : _ ≤ _), ?_⟩) | refine ⟨by omega, by omega, ?_⟩) | (refine ⟨1000001, _, _, _, draw_k 1000001 g.s hg ((calsV c.calls sort).length : Int) (by omega), rfl, ?_⟩) | ( refine ⟨hv.1, encCal d, hpk, ?_⟩) | ( refine ⟨hv.1, ?_⟩) | ( refine ⟨encCal d, hpk, ?_⟩) | (with_reducible first | refine Or.inl ?_) | (clear hK K))
    refine AWP.len 60 rfl fun hlen1 => ?_
    (try rw [List.length_map] at hlen1)
    refine AWP.range (S := List UInt8 × Gn) (d.params) encZ (fun k s => (62, I .i64 (k : Nat)) :: [(14, S s.1)]) (fun k s => [(13, .cells [.dat (.str d.mod), .dat (.str d.name), .dat (.sl 1 (d.params.map encZ)), .dat (.int .i64 d.res)]), (1000000, mkB c s.2), (1000001, srcB s.2.s)]) [0, 2, 3, 60, 61] [] (fun k s => s = (argAt E env (headV d) g1 d.params k).2) ((d.mod ++ [58] ++ (d.name ++ [40]), g1)) (by simp only [go_sem, zA, zB, zC, zD, zE, zF, zG, reduceCtorEq, zH, zI, zJ, zK, zL, hg1s, hg1k]; exact Gh.to [] (by repeat (first | exact trivial | refine ⟨rfl, ?_⟩ | refine ⟨by (simp only [go_sem, zA, zB, zC, zD, zE, zF, zG, reduceCtorEq, zH, zI, zJ, zK, zL, List.length_append, List.length_map, List.length_cons, List.length_nil, Nat.zero_add]) <;> rfl, ?_⟩)) (by repeat (first | exact trivial | refine ⟨rfl, ?_⟩ | refine ⟨by (simp only [go_sem, zA, zB, zC, zD, zE, zF, zG, reduceCtorEq, zH, zI, zJ, zK, zL, List.length_append, List.length_map, List.length_cons, List.length_nil, Nat.zero_add]) <;> rfl, ?_⟩)) rfl rfl rfl) ?_ ?_ ?_
    · rw [hhd]; rfl
    · intro k s p hlt hx hx' hbb hok
      simp only [go_sem, zA, zB, zC, zD, zE, zF, zG, reduceCtorEq, zH, zI, zJ, zK, zL]
      have hk := hfin k (by omega)
      have hk1 := hfst k (by omega)
      have hk2 := hsuc k p hx
      rw [← hok] at hk
      have hsl : s.1.length ≤ 202 + 2 * (L + 2) := by
        have : k * (L + 2) ≤ 2 * (L + 2) := Nat.mul_le_mul_right _ (by omega)
        omega
      have r0 := hE.run p env s.2 hk.1 he
      have l0 := hE.len p env s.2 hk.1 he
      have hst : (argAt E env (headV d) g1 d.params (k + 1)).2 = ((bif decide (k = 0) then s.1 else s.1 ++ [44, 32]) ++ (E p env s.2).1, (E p env s.2).2) := by rw [hk2]; simp only [argStep, ← hok, hk1]
      by_cases hk0 : k = 0
      · have hd0 : decide (0 < (k : Int)) = false := by rw [decide_eq_false_iff_not]; omega
        rw [show decide (k = 0) = true from by simp [hk0], cond_true] at hst
        repeat' (first | (simp only [go_sem, zA, zB, zC, zD, zE, zF, zG, reduceCtorEq, zH, zI, zJ, zK, zL, List.length_map, hbb, encZ, hd0, hD, Bx.puts]; all_goals fail_if_success guard_target =ₛ False) | (with_reducible first | ((first | refine seqVC_stepN rfl ?_ | refine AWP.seq ?_ | refine AWP.seqR (by kernel_rfl) ?_); intro K hK) | ((first | refine hK _ _ _ ?_ | refine hK _ _ ?_ | refine hK _ ?_); clear hK K) | refine seqVC_nil ?_ | refine AWP.block ?_ | (refine AWP.cond (by with_unfolding_all rfl) ?_ ?_ <;> intro h <;> (try simp only [zM, zN] at h) <;> try exact absurd h (by decide)) | refine AWP.skip ?_ | refine AWP.ret ?_ | refine AWP.exit ?_ | refine ⟨by omega, encZ p, hx', ?_⟩ | refine ⟨encZ p, hx', ?_⟩ | (refine ⟨(by first | omega | (simp only [List.length_append, List.length_map, List.length_take, List.length_drop, List.length_cons, List.length_nil, List.length_replicate]; omega) : _ ≤ _), ?_⟩) | refine ⟨by omega, by omega, ?_⟩) | ( refine Or.inr ⟨_, _, _, r0, ⟨rfl, rfl, trivial⟩, rfl, rfl, ?_⟩) | (with_reducible first | refine Or.inl ?_) | (clear hK K))
        all_goals (rw [wrap_succ hlt hlen1, hst]; exact Gh.to [] (by repeat (first | exact trivial | refine ⟨rfl, ?_⟩ | refine ⟨by (simp only [go_sem, zA, zB, zC, zD, zE, zF, zG, reduceCtorEq, zH, zI, zJ, zK, zL, List.length_append, List.length_map, List.length_cons, List.length_nil, Nat.zero_add]) <;> rfl, ?_⟩)) (by repeat (first | exact trivial | refine ⟨rfl, ?_⟩ | refine ⟨by (simp only [go_sem, zA, zB, zC, zD, zE, zF, zG, reduceCtorEq, zH, zI, zJ, zK, zL, List.length_append, List.length_map, List.length_cons, List.length_nil, Nat.zero_add]) <;> rfl, ?_⟩)) rfl rfl rfl)
      · have hd0 : decide (0 < (k : Int)) = true := by rw [decide_eq_true_eq]; omega
        rw [show decide (k = 0) = false from by simp [hk0], cond_false] at hst
        repeat' (first | (simp only [go_sem, zA, zB, zC, zD, zE, zF, zG, reduceCtorEq, zH, zI, zJ, zK, zL, List.length_map, hbb, encZ, hd0, hD, Bx.puts]; all_goals fail_if_success guard_target =ₛ False) | (with_reducible first | ((first | refine seqVC_stepN rfl ?_ | refine AWP.seq ?_ | refine AWP.seqR (by kernel_rfl) ?_); intro K hK) | ((first | refine hK _ _ _ ?_ | refine hK _ _ ?_ | refine hK _ ?_); clear hK K) | refine seqVC_nil ?_ | refine AWP.block ?_ | (refine AWP.cond (by with_unfolding_all rfl) ?_ ?_ <;> intro h <;> (try simp only [zM, zN] at h) <;> try exact absurd h (by decide)) | refine AWP.skip ?_ | refine AWP.ret ?_ | refine AWP.exit ?_ | refine ⟨by omega, encZ p, hx', ?_⟩ | refine ⟨encZ p, hx', ?_⟩ | (refine ⟨(by first | omega | (simp only [List.length_append, List.length_map, List.length_take, List.length_drop, List.length_cons, List.length_nil, List.length_replicate]; omega) : _ ≤ _), ?_⟩) | refine ⟨by omega, by omega, ?_⟩) | ( refine Or.inr ⟨_, _, _, r0, ⟨rfl, rfl, trivial⟩, rfl, rfl, ?_⟩) | (with_reducible first | refine Or.inl ?_) | (clear hK K))
        all_goals (rw [wrap_succ hlt hlen1, hst]; exact Gh.to [] (by repeat (first | exact trivial | refine ⟨rfl, ?_⟩ | refine ⟨by (simp only [go_sem, zA, zB, zC, zD, zE, zF, zG, reduceCtorEq, zH, zI, zJ, zK, zL, List.length_append, List.length_map, List.length_cons, List.length_nil, Nat.zero_add]) <;> rfl, ?_⟩)) (by repeat (first | exact trivial | refine ⟨rfl, ?_⟩ | refine ⟨by (simp only [go_sem, zA, zB, zC, zD, zE, zF, zG, reduceCtorEq, zH, zI, zJ, zK, zL, List.length_append, List.length_map, List.length_cons, List.length_nil, Nat.zero_add]) <;> rfl, ?_⟩)) rfl rfl rfl)
    · intro s hbb hok
      simp only [go_sem, zA, zB, zC, zD, zE, zF, zG, reduceCtorEq, zH, zI, zJ, zK, zL]
      have hk := hfin d.params.length (by omega)
      rw [← hok] at hk
      have hsl : s.1.length ≤ 202 + 2 * (L + 2) := by
        have : d.params.length * (L + 2) ≤ 2 * (L + 2) := Nat.mul_le_mul_right _ (by omega)
        omega
      repeat' (first | (simp only [go_sem, zA, zB, zC, zD, zE, zF, zG, reduceCtorEq, zH, zI, zJ, zK, zL, List.length_map, hbb]; all_goals fail_if_success guard_target =ₛ False) | (with_reducible first | ((first | refine seqVC_stepN rfl ?_ | refine AWP.seq ?_ | refine AWP.seqR (by kernel_rfl) ?_); intro K hK) | ((first | refine hK _ _ _ ?_ | refine hK _ _ ?_ | refine hK _ ?_); clear hK K) | refine seqVC_nil ?_ | refine AWP.block ?_ | (refine AWP.cond (by with_unfolding_all rfl) ?_ ?_ <;> intro h <;> (try simp only [zM, zN] at h) <;> try exact absurd h (by decide)) | refine AWP.skip ?_ | refine AWP.ret ?_ | refine AWP.exit ?_ | (refine ⟨(by first | omega | (simp only [List.length_append, List.length_map, List.length_take, List.length_drop, List.length_cons, List.length_nil, List.length_replicate]; omega) : _ ≤ _), ?_⟩) | refine ⟨by omega, by omega, ?_⟩ | refine Or.inl ?_) | (clear hK K))
      have hcv : callV c E sort env g = (s.1 ++ [41], s.2) := by unfold callV callW; rw [hdd, hg1, ← hok]
      rw [hcv]
      all_goals exact ⟨rfl, fun x hx => List.mem_cons_of_mem _ hx⟩
theorem cals_some (c : Cst) (hc : CstOk c) (D D1 : Int) (m L : Nat) (E : Mk) (hD : IntKind.i64.wrap (D - 1) = D1) (hE : Good c D1 m L E) (hL : L ≤ 1000000) (g : Gn) (hg : g.s.ok) (sort : Int) (env : List NamD) (he : EOk m env) (hn : 0 < (calsV c.calls sort).length) : PCB Tryd.prog 78 [Sp 1000000, I .i64 sort, I .i64 D, Envt env] (gB c g) (.tup [S (callV c E sort env g).1, .one (.dat (.bool true))]) (gB c (callV c E sort env g).2) := by
  cases hmd : decide ((pickV (calsV c.calls sort) g).mod = []) with
  | true => exact cals_own c hc D D1 m L E hD hE hL g hg sort env he hn hmd
  | false => exact cals_far c hc D D1 m L E hD hE hL g hg sort env he hn hmd
end Go.Proofs.YtogponhonjiidaaDoor
