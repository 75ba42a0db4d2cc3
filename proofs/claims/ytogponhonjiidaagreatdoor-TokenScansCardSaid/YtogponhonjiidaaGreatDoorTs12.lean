/- A part of the proof: lemmas about the walk of the program and about plain integers and lists. No conditions beyond those that each lemma states. -/
import Derived.Test.YtogponhonjiidaaGreatDoorTs11
import Derived.Test.YtogponhonjiidaaGreatDoorTs6
import Derived.Test.YtogponhonjiidaaGreatDoorTs4
import Derived.Test.YtogponhonjiidaaGreatDoorTs8
set_option linter.unusedSimpArgs false
set_option linter.unusedVariables false
set_option maxRecDepth 20000
set_option maxHeartbeats 16000000
namespace Go.Proofs.YtogponhonjiidaaGreatDoor
open Go Go.Sx
open Nat renaming reduceBEq → zA, reduceBNe → zB, reduceAdd → zC, reduceSub → zD, reduceMul → zE, reduceLeDiff → zF, reduceLT → zG, reduceEqDiff → zH
open Int renaming reduceToNat → zI, reduceLE → zJ, reduceLT → zK, reduceEq → zL
open Bool renaming not_eq_true' → zM, not_eq_false' → zN
/-- a clause under way -/
structure Cl where
 s : List UInt8
 env : List NamD
 guard : List UInt8
 g : Gn
def clPar (sp : Bool) (k : Nat) (p : Int) (t : Cl) : Cl :=
 bif sp && decide (k = 0) then ⟨t.s ++ (patternV p t.g).1, t.env, t.guard, (patternV p t.g).2⟩
 else ⟨(bif decide (k = 0) then t.s else t.s ++ [44, 32]) ++ freshV t.g, t.env ++ [⟨freshV t.g, p⟩],
  bif decide (t.guard = []) then (testV (freshV t.g) p (incK t.g)).1 else [40] ++ t.guard ++ [32, 97, 110, 100, 32] ++ (testV (freshV t.g) p (incK t.g)).1 ++ [41], (testV (freshV t.g) p (incK t.g)).2⟩
def clAt (sp : Bool) (d : CalD) (g : Gn) : Nat → Cl
 | 0 => ⟨d.name ++ [40], [], [], g⟩
 | k + 1 => clPar sp k (d.params.getD k 0) (clAt sp d g k)
def clBody (c : Cst) (d : CalD) (n : Nat) (t : Cl) : List UInt8 × Gn :=
 let g2 := bif decide (t.guard = []) then t.g else nxt t.g 5
 let s2 := bif decide (t.guard = []) then t.s ++ [41] else bif decide (0 < drawV t.g.s 5) then t.s ++ [41] ++ ([32, 119, 104, 101, 110, 32] ++ t.guard) else t.s ++ [41]
 (s2 ++ [32, 45, 62, 32] ++ (exprV c n d.res t.env g2).1, (exprV c n d.res t.env g2).2)
def clauseV (c : Cst) (sp : Bool) (d : CalD) (n : Nat) (g : Gn) : List UInt8 × Gn := clBody c d n (clAt sp d g d.params.length)
structure ClOk (k : Nat) (t : Cl) : Prop where
 s : t.s.length ≤ 110 + 60 * k
 env : t.env.length ≤ k
 txt : ∀ x ∈ t.env, x.text.length ≤ 200
 guard : t.guard.length ≤ 600 * k
 g : t.g.s.ok
theorem clPar_ok (sp : Bool) (k : Nat) (p : Int) (t : Cl) (h : ClOk k t) : ClOk (k + 1) (clPar sp k p t) := by
 obtain ⟨h1, h2, h3, h4, h5⟩ := h
 have hf := freshV_len t.g
 unfold clPar
 cases sp && decide (k = 0) with
 | true =>
  have hp := patternV_fine p t.g h5
  exact ⟨by have := hp.2; simp only [cond_true, List.length_append]; omega, by simp only [cond_true]; omega, h3, by simp only [cond_true]; omega, hp.1⟩
 | false =>
  have ht := testV_fine (freshV t.g) (by omega) p (incK t.g) h5
  have hb : (bif decide (k = 0) then t.s else t.s ++ [44, 32]).length ≤ t.s.length + 2 := by cases decide (k = 0) <;> simp
  refine ⟨by simp only [cond_false, List.length_append]; omega, by simp only [cond_false, List.length_append, List.length_cons, List.length_nil]; omega, fun x hx => ?_, ?_, ht.1⟩
  ·rcases List.mem_append.1 hx with hx | hx
   ·exact h3 x hx
   ·rw [List.mem_singleton.1 hx]; simp only; omega
  ·have h6 := ht.2
   simp only [cond_false]
   cases decide (t.guard = []) <;> simp only [cond_true, cond_false, List.length_append, List.length_cons, List.length_nil] <;> omega
theorem clAt_ok (sp : Bool) (d : CalD) (hd : CalOk d) (g : Gn) (hg : g.s.ok) : ∀ k, ClOk k (clAt sp d g k)
 | 0 => ⟨by have := hd.2.1; simp only [clAt, List.length_append, List.length_cons, List.length_nil]; omega, Nat.zero_le _, fun x hx => (by cases hx), Nat.zero_le _, hg⟩
 | k + 1 => clPar_ok sp k _ _ (clAt_ok sp d hd g hg k)
theorem clBody_fine {c : Cst} {n m : Nat} {L : Nat} {D : Int} (hE : Good c D m L (exprV c n)) (hm : 2 ≤ m) (d : CalD) (t : Cl) (h : ClOk 2 t) : Fine (L + 2000) (clBody c d n t) := by
 obtain ⟨h1, h2, h3, h4, h5⟩ := h
 have he : EOk m t.env := ⟨by omega, h3⟩
 unfold clBody
 cases decide (t.guard = []) with
 | true =>
  exact ⟨hE.ok _ _ _ h5 he, by have := hE.len d.res t.env t.g h5 he; simp only [cond_true, List.length_append, List.length_cons, List.length_nil]; omega⟩
 | false =>
  cases decide (0 < drawV t.g.s 5) <;> exact ⟨hE.ok _ _ _ (ok_nxt h5 5) he, by have := hE.len d.res t.env (nxt t.g 5) (ok_nxt h5 5) he; simp only [cond_true, cond_false, List.length_append, List.length_cons, List.length_nil]; omega⟩
theorem ClOk.mono {k j : Nat} {t : Cl} (h : ClOk k t) (hkj : k ≤ j) : ClOk j t := ⟨by have := h.s; omega, by have := h.env; omega, h.txt, by have := h.guard; omega, h.g⟩
theorem clauseS_c (c : Cst) (n m L : Nat) (hE : Good c (n : Int) m L (exprV c n)) (hm : 2 ≤ m) (hL : L ≤ 1000000) (hn : n ≤ 10) (g : Gn) (hg : g.s.ok) (d : CalD) (hd : CalOk d) : PCB Tryz.prog 28 [Sp 1000000, .st (encCal d), I .i64 (n : Int), Bo true] (gB c g) (S (clauseV c true d n g).1) (gB c (clauseV c true d n g).2) := by
 have hmax : 10000000 ≤ maxLen := by unfold maxLen; omega
 have hca := clAt_ok true d hd g hg
 have hpl := hd.2.2
 have hnl := hd.2.1
 unfold clauseV
 refine PCB.of_body Tryz.func28 rfl (by decide) Tryz.ntmps28 Tryz.results28 rfl rfl rfl ?_ rfl rfl
 unfold encCal
 repeat' (first | (simp only [go_sem, zA, zB, zC, zD, zE, zF, zG, reduceCtorEq, zH, zI, zJ, zK, zL, List.length_map]; all_goals fail_if_success guard_target =ₛ False) | (with_reducible first | ((first | refine seqVC_stepN rfl ?_ | refine seqVC_stepG rfl (by with_unfolding_all rfl) ?_ | refine AWP.seq ?_ | refine AWP.seqR (by kernel_rfl) ?_); intro K hK) | ((first | refine hK _ _ _ ?_ | refine hK _ _ ?_ | refine hK _ ?_); clear hK K) | refine seqVC_nil ?_ | refine AWP.block ?_ | (refine AWP.cond (by with_unfolding_all rfl) ?_ ?_ <;> intro h <;> (try simp only [zM, zN] at h) <;> try exact absurd h (by decide)) | refine AWP.skip ?_ | refine AWP.ret ?_ | refine AWP.exit ?_ | (refine ⟨fun h => ?_, fun h => ?_⟩ <;> (try simp only [zM, zN] at h) <;> try simp only [h]) | (refine ⟨(by first | omega | (simp only [List.length_append, List.length_map, List.length_take, List.length_drop, List.length_cons, List.length_nil, List.length_replicate]; omega) : _ ≤ _), ?_⟩) | refine ⟨by omega, by omega, ?_⟩ | refine Or.inl ?_) | (clear hK K))
 refine AWP.gh (Gh.nilrow 10 900 rfl rfl rfl (by simp [Bx.fresh, Cell.freshs, Cell.fresh])) ?_
 refine AWP.len 20 rfl fun hlen0 => ?_
 (try rw [List.length_map] at hlen0)
 refine AWP.range (S := Cl) (d.params) encZ (fun k t => (22, I .i64 (k : Nat)) :: [(9, S t.s), (10, .one (.own 900 t.env.length)), (11, S t.guard)]) (fun k t => [(900, .row 2 (t.env.map encNam)), (5, .cells [.dat (.str d.mod), .dat (.str d.name), .dat (.sl 1 (d.params.map encZ)), .dat (.int .i64 d.res)]), (1000000, mkB c t.g), (1000001, srcB t.g.s)]) [0, 2, 3, 5, 20, 21] [] (fun k t => t = clAt true d g k) (⟨d.name ++ [40], [], [], g⟩) (by simp only [go_sem, zA, zB, zC, zD, zE, zF, zG, reduceCtorEq, zH, zI, zJ, zK, zL]; exact Gh.to [] (by repeat (first | exact trivial | refine ⟨rfl, ?_⟩ | refine ⟨by (simp only [go_sem, zA, zB, zC, zD, zE, zF, zG, reduceCtorEq, zH, zI, zJ, zK, zL, List.length_append, List.length_map, List.length_cons, List.length_nil, Nat.zero_add]) <;> rfl, ?_⟩)) (by repeat (first | exact trivial | refine ⟨rfl, ?_⟩ | refine ⟨by (simp only [go_sem, zA, zB, zC, zD, zE, zF, zG, reduceCtorEq, zH, zI, zJ, zK, zL, List.length_append, List.length_map, List.length_cons, List.length_nil, Nat.zero_add]) <;> rfl, ?_⟩)) rfl rfl rfl) ?_ ?_ ?_
 ·rfl
 ·intro k t p hlt hx hx' hbb hok
  simp only [go_sem, zA, zB, zC, zD, zE, zF, zG, reduceCtorEq, zH, zI, zJ, zK, zL]
  have hok2 := hca k
  have hsuc : clAt true d g (k + 1) = clPar true k p t := by rw [hok]; show clPar true k (d.params.getD k 0) _ = _; rw [List.getD_eq_getElem?_getD, hx]; rfl
  rw [← hok] at hok2
  obtain ⟨h1, h2, h3, h4, h5⟩ := hok2
  have hf := freshV_len t.g
  have htf := testV_fine (freshV t.g) (by omega) p (incK t.g) h5
  have htl := htf.2
  have htc := test_c c (incK t.g) h5 (freshV t.g) (by omega) p
  have hpf := (patternV_fine p t.g h5).2
  by_cases hk0 : k = 0
  ·have hd0 : decide (0 < (k : Int)) = false := by rw [decide_eq_false_iff_not]; omega
   have hde : decide ((k : Int) = 0) = true := by rw [decide_eq_true_eq]; omega
   have hcp : clPar true k p t = ⟨t.s ++ (patternV p t.g).1, t.env, t.guard, (patternV p t.g).2⟩ := by unfold clPar; rw [show decide (k = 0) = true from by simp [hk0]]; rfl
   rw [hcp] at hsuc
   repeat' (first | (simp only [go_sem, zA, zB, zC, zD, zE, zF, zG, reduceCtorEq, zH, zI, zJ, zK, zL, List.length_map, hbb, encZ, hd0, hde, Bx.puts]; all_goals fail_if_success guard_target =ₛ False) | (with_reducible first | ((first | refine seqVC_stepN rfl ?_ | refine seqVC_stepG rfl (by with_unfolding_all rfl) ?_ | refine AWP.seq ?_ | refine AWP.seqR (by kernel_rfl) ?_); intro K hK) | ((first | refine hK _ _ _ ?_ | refine hK _ _ ?_ | refine hK _ ?_); clear hK K) | refine seqVC_nil ?_ | refine AWP.block ?_ | (refine AWP.cond (by with_unfolding_all rfl) ?_ ?_ <;> intro h <;> (try simp only [zM, zN] at h) <;> try exact absurd h (by decide)) | refine AWP.skip ?_ | refine AWP.ret ?_ | refine AWP.exit ?_ | (refine ⟨fun h => ?_, fun h => ?_⟩ <;> (try simp only [zM, zN] at h) <;> try simp only [h]) | refine ⟨by omega, encZ p, hx', ?_⟩ | refine ⟨encZ p, hx', ?_⟩ | (refine ⟨(by first | omega | (simp only [List.length_append, List.length_map, List.length_take, List.length_drop, List.length_cons, List.length_nil, List.length_replicate]; omega) : _ ≤ _), ?_⟩) | refine ⟨by omega, by omega, ?_⟩) | ( refine Or.inr ⟨_, _, _, pattern_c c t.g h5 p, ⟨rfl, rfl, trivial⟩, rfl, rfl, ?_⟩) | (with_reducible first | refine Or.inl ?_) | (clear hK K))
   all_goals (rw [wrap_succ hlt hlen0, hsuc]; exact Gh.to [] (by repeat (first | exact trivial | refine ⟨rfl, ?_⟩ | refine ⟨by (simp only [go_sem, zA, zB, zC, zD, zE, zF, zG, reduceCtorEq, zH, zI, zJ, zK, zL, List.length_append, List.length_map, List.length_cons, List.length_nil, Nat.zero_add]) <;> rfl, ?_⟩)) (by repeat (first | exact trivial | refine ⟨rfl, ?_⟩ | refine ⟨by (simp only [go_sem, zA, zB, zC, zD, zE, zF, zG, reduceCtorEq, zH, zI, zJ, zK, zL, List.length_append, List.length_map, List.length_cons, List.length_nil, Nat.zero_add]) <;> rfl, ?_⟩)) rfl rfl rfl)
  ·have hd0 : decide (0 < (k : Int)) = true := by rw [decide_eq_true_eq]; omega
   have hde : decide ((k : Int) = 0) = false := by rw [decide_eq_false_iff_not]; omega
   have hcp : clPar true k p t = ⟨t.s ++ [44, 32] ++ freshV t.g, t.env ++ [⟨freshV t.g, p⟩], bif decide (t.guard = []) then (testV (freshV t.g) p (incK t.g)).1 else [40] ++ t.guard ++ [32, 97, 110, 100, 32] ++ (testV (freshV t.g) p (incK t.g)).1 ++ [41], (testV (freshV t.g) p (incK t.g)).2⟩ := by unfold clPar; rw [show decide (k = 0) = false from by simp [hk0], Bool.and_false]; rfl
   rw [hcp] at hsuc
   cases hgd : decide (t.guard = []) with
   | true =>
    rw [hgd, cond_true] at hsuc
    repeat' (first | (simp only [go_sem, zA, zB, zC, zD, zE, zF, zG, reduceCtorEq, zH, zI, zJ, zK, zL, List.length_map, hbb, encZ, hd0, hde, hgd, nam_snoc, Bx.puts]; all_goals fail_if_success guard_target =ₛ False) | (with_reducible first | ((first | refine seqVC_stepN rfl ?_ | refine seqVC_stepG rfl (by with_unfolding_all rfl) ?_ | refine AWP.seq ?_ | refine AWP.seqR (by kernel_rfl) ?_); intro K hK) | ((first | refine hK _ _ _ ?_ | refine hK _ _ ?_ | refine hK _ ?_); clear hK K) | refine seqVC_nil ?_ | refine AWP.block ?_ | (refine AWP.cond (by with_unfolding_all rfl) ?_ ?_ <;> intro h <;> (try simp only [zM, zN] at h) <;> try exact absurd h (by decide)) | refine AWP.skip ?_ | refine AWP.ret ?_ | refine AWP.exit ?_ | (refine ⟨fun h => ?_, fun h => ?_⟩ <;> (try simp only [zM, zN] at h) <;> try simp only [h]) | refine ⟨by omega, encZ p, hx', ?_⟩ | refine ⟨encZ p, hx', ?_⟩ | refine ⟨(by omega : _ ≤ _), ?_⟩ | refine ⟨(by omega : _ ≤ _), (by omega : _ ≤ _), ?_⟩ | (refine ⟨(by first | omega | (simp only [List.length_append, List.length_map, List.length_take, List.length_drop, List.length_cons, List.length_nil, List.length_replicate]; omega) : _ ≤ _), ?_⟩) | refine ⟨by omega, by omega, ?_⟩) | ( refine Or.inr ⟨_, _, _, fresh_c c t.g, ⟨rfl, rfl, trivial⟩, rfl, rfl, ?_⟩) | ( refine Or.inr ⟨_, _, _, htc, ⟨rfl, rfl, trivial⟩, rfl, rfl, ?_⟩) | (with_reducible first | refine Or.inl ?_) | (clear hK K))
    all_goals (rw [wrap_succ hlt hlen0, hsuc]; exact Gh.to [(900, 48)] (by repeat (first | exact trivial | refine ⟨rfl, ?_⟩ | refine ⟨by (simp only [go_sem, zA, zB, zC, zD, zE, zF, zG, reduceCtorEq, zH, zI, zJ, zK, zL, List.length_append, List.length_map, List.length_cons, List.length_nil, Nat.zero_add]) <;> rfl, ?_⟩)) (by repeat (first | exact trivial | refine ⟨rfl, ?_⟩ | refine ⟨by (simp only [go_sem, zA, zB, zC, zD, zE, zF, zG, reduceCtorEq, zH, zI, zJ, zK, zL, List.length_append, List.length_map, List.length_cons, List.length_nil, Nat.zero_add]) <;> rfl, ?_⟩)) rfl rfl rfl)
   | false =>
    rw [hgd, cond_false] at hsuc
    repeat' (first | (simp only [go_sem, zA, zB, zC, zD, zE, zF, zG, reduceCtorEq, zH, zI, zJ, zK, zL, List.length_map, hbb, encZ, hd0, hde, hgd, nam_snoc, Bx.puts]; all_goals fail_if_success guard_target =ₛ False) | (with_reducible first | ((first | refine seqVC_stepN rfl ?_ | refine seqVC_stepG rfl (by with_unfolding_all rfl) ?_ | refine AWP.seq ?_ | refine AWP.seqR (by kernel_rfl) ?_); intro K hK) | ((first | refine hK _ _ _ ?_ | refine hK _ _ ?_ | refine hK _ ?_); clear hK K) | refine seqVC_nil ?_ | refine AWP.block ?_ | (refine AWP.cond (by with_unfolding_all rfl) ?_ ?_ <;> intro h <;> (try simp only [zM, zN] at h) <;> try exact absurd h (by decide)) | refine AWP.skip ?_ | refine AWP.ret ?_ | refine AWP.exit ?_ | (refine ⟨fun h => ?_, fun h => ?_⟩ <;> (try simp only [zM, zN] at h) <;> try simp only [h]) | refine ⟨by omega, encZ p, hx', ?_⟩ | refine ⟨encZ p, hx', ?_⟩ | refine ⟨(by omega : _ ≤ _), ?_⟩ | refine ⟨(by omega : _ ≤ _), (by omega : _ ≤ _), ?_⟩ | (refine ⟨(by first | omega | (simp only [List.length_append, List.length_map, List.length_take, List.length_drop, List.length_cons, List.length_nil, List.length_replicate]; omega) : _ ≤ _), ?_⟩) | refine ⟨by omega, by omega, ?_⟩) | ( refine Or.inr ⟨_, _, _, fresh_c c t.g, ⟨rfl, rfl, trivial⟩, rfl, rfl, ?_⟩) | ( refine Or.inr ⟨_, _, _, htc, ⟨rfl, rfl, trivial⟩, rfl, rfl, ?_⟩) | (with_reducible first | refine Or.inl ?_) | (clear hK K))
    all_goals (rw [wrap_succ hlt hlen0, hsuc]; exact Gh.to [(900, 48)] (by repeat (first | exact trivial | refine ⟨rfl, ?_⟩ | refine ⟨by (simp only [go_sem, zA, zB, zC, zD, zE, zF, zG, reduceCtorEq, zH, zI, zJ, zK, zL, List.length_append, List.length_map, List.length_cons, List.length_nil, Nat.zero_add]) <;> rfl, ?_⟩)) (by repeat (first | exact trivial | refine ⟨rfl, ?_⟩ | refine ⟨by (simp only [go_sem, zA, zB, zC, zD, zE, zF, zG, reduceCtorEq, zH, zI, zJ, zK, zL, List.length_append, List.length_map, List.length_cons, List.length_nil, Nat.zero_add]) <;> rfl, ?_⟩)) rfl rfl rfl)
 ·intro t hbb hok
  simp only [go_sem, zA, zB, zC, zD, zE, zF, zG, reduceCtorEq, zH, zI, zJ, zK, zL]
  have hok2 := (hca d.params.length).mono hpl
  rw [← hok] at hok2
  obtain ⟨h1, h2, h3, h4, h5⟩ := hok2
  have he : EOk m t.env := ⟨by omega, h3⟩
  refine AWP.gh (Gh.freeze 900 rfl rfl (by simp only [go_sem, zA, zB, zC, zD, zE, zF, zG, reduceCtorEq, zH, zI, zJ, zK, zL, List.length_map]) (by simp only [go_sem, zA, zB, zC, zD, zE, zF, zG, reduceCtorEq, zH, zI, zJ, zK, zL, List.length_map])) ?_
  simp only [go_sem, zA, zB, zC, zD, zE, zF, zG, reduceCtorEq, zH, zI, zJ, zK, zL, List.length_map]
  cases hgd : decide (t.guard = []) with
  | true =>
   have r0 := hE.run d.res t.env t.g h5 he
   have l0 := hE.len d.res t.env t.g h5 he
   have hbody : clBody c d n t = (t.s ++ [41] ++ [32, 45, 62, 32] ++ (exprV c n d.res t.env t.g).1, (exprV c n d.res t.env t.g).2) := by unfold clBody; rw [hgd]; rfl
   repeat' (first | (simp only [go_sem, zA, zB, zC, zD, zE, zF, zG, reduceCtorEq, zH, zI, zJ, zK, zL, List.length_map, hbb, hgd, Bx.puts]; all_goals fail_if_success guard_target =ₛ False) | (with_reducible first | ((first | refine seqVC_stepN rfl ?_ | refine seqVC_stepG rfl (by with_unfolding_all rfl) ?_ | refine AWP.seq ?_ | refine AWP.seqR (by kernel_rfl) ?_); intro K hK) | ((first | refine hK _ _ _ ?_ | refine hK _ _ ?_ | refine hK _ ?_); clear hK K) | refine seqVC_nil ?_ | refine AWP.block ?_ | (refine AWP.cond (by with_unfolding_all rfl) ?_ ?_ <;> intro h <;> (try simp only [zM, zN] at h) <;> try exact absurd h (by decide)) | refine AWP.skip ?_ | refine AWP.ret ?_ | refine AWP.exit ?_ | (refine ⟨fun h => ?_, fun h => ?_⟩ <;> (try simp only [zM, zN] at h) <;> try simp only [h]) | (refine ⟨(by first | omega | (simp only [List.length_append, List.length_map, List.length_take, List.length_drop, List.length_cons, List.length_nil, List.length_replicate]; omega) : _ ≤ _), ?_⟩) | refine ⟨by omega, by omega, ?_⟩) | (refine ⟨1000001, _, _, _, draw_k 1000001 t.g.s h5 5 (by omega), rfl, ?_⟩) | ( refine Or.inr ⟨_, _, _, r0, ⟨rfl, rfl, trivial⟩, rfl, rfl, ?_⟩) | (with_reducible first | refine Or.inl ?_) | (clear hK K))
   all_goals (rw [← hok, hbody]; exact ⟨rfl, fun x hx => List.mem_cons_of_mem _ hx⟩)
  | false =>
   have r0 := hE.run d.res t.env (nxt t.g 5) (ok_nxt h5 5) he
   have l0 := hE.len d.res t.env (nxt t.g 5) (ok_nxt h5 5) he
   cases hwh : decide (0 < drawV t.g.s 5) with
   | true =>
    have hbody : clBody c d n t = (t.s ++ [41] ++ ([32, 119, 104, 101, 110, 32] ++ t.guard) ++ [32, 45, 62, 32] ++ (exprV c n d.res t.env (nxt t.g 5)).1, (exprV c n d.res t.env (nxt t.g 5)).2) := by unfold clBody; rw [hgd, hwh]; rfl
    repeat' (first | (simp only [go_sem, zA, zB, zC, zD, zE, zF, zG, reduceCtorEq, zH, zI, zJ, zK, zL, List.length_map, hbb, hgd, hwh, Bx.puts]; all_goals fail_if_success guard_target =ₛ False) | (with_reducible first | ((first | refine seqVC_stepN rfl ?_ | refine seqVC_stepG rfl (by with_unfolding_all rfl) ?_ | refine AWP.seq ?_ | refine AWP.seqR (by kernel_rfl) ?_); intro K hK) | ((first | refine hK _ _ _ ?_ | refine hK _ _ ?_ | refine hK _ ?_); clear hK K) | refine seqVC_nil ?_ | refine AWP.block ?_ | (refine AWP.cond (by with_unfolding_all rfl) ?_ ?_ <;> intro h <;> (try simp only [zM, zN] at h) <;> try exact absurd h (by decide)) | refine AWP.skip ?_ | refine AWP.ret ?_ | refine AWP.exit ?_ | (refine ⟨fun h => ?_, fun h => ?_⟩ <;> (try simp only [zM, zN] at h) <;> try simp only [h]) | (refine ⟨(by first | omega | (simp only [List.length_append, List.length_map, List.length_take, List.length_drop, List.length_cons, List.length_nil, List.length_replicate]; omega) : _ ≤ _), ?_⟩) | refine ⟨by omega, by omega, ?_⟩) | (refine ⟨1000001, _, _, _, draw_k 1000001 t.g.s h5 5 (by omega), rfl, ?_⟩) | ( refine Or.inr ⟨_, _, _, r0, ⟨rfl, rfl, trivial⟩, rfl, rfl, ?_⟩) | (with_reducible first | refine Or.inl ?_) | (clear hK K))
    all_goals (rw [← hok, hbody]; exact ⟨rfl, fun x hx => List.mem_cons_of_mem _ hx⟩)
   | false =>
    have hbody : clBody c d n t = (t.s ++ [41] ++ [32, 45, 62, 32] ++ (exprV c n d.res t.env (nxt t.g 5)).1, (exprV c n d.res t.env (nxt t.g 5)).2) := by unfold clBody; rw [hgd, hwh]; rfl
    repeat' (first | (simp only [go_sem, zA, zB, zC, zD, zE, zF, zG, reduceCtorEq, zH, zI, zJ, zK, zL, List.length_map, hbb, hgd, hwh, Bx.puts]; all_goals fail_if_success guard_target =ₛ False) | (with_reducible first | ((first | refine seqVC_stepN rfl ?_ | refine seqVC_stepG rfl (by with_unfolding_all rfl) ?_ | refine AWP.seq ?_ | refine AWP.seqR (by kernel_rfl) ?_); intro K hK) | ((first | refine hK _ _ _ ?_ | refine hK _ _ ?_ | refine hK _ ?_); clear hK K) | refine seqVC_nil ?_ | refine AWP.block ?_ | (refine AWP.cond (by with_unfolding_all rfl) ?_ ?_ <;> intro h <;> (try simp only [zM, zN] at h) <;> try exact absurd h (by decide)) | refine AWP.skip ?_ | refine AWP.ret ?_ | refine AWP.exit ?_ | (refine ⟨fun h => ?_, fun h => ?_⟩ <;> (try simp only [zM, zN] at h) <;> try simp only [h]) | (refine ⟨(by first | omega | (simp only [List.length_append, List.length_map, List.length_take, List.length_drop, List.length_cons, List.length_nil, List.length_replicate]; omega) : _ ≤ _), ?_⟩) | refine ⟨by omega, by omega, ?_⟩) | (refine ⟨1000001, _, _, _, draw_k 1000001 t.g.s h5 5 (by omega), rfl, ?_⟩) | ( refine Or.inr ⟨_, _, _, r0, ⟨rfl, rfl, trivial⟩, rfl, rfl, ?_⟩) | (with_reducible first | refine Or.inl ?_) | (clear hK K))
    all_goals (rw [← hok, hbody]; exact ⟨rfl, fun x hx => List.mem_cons_of_mem _ hx⟩)
theorem clauseN_c (c : Cst) (n m L : Nat) (hE : Good c (n : Int) m L (exprV c n)) (hm : 2 ≤ m) (hL : L ≤ 1000000) (hn : n ≤ 10) (g : Gn) (hg : g.s.ok) (d : CalD) (hd : CalOk d) : PCB Tryz.prog 28 [Sp 1000000, .st (encCal d), I .i64 (n : Int), Bo false] (gB c g) (S (clauseV c false d n g).1) (gB c (clauseV c false d n g).2) := by
 have hmax : 10000000 ≤ maxLen := by unfold maxLen; omega
 have hca := clAt_ok false d hd g hg
 have hpl := hd.2.2
 have hnl := hd.2.1
 unfold clauseV
 refine PCB.of_body Tryz.func28 rfl (by decide) Tryz.ntmps28 Tryz.results28 rfl rfl rfl ?_ rfl rfl
 unfold encCal
 repeat' (first | (simp only [go_sem, zA, zB, zC, zD, zE, zF, zG, reduceCtorEq, zH, zI, zJ, zK, zL, List.length_map]; all_goals fail_if_success guard_target =ₛ False) | (with_reducible first | ((first | refine seqVC_stepN rfl ?_ | refine seqVC_stepG rfl (by with_unfolding_all rfl) ?_ | refine AWP.seq ?_ | refine AWP.seqR (by kernel_rfl) ?_); intro K hK) | ((first | refine hK _ _ _ ?_ | refine hK _ _ ?_ | refine hK _ ?_); clear hK K) | refine seqVC_nil ?_ | refine AWP.block ?_ | (refine AWP.cond (by with_unfolding_all rfl) ?_ ?_ <;> intro h <;> (try simp only [zM, zN] at h) <;> try exact absurd h (by decide)) | refine AWP.skip ?_ | refine AWP.ret ?_ | refine AWP.exit ?_ | (refine ⟨fun h => ?_, fun h => ?_⟩ <;> (try simp only [zM, zN] at h) <;> try simp only [h]) | (refine ⟨(by first | omega | (simp only [List.length_append, List.length_map, List.length_take, List.length_drop, List.length_cons, List.length_nil, List.length_replicate]; omega) : _ ≤ _), ?_⟩) | refine ⟨by omega, by omega, ?_⟩ | refine Or.inl ?_) | (clear hK K))
 refine AWP.gh (Gh.nilrow 10 900 rfl rfl rfl (by simp [Bx.fresh, Cell.freshs, Cell.fresh])) ?_
 refine AWP.len 20 rfl fun hlen0 => ?_
 (try rw [List.length_map] at hlen0)
 refine AWP.range (S := Cl) (d.params) encZ (fun k t => (22, I .i64 (k : Nat)) :: [(9, S t.s), (10, .one (.own 900 t.env.length)), (11, S t.guard)]) (fun k t => [(900, .row 2 (t.env.map encNam)), (5, .cells [.dat (.str d.mod), .dat (.str d.name), .dat (.sl 1 (d.params.map encZ)), .dat (.int .i64 d.res)]), (1000000, mkB c t.g), (1000001, srcB t.g.s)]) [0, 2, 3, 5, 20, 21] [] (fun k t => t = clAt false d g k) (⟨d.name ++ [40], [], [], g⟩) (by simp only [go_sem, zA, zB, zC, zD, zE, zF, zG, reduceCtorEq, zH, zI, zJ, zK, zL]; exact Gh.to [] (by repeat (first | exact trivial | refine ⟨rfl, ?_⟩ | refine ⟨by (simp only [go_sem, zA, zB, zC, zD, zE, zF, zG, reduceCtorEq, zH, zI, zJ, zK, zL, List.length_append, List.length_map, List.length_cons, List.length_nil, Nat.zero_add]) <;> rfl, ?_⟩)) (by repeat (first | exact trivial | refine ⟨rfl, ?_⟩ | refine ⟨by (simp only [go_sem, zA, zB, zC, zD, zE, zF, zG, reduceCtorEq, zH, zI, zJ, zK, zL, List.length_append, List.length_map, List.length_cons, List.length_nil, Nat.zero_add]) <;> rfl, ?_⟩)) rfl rfl rfl) ?_ ?_ ?_
 ·rfl
 ·intro k t p hlt hx hx' hbb hok
  simp only [go_sem, zA, zB, zC, zD, zE, zF, zG, reduceCtorEq, zH, zI, zJ, zK, zL]
  have hok2 := hca k
  have hsuc : clAt false d g (k + 1) = clPar false k p t := by rw [hok]; show clPar false k (d.params.getD k 0) _ = _; rw [List.getD_eq_getElem?_getD, hx]; rfl
  rw [← hok] at hok2
  obtain ⟨h1, h2, h3, h4, h5⟩ := hok2
  have hf := freshV_len t.g
  have htf := testV_fine (freshV t.g) (by omega) p (incK t.g) h5
  have htl := htf.2
  have htc := test_c c (incK t.g) h5 (freshV t.g) (by omega) p
  have hpf := (patternV_fine p t.g h5).2
  by_cases hk0 : k = 0
  ·have hd0 : decide (0 < (k : Int)) = false := by rw [decide_eq_false_iff_not]; omega
   have hde : decide ((k : Int) = 0) = true := by rw [decide_eq_true_eq]; omega
   have hcp : clPar false k p t = ⟨t.s ++ freshV t.g, t.env ++ [⟨freshV t.g, p⟩], bif decide (t.guard = []) then (testV (freshV t.g) p (incK t.g)).1 else [40] ++ t.guard ++ [32, 97, 110, 100, 32] ++ (testV (freshV t.g) p (incK t.g)).1 ++ [41], (testV (freshV t.g) p (incK t.g)).2⟩ := by unfold clPar; rw [show decide (k = 0) = true from by simp [hk0]]; rfl
   rw [hcp] at hsuc
   cases hgd : decide (t.guard = []) with
   | true =>
    rw [hgd, cond_true] at hsuc
    repeat' (first | (simp only [go_sem, zA, zB, zC, zD, zE, zF, zG, reduceCtorEq, zH, zI, zJ, zK, zL, List.length_map, hbb, encZ, hd0, hde, hgd, nam_snoc, Bx.puts]; all_goals fail_if_success guard_target =ₛ False) | (with_reducible first | ((first | refine seqVC_stepN rfl ?_ | refine seqVC_stepG rfl (by with_unfolding_all rfl) ?_ | refine AWP.seq ?_ | refine AWP.seqR (by kernel_rfl) ?_); intro K hK) | ((first | refine hK _ _ _ ?_ | refine hK _ _ ?_ | refine hK _ ?_); clear hK K) | refine seqVC_nil ?_ | refine AWP.block ?_ | (refine AWP.cond (by with_unfolding_all rfl) ?_ ?_ <;> intro h <;> (try simp only [zM, zN] at h) <;> try exact absurd h (by decide)) | refine AWP.skip ?_ | refine AWP.ret ?_ | refine AWP.exit ?_ | (refine ⟨fun h => ?_, fun h => ?_⟩ <;> (try simp only [zM, zN] at h) <;> try simp only [h]) | refine ⟨by omega, encZ p, hx', ?_⟩ | refine ⟨encZ p, hx', ?_⟩ | refine ⟨(by omega : _ ≤ _), ?_⟩ | refine ⟨(by omega : _ ≤ _), (by omega : _ ≤ _), ?_⟩ | (refine ⟨(by first | omega | (simp only [List.length_append, List.length_map, List.length_take, List.length_drop, List.length_cons, List.length_nil, List.length_replicate]; omega) : _ ≤ _), ?_⟩) | refine ⟨by omega, by omega, ?_⟩) | ( refine Or.inr ⟨_, _, _, fresh_c c t.g, ⟨rfl, rfl, trivial⟩, rfl, rfl, ?_⟩) | ( refine Or.inr ⟨_, _, _, htc, ⟨rfl, rfl, trivial⟩, rfl, rfl, ?_⟩) | (with_reducible first | refine Or.inl ?_) | (clear hK K))
    all_goals (rw [wrap_succ hlt hlen0, hsuc]; exact Gh.to [(900, 48)] (by repeat (first | exact trivial | refine ⟨rfl, ?_⟩ | refine ⟨by (simp only [go_sem, zA, zB, zC, zD, zE, zF, zG, reduceCtorEq, zH, zI, zJ, zK, zL, List.length_append, List.length_map, List.length_cons, List.length_nil, Nat.zero_add]) <;> rfl, ?_⟩)) (by repeat (first | exact trivial | refine ⟨rfl, ?_⟩ | refine ⟨by (simp only [go_sem, zA, zB, zC, zD, zE, zF, zG, reduceCtorEq, zH, zI, zJ, zK, zL, List.length_append, List.length_map, List.length_cons, List.length_nil, Nat.zero_add]) <;> rfl, ?_⟩)) rfl rfl rfl)
   | false =>
    rw [hgd, cond_false] at hsuc
    repeat' (first | (simp only [go_sem, zA, zB, zC, zD, zE, zF, zG, reduceCtorEq, zH, zI, zJ, zK, zL, List.length_map, hbb, encZ, hd0, hde, hgd, nam_snoc, Bx.puts]; all_goals fail_if_success guard_target =ₛ False) | (with_reducible first | ((first | refine seqVC_stepN rfl ?_ | refine seqVC_stepG rfl (by with_unfolding_all rfl) ?_ | refine AWP.seq ?_ | refine AWP.seqR (by kernel_rfl) ?_); intro K hK) | ((first | refine hK _ _ _ ?_ | refine hK _ _ ?_ | refine hK _ ?_); clear hK K) | refine seqVC_nil ?_ | refine AWP.block ?_ | (refine AWP.cond (by with_unfolding_all rfl) ?_ ?_ <;> intro h <;> (try simp only [zM, zN] at h) <;> try exact absurd h (by decide)) | refine AWP.skip ?_ | refine AWP.ret ?_ | refine AWP.exit ?_ | (refine ⟨fun h => ?_, fun h => ?_⟩ <;> (try simp only [zM, zN] at h) <;> try simp only [h]) | refine ⟨by omega, encZ p, hx', ?_⟩ | refine ⟨encZ p, hx', ?_⟩ | refine ⟨(by omega : _ ≤ _), ?_⟩ | refine ⟨(by omega : _ ≤ _), (by omega : _ ≤ _), ?_⟩ | (refine ⟨(by first | omega | (simp only [List.length_append, List.length_map, List.length_take, List.length_drop, List.length_cons, List.length_nil, List.length_replicate]; omega) : _ ≤ _), ?_⟩) | refine ⟨by omega, by omega, ?_⟩) | ( refine Or.inr ⟨_, _, _, fresh_c c t.g, ⟨rfl, rfl, trivial⟩, rfl, rfl, ?_⟩) | ( refine Or.inr ⟨_, _, _, htc, ⟨rfl, rfl, trivial⟩, rfl, rfl, ?_⟩) | (with_reducible first | refine Or.inl ?_) | (clear hK K))
    all_goals (rw [wrap_succ hlt hlen0, hsuc]; exact Gh.to [(900, 48)] (by repeat (first | exact trivial | refine ⟨rfl, ?_⟩ | refine ⟨by (simp only [go_sem, zA, zB, zC, zD, zE, zF, zG, reduceCtorEq, zH, zI, zJ, zK, zL, List.length_append, List.length_map, List.length_cons, List.length_nil, Nat.zero_add]) <;> rfl, ?_⟩)) (by repeat (first | exact trivial | refine ⟨rfl, ?_⟩ | refine ⟨by (simp only [go_sem, zA, zB, zC, zD, zE, zF, zG, reduceCtorEq, zH, zI, zJ, zK, zL, List.length_append, List.length_map, List.length_cons, List.length_nil, Nat.zero_add]) <;> rfl, ?_⟩)) rfl rfl rfl)
  ·have hd0 : decide (0 < (k : Int)) = true := by rw [decide_eq_true_eq]; omega
   have hde : decide ((k : Int) = 0) = false := by rw [decide_eq_false_iff_not]; omega
   have hcp : clPar false k p t = ⟨t.s ++ [44, 32] ++ freshV t.g, t.env ++ [⟨freshV t.g, p⟩], bif decide (t.guard = []) then (testV (freshV t.g) p (incK t.g)).1 else [40] ++ t.guard ++ [32, 97, 110, 100, 32] ++ (testV (freshV t.g) p (incK t.g)).1 ++ [41], (testV (freshV t.g) p (incK t.g)).2⟩ := by unfold clPar; rw [show decide (k = 0) = false from by simp [hk0], Bool.and_false]; rfl
   rw [hcp] at hsuc
   cases hgd : decide (t.guard = []) with
   | true =>
    rw [hgd, cond_true] at hsuc
    repeat' (first | (simp only [go_sem, zA, zB, zC, zD, zE, zF, zG, reduceCtorEq, zH, zI, zJ, zK, zL, List.length_map, hbb, encZ, hd0, hde, hgd, nam_snoc, Bx.puts]; all_goals fail_if_success guard_target =ₛ False) | (with_reducible first | ((first | refine seqVC_stepN rfl ?_ | refine seqVC_stepG rfl (by with_unfolding_all rfl) ?_ | refine AWP.seq ?_ | refine AWP.seqR (by kernel_rfl) ?_); intro K hK) | ((first | refine hK _ _ _ ?_ | refine hK _ _ ?_ | refine hK _ ?_); clear hK K) | refine seqVC_nil ?_ | refine AWP.block ?_ | (refine AWP.cond (by with_unfolding_all rfl) ?_ ?_ <;> intro h <;> (try simp only [zM, zN] at h) <;> try exact absurd h (by decide)) | refine AWP.skip ?_ | refine AWP.ret ?_ | refine AWP.exit ?_ | (refine ⟨fun h => ?_, fun h => ?_⟩ <;> (try simp only [zM, zN] at h) <;> try simp only [h]) | refine ⟨by omega, encZ p, hx', ?_⟩ | refine ⟨encZ p, hx', ?_⟩ | refine ⟨(by omega : _ ≤ _), ?_⟩ | refine ⟨(by omega : _ ≤ _), (by omega : _ ≤ _), ?_⟩ | (refine ⟨(by first | omega | (simp only [List.length_append, List.length_map, List.length_take, List.length_drop, List.length_cons, List.length_nil, List.length_replicate]; omega) : _ ≤ _), ?_⟩) | refine ⟨by omega, by omega, ?_⟩) | ( refine Or.inr ⟨_, _, _, fresh_c c t.g, ⟨rfl, rfl, trivial⟩, rfl, rfl, ?_⟩) | ( refine Or.inr ⟨_, _, _, htc, ⟨rfl, rfl, trivial⟩, rfl, rfl, ?_⟩) | (with_reducible first | refine Or.inl ?_) | (clear hK K))
    all_goals (rw [wrap_succ hlt hlen0, hsuc]; exact Gh.to [(900, 48)] (by repeat (first | exact trivial | refine ⟨rfl, ?_⟩ | refine ⟨by (simp only [go_sem, zA, zB, zC, zD, zE, zF, zG, reduceCtorEq, zH, zI, zJ, zK, zL, List.length_append, List.length_map, List.length_cons, List.length_nil, Nat.zero_add]) <;> rfl, ?_⟩)) (by repeat (first | exact trivial | refine ⟨rfl, ?_⟩ | refine ⟨by (simp only [go_sem, zA, zB, zC, zD, zE, zF, zG, reduceCtorEq, zH, zI, zJ, zK, zL, List.length_append, List.length_map, List.length_cons, List.length_nil, Nat.zero_add]) <;> rfl, ?_⟩)) rfl rfl rfl)
   | false =>
    rw [hgd, cond_false] at hsuc
    repeat' (first | (simp only [go_sem, zA, zB, zC, zD, zE, zF, zG, reduceCtorEq, zH, zI, zJ, zK, zL, List.length_map, hbb, encZ, hd0, hde, hgd, nam_snoc, Bx.puts]; all_goals fail_if_success guard_target =ₛ False) | (with_reducible first | ((first | refine seqVC_stepN rfl ?_ | refine seqVC_stepG rfl (by with_unfolding_all rfl) ?_ | refine AWP.seq ?_ | refine AWP.seqR (by kernel_rfl) ?_); intro K hK) | ((first | refine hK _ _ _ ?_ | refine hK _ _ ?_ | refine hK _ ?_); clear hK K) | refine seqVC_nil ?_ | refine AWP.block ?_ | (refine AWP.cond (by with_unfolding_all rfl) ?_ ?_ <;> intro h <;> (try simp only [zM, zN] at h) <;> try exact absurd h (by decide)) | refine AWP.skip ?_ | refine AWP.ret ?_ | refine AWP.exit ?_ | (refine ⟨fun h => ?_, fun h => ?_⟩ <;> (try simp only [zM, zN] at h) <;> try simp only [h]) | refine ⟨by omega, encZ p, hx', ?_⟩ | refine ⟨encZ p, hx', ?_⟩ | refine ⟨(by omega : _ ≤ _), ?_⟩ | refine ⟨(by omega : _ ≤ _), (by omega : _ ≤ _), ?_⟩ | (refine ⟨(by first | omega | (simp only [List.length_append, List.length_map, List.length_take, List.length_drop, List.length_cons, List.length_nil, List.length_replicate]; omega) : _ ≤ _), ?_⟩) | refine ⟨by omega, by omega, ?_⟩) | ( refine Or.inr ⟨_, _, _, fresh_c c t.g, ⟨rfl, rfl, trivial⟩, rfl, rfl, ?_⟩) | ( refine Or.inr ⟨_, _, _, htc, ⟨rfl, rfl, trivial⟩, rfl, rfl, ?_⟩) | (with_reducible first | refine Or.inl ?_) | (clear hK K))
    all_goals (rw [wrap_succ hlt hlen0, hsuc]; exact Gh.to [(900, 48)] (by repeat (first | exact trivial | refine ⟨rfl, ?_⟩ | refine ⟨by (simp only [go_sem, zA, zB, zC, zD, zE, zF, zG, reduceCtorEq, zH, zI, zJ, zK, zL, List.length_append, List.length_map, List.length_cons, List.length_nil, Nat.zero_add]) <;> rfl, ?_⟩)) (by repeat (first | exact trivial | refine ⟨rfl, ?_⟩ | refine ⟨by (simp only [go_sem, zA, zB, zC, zD, zE, zF, zG, reduceCtorEq, zH, zI, zJ, zK, zL, List.length_append, List.length_map, List.length_cons, List.length_nil, Nat.zero_add]) <;> rfl, ?_⟩)) rfl rfl rfl)
 ·intro t hbb hok
  simp only [go_sem, zA, zB, zC, zD, zE, zF, zG, reduceCtorEq, zH, zI, zJ, zK, zL]
  have hok2 := (hca d.params.length).mono hpl
  rw [← hok] at hok2
  obtain ⟨h1, h2, h3, h4, h5⟩ := hok2
  have he : EOk m t.env := ⟨by omega, h3⟩
  refine AWP.gh (Gh.freeze 900 rfl rfl (by simp only [go_sem, zA, zB, zC, zD, zE, zF, zG, reduceCtorEq, zH, zI, zJ, zK, zL, List.length_map]) (by simp only [go_sem, zA, zB, zC, zD, zE, zF, zG, reduceCtorEq, zH, zI, zJ, zK, zL, List.length_map])) ?_
  simp only [go_sem, zA, zB, zC, zD, zE, zF, zG, reduceCtorEq, zH, zI, zJ, zK, zL, List.length_map]
  cases hgd : decide (t.guard = []) with
  | true =>
   have r0 := hE.run d.res t.env t.g h5 he
   have l0 := hE.len d.res t.env t.g h5 he
   have hbody : clBody c d n t = (t.s ++ [41] ++ [32, 45, 62, 32] ++ (exprV c n d.res t.env t.g).1, (exprV c n d.res t.env t.g).2) := by unfold clBody; rw [hgd]; rfl
   repeat' (first | (simp only [go_sem, zA, zB, zC, zD, zE, zF, zG, reduceCtorEq, zH, zI, zJ, zK, zL, List.length_map, hbb, hgd, Bx.puts]; all_goals fail_if_success guard_target =ₛ False) | (with_reducible first | ((first | refine seqVC_stepN rfl ?_ | refine seqVC_stepG rfl (by with_unfolding_all rfl) ?_ | refine AWP.seq ?_ | refine AWP.seqR (by kernel_rfl) ?_); intro K hK) | ((first | refine hK _ _ _ ?_ | refine hK _ _ ?_ | refine hK _ ?_); clear hK K) | refine seqVC_nil ?_ | refine AWP.block ?_ | (refine AWP.cond (by with_unfolding_all rfl) ?_ ?_ <;> intro h <;> (try simp only [zM, zN] at h) <;> try exact absurd h (by decide)) | refine AWP.skip ?_ | refine AWP.ret ?_ | refine AWP.exit ?_ | (refine ⟨fun h => ?_, fun h => ?_⟩ <;> (try simp only [zM, zN] at h) <;> try simp only [h]) | (refine ⟨(by first | omega | (simp only [List.length_append, List.length_map, List.length_take, List.length_drop, List.length_cons, List.length_nil, List.length_replicate]; omega) : _ ≤ _), ?_⟩) | refine ⟨by omega, by omega, ?_⟩) | (refine ⟨1000001, _, _, _, draw_k 1000001 t.g.s h5 5 (by omega), rfl, ?_⟩) | ( refine Or.inr ⟨_, _, _, r0, ⟨rfl, rfl, trivial⟩, rfl, rfl, ?_⟩) | (with_reducible first | refine Or.inl ?_) | (clear hK K))
   all_goals (rw [← hok, hbody]; exact ⟨rfl, fun x hx => List.mem_cons_of_mem _ hx⟩)
  | false =>
   have r0 := hE.run d.res t.env (nxt t.g 5) (ok_nxt h5 5) he
   have l0 := hE.len d.res t.env (nxt t.g 5) (ok_nxt h5 5) he
   cases hwh : decide (0 < drawV t.g.s 5) with
   | true =>
    have hbody : clBody c d n t = (t.s ++ [41] ++ ([32, 119, 104, 101, 110, 32] ++ t.guard) ++ [32, 45, 62, 32] ++ (exprV c n d.res t.env (nxt t.g 5)).1, (exprV c n d.res t.env (nxt t.g 5)).2) := by unfold clBody; rw [hgd, hwh]; rfl
    repeat' (first | (simp only [go_sem, zA, zB, zC, zD, zE, zF, zG, reduceCtorEq, zH, zI, zJ, zK, zL, List.length_map, hbb, hgd, hwh, Bx.puts]; all_goals fail_if_success guard_target =ₛ False) | (with_reducible first | ((first | refine seqVC_stepN rfl ?_ | refine seqVC_stepG rfl (by with_unfolding_all rfl) ?_ | refine AWP.seq ?_ | refine AWP.seqR (by kernel_rfl) ?_); intro K hK) | ((first | refine hK _ _ _ ?_ | refine hK _ _ ?_ | refine hK _ ?_); clear hK K) | refine seqVC_nil ?_ | refine AWP.block ?_ | (refine AWP.cond (by with_unfolding_all rfl) ?_ ?_ <;> intro h <;> (try simp only [zM, zN] at h) <;> try exact absurd h (by decide)) | refine AWP.skip ?_ | refine AWP.ret ?_ | refine AWP.exit ?_ | (refine ⟨fun h => ?_, fun h => ?_⟩ <;> (try simp only [zM, zN] at h) <;> try simp only [h]) | (refine ⟨(by first | omega | (simp only [List.length_append, List.length_map, List.length_take, List.length_drop, List.length_cons, List.length_nil, List.length_replicate]; omega) : _ ≤ _), ?_⟩) | refine ⟨by omega, by omega, ?_⟩) | (refine ⟨1000001, _, _, _, draw_k 1000001 t.g.s h5 5 (by omega), rfl, ?_⟩) | ( refine Or.inr ⟨_, _, _, r0, ⟨rfl, rfl, trivial⟩, rfl, rfl, ?_⟩) | (with_reducible first | refine Or.inl ?_) | (clear hK K))
    all_goals (rw [← hok, hbody]; exact ⟨rfl, fun x hx => List.mem_cons_of_mem _ hx⟩)
   | false =>
    have hbody : clBody c d n t = (t.s ++ [41] ++ [32, 45, 62, 32] ++ (exprV c n d.res t.env (nxt t.g 5)).1, (exprV c n d.res t.env (nxt t.g 5)).2) := by unfold clBody; rw [hgd, hwh]; rfl
    repeat' (first | (simp only [go_sem, zA, zB, zC, zD, zE, zF, zG, reduceCtorEq, zH, zI, zJ, zK, zL, List.length_map, hbb, hgd, hwh, Bx.puts]; all_goals fail_if_success guard_target =ₛ False) | (with_reducible first | ((first | refine seqVC_stepN rfl ?_ | refine seqVC_stepG rfl (by with_unfolding_all rfl) ?_ | refine AWP.seq ?_ | refine AWP.seqR (by kernel_rfl) ?_); intro K hK) | ((first | refine hK _ _ _ ?_ | refine hK _ _ ?_ | refine hK _ ?_); clear hK K) | refine seqVC_nil ?_ | refine AWP.block ?_ | (refine AWP.cond (by with_unfolding_all rfl) ?_ ?_ <;> intro h <;> (try simp only [zM, zN] at h) <;> try exact absurd h (by decide)) | refine AWP.skip ?_ | refine AWP.ret ?_ | refine AWP.exit ?_ | (refine ⟨fun h => ?_, fun h => ?_⟩ <;> (try simp only [zM, zN] at h) <;> try simp only [h]) | (refine ⟨(by first | omega | (simp only [List.length_append, List.length_map, List.length_take, List.length_drop, List.length_cons, List.length_nil, List.length_replicate]; omega) : _ ≤ _), ?_⟩) | refine ⟨by omega, by omega, ?_⟩) | (refine ⟨1000001, _, _, _, draw_k 1000001 t.g.s h5 5 (by omega), rfl, ?_⟩) | ( refine Or.inr ⟨_, _, _, r0, ⟨rfl, rfl, trivial⟩, rfl, rfl, ?_⟩) | (with_reducible first | refine Or.inl ?_) | (clear hK K))
    all_goals (rw [← hok, hbody]; exact ⟨rfl, fun x hx => List.mem_cons_of_mem _ hx⟩)
def expV (d : CalD) : List UInt8 := d.name ++ [47] ++ Lib.itoa (d.params.length : Int)
theorem expV_len (d : CalD) (h : CalOk d) : (expV d).length ≤ 200 := by
 obtain ⟨h1, h2, h3⟩ := h
 have := itoa_len (n := (d.params.length : Int)) (by omega) (by omega)
 simp only [expV, List.length_append, List.length_cons, List.length_nil]; omega
def hdAt (l : List CalD) (s : List UInt8) (g : Gn) : Nat → List UInt8 × Gn
 | 0 => (s, g)
 | k + 1 =>
  let r := hdAt l s g k
  (bif decide (drawV r.2.s 3 = 0) then r.1 ++ headerV (l.getD k ⟨[], [], [], 0⟩) else r.1, nxt r.2 3)
/-- the clauses of a function -/
def fnV (c : Cst) (d : CalD) (g : Gn) : List UInt8 × Gn :=
 let n := (drawV g.s 3).toNat
 let g1 := nxt g 3
 bif decide (0 < (d.params.length : Int)) then
  bif decide (drawV g1.s 2 = 0) then
   ((clauseV c true d n (nxt g1 2)).1 ++ [59, 10] ++ ((clauseV c false d (n + 1) (clauseV c true d n (nxt g1 2)).2).1 ++ [46, 10]), (clauseV c false d (n + 1) (clauseV c true d n (nxt g1 2)).2).2)
  else ((clauseV c false d (n + 1) (nxt g1 2)).1 ++ [46, 10], (clauseV c false d (n + 1) (nxt g1 2)).2)
 else ((clauseV c false d (n + 1) g1).1 ++ [46, 10], (clauseV c false d (n + 1) g1).2)
def fnAt (c : Cst) (l : List CalD) (s : List UInt8) (g : Gn) : Nat → List UInt8 × Gn
 | 0 => (s, g)
 | k + 1 =>
  let r := fnAt c l s g k
  (r.1 ++ (fnV c (l.getD k ⟨[], [], [], 0⟩) r.2).1, (fnV c (l.getD k ⟨[], [], [], 0⟩) r.2).2)
def modL (g : Gn) : List CalD × Gn := calsAt [] (nxt g 3) (drawV g.s 3 + 1).toNat
def modC (c : Cst) (g : Gn) : Cst := { c with calls := (modL g).1 }
def modS (name : List UInt8) (g : Gn) : List UInt8 := [109, 111, 100, 117, 108, 101, 32] ++ name ++ [46, 10] ++ ([101, 120, 112, 111, 114, 116, 32] ++ commaV ((modL g).1.map expV) ++ [46, 10])
def moduleV (c : Cst) (name : List UInt8) (g : Gn) : List UInt8 × Gn :=
 let r := hdAt (modL g).1 (modS name g) (modL g).2 (modL g).1.length
 fnAt (modC c g) (modL g).1 r.1 r.2 (modL g).1.length
theorem clauseV_fine (c : Cst) (hw : c.wild = 0) (hc : CstOk c) (sp : Bool) (d : CalD) (hd : CalOk d) (n : Nat) (hn : n ≤ 3) (g : Gn) (hg : g.s.ok) : Fine 25000 (clauseV c sp d n g) := by
 have hE := expr_good c hw hc n (by omega)
 have h := clBody_fine hE (by omega) d _ ((clAt_ok sp d hd g hg d.params.length).mono hd.2.2)
 have hl : lenE n ≤ 20000 := by
  have : ∀ n, n ≤ 3 → lenE n ≤ 20000 := by decide
  exact this n hn
 exact ⟨h.1, by have := h.2; unfold clauseV; omega⟩
theorem fnV_fine (c : Cst) (hw : c.wild = 0) (hc : CstOk c) (d : CalD) (hd : CalOk d) (g : Gn) (hg : g.s.ok) : Fine 60000 (fnV c d g) := by
 have hv := drawV_in g.s (n := 3) (by omega)
 have h0 := fun n (hn : n ≤ 3) sp g (hg : Src.ok (Gn.s g)) => clauseV_fine c hw hc sp d hd n hn g hg
 have hg1 := ok_nxt hg 3
 have hg2 := ok_nxt hg1 2
 unfold fnV
 refine bif_fine _ (bif_fine _ ?_ ?_) ?_
 ·have h1 := h0 (drawV g.s 3).toNat (by omega) true _ hg2
  have h2 := h0 ((drawV g.s 3).toNat + 1) (by omega) false _ h1.1
  exact ⟨h2.1, by have := h1.2; have := h2.2; simp only [List.length_append, List.length_cons, List.length_nil]; omega⟩
 ·have h2 := h0 ((drawV g.s 3).toNat + 1) (by omega) false _ hg2
  exact ⟨h2.1, by have := h2.2; simp only [List.length_append, List.length_cons, List.length_nil]; omega⟩
 ·have h2 := h0 ((drawV g.s 3).toNat + 1) (by omega) false _ hg1
  exact ⟨h2.1, by have := h2.2; simp only [List.length_append, List.length_cons, List.length_nil]; omega⟩
theorem getD_mem {l : List CalD} {k : Nat} (hk : k < l.length) : l.getD k ⟨[], [], [], 0⟩ ∈ l := by
 rw [List.getD_eq_getElem?_getD, List.getElem?_eq_getElem hk]; exact List.getElem_mem _
theorem hdAt_fine (l : List CalD) (hl : ∀ d ∈ l, CalOk d ∧ HdOk d) (s : List UInt8) (g : Gn) (hg : g.s.ok) : ∀ k, k ≤ l.length → Fine (s.length + 310 * k) (hdAt l s g k)
 | 0, _ => ⟨hg, Nat.le_refl _⟩
 | k + 1, hk => by
  have ih := hdAt_fine l hl s g hg k (by omega)
  have hd := hl _ (getD_mem (show k < l.length by omega))
  have hh := headerV_len _ hd.1 hd.2
  refine ⟨ok_nxt ih.1 3, ?_⟩
  have := ih.2
  simp only [hdAt]
  cases decide (drawV (hdAt l s g k).2.s 3 = 0) <;> simp only [cond_true, cond_false, List.length_append] <;> omega
theorem fnAt_fine (c : Cst) (hw : c.wild = 0) (hc : CstOk c) (l : List CalD) (hl : ∀ d ∈ l, CalOk d ∧ HdOk d) (s : List UInt8) (g : Gn) (hg : g.s.ok) : ∀ k, k ≤ l.length → Fine (s.length + 60000 * k) (fnAt c l s g k)
 | 0, _ => ⟨hg, Nat.le_refl _⟩
 | k + 1, hk => by
  have ih := fnAt_fine c hw hc l hl s g hg k (by omega)
  have hd := hl _ (getD_mem (show k < l.length by omega))
  have hh := fnV_fine c hw hc _ hd.1 _ ih.1
  refine ⟨hh.1, ?_⟩
  have := ih.2
  have := hh.2
  simp only [fnAt, List.length_append]; omega
theorem modL_fine (g : Gn) (hg : g.s.ok) : (modL g).2.s.ok ∧ (modL g).1.length = (drawV g.s 3 + 1).toNat ∧ ∀ d ∈ (modL g).1, CalOk d ∧ HdOk d := by
 have hv := drawV_in g.s (n := 3) (by omega)
 exact calsAt_fine [] (by simp) (nxt g 3) (ok_nxt hg 3) _ (by omega)
theorem modC_ok (c : Cst) (g : Gn) (hg : g.s.ok) : CstOk (modC c g) := by
 have h := modL_fine g hg
 have hv := drawV_in g.s (n := 3) (by omega)
 exact ⟨by have := h.2.1; simp only [modC]; omega, fun d hd => (h.2.2 d hd).1⟩
theorem modS_len (name : List UInt8) (hn : name.length ≤ 100) (g : Gn) (hg : g.s.ok) : (modS name g).length ≤ 3000 := by
 have h := modL_fine g hg
 have hv := drawV_in g.s (n := 3) (by omega)
 have hj := commaV_len ((modL g).1.map expV) (by rw [List.length_map]; omega) (fun x hx => by obtain ⟨d, hd, rfl⟩ := List.mem_map.1 hx; exact expV_len d (h.2.2 d hd).1)
 unfold modS
 simp only [List.length_append, List.length_cons, List.length_nil]; omega
theorem moduleV_fine (c : Cst) (hw : c.wild = 0) (name : List UInt8) (hn : name.length ≤ 100) (g : Gn) (hg : g.s.ok) : Fine 200000 (moduleV c name g) := by
 have h := modL_fine g hg
 have hv := drawV_in g.s (n := 3) (by omega)
 have hs := modS_len name hn g hg
 have h1 := hdAt_fine (modL g).1 h.2.2 (modS name g) _ h.1 (modL g).1.length (Nat.le_refl _)
 have h2 := fnAt_fine (modC c g) hw (modC_ok c g hg) (modL g).1 h.2.2 (hdAt (modL g).1 (modS name g) (modL g).2 (modL g).1.length).1 _ h1.1 (modL g).1.length (Nat.le_refl _)
 exact ⟨h2.1, by have := h1.2; have := h2.2; simp only [moduleV]; omega⟩
def outV (name : List UInt8) (d : CalD) : CalD := { d with mod := name }
abbrev Cst0 (wild : Int) (many : Bool) : Cst := ⟨[], wild, many⟩
theorem module_c (wild : Int) (many : Bool) (hw : wild = 0) (g : Gn) (hg : g.s.ok) (name : List UInt8) (hn : name.length ≤ 100) : PCB Tryz.prog 14 [Sp 1000000, S name, .one (.dat (.sl 4 []))] [(1000000, .cells [.ptr 1000001 0, .dat (.nil 4), .dat (.int .i64 wild), .dat (.bool many), .dat (.int .i64 g.k)]), (1000001, srcB g.s)] (.tup [S (moduleV (Cst0 wild many) name g).1, .one (.dat (.sl 4 ((modL g).1.map (encCal ∘ outV name))))]) (gB (modC (Cst0 wild many) g) (moduleV (Cst0 wild many) name g).2) := by
 have hmax : 10000000 ≤ maxLen := by unfold maxLen; omega
 have hv := drawV_in g.s (n := 3) (by omega)
 have hfin := modL_fine g hg
 have hcc := callees_c (Cst0 wild many) (nxt g 3) (ok_nxt hg 3) [] (by simp) (drawV g.s 3 + 1).toNat (by omega)
 have hwr : IntKind.i64.wrap (1 + drawV g.s 3) = (((drawV g.s 3 + 1).toNat : Nat) : Int) := by rw [wrapI _ (by omega) (by omega)]; omega
 have hlm : (modL g).1.length ≤ 3 := by omega
 have hmd : calsAt [] (nxt g 3) (drawV g.s 3 + 1).toNat = modL g := rfl
 rw [hmd] at hcc
 refine PCB.of_body Tryz.func14 rfl (by decide) Tryz.ntmps14 Tryz.results14 rfl rfl rfl ?_ rfl rfl
 refine AWP.gh (Gh.soft 1000000 rfl) ?_
 repeat' (first | (simp only [go_sem, zA, zB, zC, zD, zE, zF, zG, reduceCtorEq, zH, zI, zJ, zK, zL, List.length_map, List.length_nil, Bx.puts, hwr]; all_goals fail_if_success guard_target =ₛ False) | (with_reducible first | ((first | refine seqVC_stepN rfl ?_ | refine seqVC_stepG rfl (by with_unfolding_all rfl) ?_ | refine AWP.seq ?_ | refine AWP.seqR (by kernel_rfl) ?_ | refine parVC_stepN rfl ?_ | refine parVC_stepG rfl (by with_unfolding_all rfl) ?_ | refine parEVC_stepN rfl ?_ | refine parEVC_stepG rfl (by with_unfolding_all rfl) ?_ | refine genVC_stepN rfl ?_ | refine genVC_stepG rfl (by with_unfolding_all rfl) ?_); intro K hK) | ((first | refine hK _ _ _ ?_ | refine hK _ _ ?_ | refine hK _ ?_); clear hK K) | refine seqVC_nil ?_ | refine parVC_nil ?_ | refine parEVC_nil ?_ | refine genVC_nil ?_ | refine AWP.block ?_ | (refine AWP.cond (by with_unfolding_all rfl) ?_ ?_ <;> intro h <;> (try simp only [zM, zN] at h) <;> try exact absurd h (by decide)) | refine AWP.skip ?_ | refine AWP.ret ?_ | refine AWP.exit ?_ | (refine ⟨fun h => ?_, fun h => ?_⟩ <;> (try simp only [zM, zN] at h) <;> try simp only [h]) | (refine ⟨(by first | omega | (simp only [List.length_append, List.length_map, List.length_take, List.length_drop, List.length_cons, List.length_nil, List.length_replicate]; omega) : _ ≤ _), ?_⟩) | refine ⟨by omega, by omega, ?_⟩) | (refine ⟨1000001, _, _, _, draw_k 1000001 g.s hg 3 (by omega), rfl, ?_⟩) | ( refine Or.inr ⟨_, _, _, hcc, ⟨rfl, rfl, trivial⟩, rfl, rfl, ?_⟩) | (with_reducible first | (refine AWP.segP (id := 9) 7 mixed (by kernel_rfl) fun K hK => ?_; simp only [List.take_succ_cons, List.take_zero, List.drop_succ_cons, List.drop_zero]) | (refine AWP.segP (id := 18) 10 mixed (by kernel_rfl) fun K hK => ?_; simp only [List.take_succ_cons, List.take_zero, List.drop_succ_cons, List.drop_zero]) | refine AWP.parR mixed (by kernel_rfl) fun K hK => ?_ | refine ⟨(by kernel_rfl : depB _ _ _ = true), ?_⟩ | refine Or.inl ?_) | (clear hK K))
 generalize hmm : modL g = r at *
 obtain ⟨l, g1⟩ := r
 simp only at hfin hlm
 refine AWP.loopF (X := Unit) (fun u => [(36, I .i64 0), (9, .one (.dat (.nil 1)))]) (fun u => [(1000000, .cells [.ptr 1000001 0, .dat (.nil 4), .dat (.int .i64 wild), .dat (.bool many), .dat (.int .i64 g1.k)]), (1000001, srcB g1.s)]) [0, 1, 8, 10, 34, 35] [] (fun u => True) (fun u => 0) (()) (by simp only [go_sem, zA, zB, zC, zD, zE, zF, zG, reduceCtorEq, zH, zI, zJ, zK, zL]; exact Gh.to [] (by repeat (first | exact trivial | refine ⟨rfl, ?_⟩ | refine ⟨by (simp only [go_sem, zA, zB, zC, zD, zE, zF, zG, reduceCtorEq, zH, zI, zJ, zK, zL, List.length_append, List.length_map, List.length_cons, List.length_nil, Nat.zero_add]) <;> rfl, ?_⟩)) (by repeat (first | exact trivial | refine ⟨rfl, ?_⟩ | refine ⟨by (simp only [go_sem, zA, zB, zC, zD, zE, zF, zG, reduceCtorEq, zH, zI, zJ, zK, zL, List.length_append, List.length_map, List.length_cons, List.length_nil, Nat.zero_add]) <;> rfl, ?_⟩)) rfl rfl rfl) ?_ ?_
 ·trivial
 rintro u -
 simp only [go_sem, zA, zB, zC, zD, zE, zF, zG, reduceCtorEq, zH, zI, zJ, zK, zL]
 have hd0 : decide ((0 : Int) < 0) = false := by decide
 repeat' (first | (simp only [go_sem, zA, zB, zC, zD, zE, zF, zG, reduceCtorEq, zH, zI, zJ, zK, zL, List.length_map, hd0]; all_goals fail_if_success guard_target =ₛ False) | (with_reducible first | ((first | refine seqVC_stepN rfl ?_ | refine seqVC_stepG rfl (by with_unfolding_all rfl) ?_ | refine AWP.seq ?_ | refine AWP.seqR (by kernel_rfl) ?_ | refine parVC_stepN rfl ?_ | refine parVC_stepG rfl (by with_unfolding_all rfl) ?_ | refine parEVC_stepN rfl ?_ | refine parEVC_stepG rfl (by with_unfolding_all rfl) ?_ | refine genVC_stepN rfl ?_ | refine genVC_stepG rfl (by with_unfolding_all rfl) ?_); intro K hK) | ((first | refine hK _ _ _ ?_ | refine hK _ _ ?_ | refine hK _ ?_); clear hK K) | refine seqVC_nil ?_ | refine parVC_nil ?_ | refine parEVC_nil ?_ | refine genVC_nil ?_ | refine AWP.block ?_ | (refine AWP.cond (by with_unfolding_all rfl) ?_ ?_ <;> intro h <;> (try simp only [zM, zN] at h) <;> try exact absurd h (by decide)) | refine AWP.skip ?_ | refine AWP.ret ?_ | refine AWP.exit ?_ | (refine ⟨fun h => ?_, fun h => ?_⟩ <;> (try simp only [zM, zN] at h) <;> try simp only [h]) | (refine ⟨(by first | omega | (simp only [List.length_append, List.length_map, List.length_take, List.length_drop, List.length_cons, List.length_nil, List.length_replicate]; omega) : _ ≤ _), ?_⟩) | refine ⟨by omega, by omega, ?_⟩ | (refine AWP.segP (id := 9) 7 mixed (by kernel_rfl) fun K hK => ?_; simp only [List.take_succ_cons, List.take_zero, List.drop_succ_cons, List.drop_zero]) | (refine AWP.segP (id := 18) 10 mixed (by kernel_rfl) fun K hK => ?_; simp only [List.take_succ_cons, List.take_zero, List.drop_succ_cons, List.drop_zero]) | refine AWP.parR mixed (by kernel_rfl) fun K hK => ?_ | refine ⟨(by kernel_rfl : depB _ _ _ = true), ?_⟩ | refine Or.inl ?_) | (clear hK K))
 refine AWP.gh (Gh.nilrow 10 900 rfl rfl rfl (by simp [Bx.fresh, Cell.freshs, Cell.fresh])) ?_
 refine AWP.gh (Gh.nilrow 14 901 rfl rfl rfl (by simp [Bx.fresh, Cell.freshs, Cell.fresh])) ?_
 refine AWP.len 73 rfl fun hlen1 => ?_
 (try rw [List.length_map] at hlen1)
 refine AWP.range (S := Unit) (l) encCal (fun k u => (75, I .i64 (k : Nat)) :: [(10, .one (.own 900 k)), (14, .one (.own 901 k))]) (fun k u => [(900, .row 1 (((l.take k).map expV).map encStr)), (901, .row 4 ((l.take k).map (encCal ∘ outV name))), (1000000, .cells [.ptr 1000001 0, .dat (.nil 4), .dat (.int .i64 wild), .dat (.bool many), .dat (.int .i64 g1.k)]), (1000001, srcB g1.s)]) [0, 1, 8, 13, 73, 74] [] (fun k u => True) (()) (by simp only [go_sem, zA, zB, zC, zD, zE, zF, zG, reduceCtorEq, zH, zI, zJ, zK, zL]; exact Gh.to [] (by repeat (first | exact trivial | refine ⟨rfl, ?_⟩ | refine ⟨by (simp only [go_sem, zA, zB, zC, zD, zE, zF, zG, reduceCtorEq, zH, zI, zJ, zK, zL, List.length_append, List.length_map, List.length_cons, List.length_nil, Nat.zero_add]) <;> rfl, ?_⟩)) (by repeat (first | exact trivial | refine ⟨rfl, ?_⟩ | refine ⟨by (simp only [go_sem, zA, zB, zC, zD, zE, zF, zG, reduceCtorEq, zH, zI, zJ, zK, zL, List.length_append, List.length_map, List.length_cons, List.length_nil, Nat.zero_add]) <;> rfl, ?_⟩)) rfl rfl rfl) ?_ ?_ ?_
 ·trivial
 ·intro k u d hlt hx hx' hbb hok
  simp only [go_sem, zA, zB, zC, zD, zE, zF, zG, reduceCtorEq, zH, zI, zJ, zK, zL]
  have hdm := hfin.2.2 d (List.mem_of_getElem? hx)
  obtain ⟨hd1, hd2, hd3⟩ := hdm.1
  have hil := itoa_len (n := (d.params.length : Int)) (by omega) (by omega)
  have hdec := decimal_c _ (d.params.length : Int) (Nat.le_refl _) (by omega) (by omega)
  have hs1 : ((l.take k).map expV).map encStr ++ [[.str (d.name ++ [47] ++ Lib.itoa (d.params.length : Int))]] = ((l.take (k + 1)).map expV).map encStr := by rw [List.take_add_one, hx]; simp [expV, encStr]
  have hs2 : (l.take k).map (encCal ∘ outV name) ++ [[.str name, .str d.name, .sl 1 (d.params.map encZ), .int .i64 d.res]] = (l.take (k + 1)).map (encCal ∘ outV name) := by rw [List.take_add_one, hx]; simp [outV, encCal]
  have ht1 : (l.take k).length = k := by rw [List.length_take]; omega
  have ht2 : (l.take (k + 1)).length = k + 1 := by rw [List.length_take]; omega
  repeat' (first | (simp only [go_sem, zA, zB, zC, zD, zE, zF, zG, reduceCtorEq, zH, zI, zJ, zK, zL, hbb, encCal, hs1, hs2, ht1, ht2, List.length_map]; all_goals fail_if_success guard_target =ₛ False) | (with_reducible first | ((first | refine seqVC_stepN rfl ?_ | refine seqVC_stepG rfl (by with_unfolding_all rfl) ?_ | refine AWP.seq ?_ | refine AWP.seqR (by kernel_rfl) ?_ | refine parVC_stepN rfl ?_ | refine parVC_stepG rfl (by with_unfolding_all rfl) ?_ | refine parEVC_stepN rfl ?_ | refine parEVC_stepG rfl (by with_unfolding_all rfl) ?_ | refine genVC_stepN rfl ?_ | refine genVC_stepG rfl (by with_unfolding_all rfl) ?_); intro K hK) | ((first | refine hK _ _ _ ?_ | refine hK _ _ ?_ | refine hK _ ?_); clear hK K) | refine seqVC_nil ?_ | refine parVC_nil ?_ | refine parEVC_nil ?_ | refine genVC_nil ?_ | refine AWP.block ?_ | (refine AWP.cond (by with_unfolding_all rfl) ?_ ?_ <;> intro h <;> (try simp only [zM, zN] at h) <;> try exact absurd h (by decide)) | refine AWP.skip ?_ | refine AWP.ret ?_ | refine AWP.exit ?_ | (refine ⟨fun h => ?_, fun h => ?_⟩ <;> (try simp only [zM, zN] at h) <;> try simp only [h]) | refine ⟨_, hdec, ?_⟩ | refine ⟨by omega, encCal d, hx', ?_⟩ | refine ⟨encCal d, hx', ?_⟩ | refine ⟨(by omega : _ ≤ _), ?_⟩ | refine ⟨(by omega : _ ≤ _), (by omega : _ ≤ _), ?_⟩ | (refine ⟨(by first | omega | (simp only [List.length_append, List.length_map, List.length_take, List.length_drop, List.length_cons, List.length_nil, List.length_replicate]; omega) : _ ≤ _), ?_⟩) | refine ⟨by omega, by omega, ?_⟩ | (refine AWP.segP (id := 9) 7 mixed (by kernel_rfl) fun K hK => ?_; simp only [List.take_succ_cons, List.take_zero, List.drop_succ_cons, List.drop_zero]) | (refine AWP.segP (id := 18) 10 mixed (by kernel_rfl) fun K hK => ?_; simp only [List.take_succ_cons, List.take_zero, List.drop_succ_cons, List.drop_zero]) | refine AWP.parR mixed (by kernel_rfl) fun K hK => ?_ | refine ⟨(by kernel_rfl : depB _ _ _ = true), ?_⟩ | refine Or.inl ?_) | (clear hK K))
  all_goals rw [wrap_succ hlt hlen1]
  all_goals first | exact ⟨(), trivial, Gh.to [(900, 89), (901, 96)] (by repeat (first | exact trivial | refine ⟨rfl, ?_⟩ | refine ⟨by (simp only [go_sem, zA, zB, zC, zD, zE, zF, zG, reduceCtorEq, zH, zI, zJ, zK, zL, List.length_append, List.length_map, List.length_cons, List.length_nil, Nat.zero_add]) <;> rfl, ?_⟩)) (by repeat (first | exact trivial | refine ⟨rfl, ?_⟩ | refine ⟨by (simp only [go_sem, zA, zB, zC, zD, zE, zF, zG, reduceCtorEq, zH, zI, zJ, zK, zL, List.length_append, List.length_map, List.length_cons, List.length_nil, Nat.zero_add]) <;> rfl, ?_⟩)) rfl rfl rfl⟩ | exact ⟨(), Gh.to [(900, 89), (901, 96)] (by repeat (first | exact trivial | refine ⟨rfl, ?_⟩ | refine ⟨by (simp only [go_sem, zA, zB, zC, zD, zE, zF, zG, reduceCtorEq, zH, zI, zJ, zK, zL, List.length_append, List.length_map, List.length_cons, List.length_nil, Nat.zero_add]) <;> rfl, ?_⟩)) (by repeat (first | exact trivial | refine ⟨rfl, ?_⟩ | refine ⟨by (simp only [go_sem, zA, zB, zC, zD, zE, zF, zG, reduceCtorEq, zH, zI, zJ, zK, zL, List.length_append, List.length_map, List.length_cons, List.length_nil, Nat.zero_add]) <;> rfl, ?_⟩)) rfl rfl rfl⟩ | exact Gh.to [(900, 89), (901, 96)] (by repeat (first | exact trivial | refine ⟨rfl, ?_⟩ | refine ⟨by (simp only [go_sem, zA, zB, zC, zD, zE, zF, zG, reduceCtorEq, zH, zI, zJ, zK, zL, List.length_append, List.length_map, List.length_cons, List.length_nil, Nat.zero_add]) <;> rfl, ?_⟩)) (by repeat (first | exact trivial | refine ⟨rfl, ?_⟩ | refine ⟨by (simp only [go_sem, zA, zB, zC, zD, zE, zF, zG, reduceCtorEq, zH, zI, zJ, zK, zL, List.length_append, List.length_map, List.length_cons, List.length_nil, Nat.zero_add]) <;> rfl, ?_⟩)) rfl rfl rfl
 ·intro u hbb hok
  simp only [go_sem, zA, zB, zC, zD, zE, zF, zG, reduceCtorEq, zH, zI, zJ, zK, zL]
  rw [List.take_length]
  have hjl : ∀ x ∈ l.map expV, x.length ≤ 200 := fun x hx => by obtain ⟨d, hd, rfl⟩ := List.mem_map.1 hx; exact expV_len d (hfin.2.2 d hd).1
  have hjc := comma_c (l.map expV) (by rw [List.length_map]; omega) hjl
  have hjn := commaV_len (l.map expV) (by rw [List.length_map]; omega) hjl
  refine AWP.gh (Gh.freeze 900 rfl rfl (by simp only [go_sem, zA, zB, zC, zD, zE, zF, zG, reduceCtorEq, zH, zI, zJ, zK, zL, List.length_map]) (by simp only [go_sem, zA, zB, zC, zD, zE, zF, zG, reduceCtorEq, zH, zI, zJ, zK, zL, List.length_map])) ?_
  simp only [go_sem, zA, zB, zC, zD, zE, zF, zG, reduceCtorEq, zH, zI, zJ, zK, zL, List.length_map]
  repeat' (first | (simp only [go_sem, zA, zB, zC, zD, zE, zF, zG, reduceCtorEq, zH, zI, zJ, zK, zL, hbb, List.length_map]; all_goals fail_if_success guard_target =ₛ False) | (with_reducible first | ((first | refine seqVC_stepN rfl ?_ | refine seqVC_stepG rfl (by with_unfolding_all rfl) ?_ | refine AWP.seq ?_ | refine AWP.seqR (by kernel_rfl) ?_ | refine parVC_stepN rfl ?_ | refine parVC_stepG rfl (by with_unfolding_all rfl) ?_ | refine parEVC_stepN rfl ?_ | refine parEVC_stepG rfl (by with_unfolding_all rfl) ?_ | refine genVC_stepN rfl ?_ | refine genVC_stepG rfl (by with_unfolding_all rfl) ?_); intro K hK) | ((first | refine hK _ _ _ ?_ | refine hK _ _ ?_ | refine hK _ ?_); clear hK K) | refine seqVC_nil ?_ | refine parVC_nil ?_ | refine parEVC_nil ?_ | refine genVC_nil ?_ | refine AWP.block ?_ | (refine AWP.cond (by with_unfolding_all rfl) ?_ ?_ <;> intro h <;> (try simp only [zM, zN] at h) <;> try exact absurd h (by decide)) | refine AWP.skip ?_ | refine AWP.ret ?_ | refine AWP.exit ?_ | (refine ⟨fun h => ?_, fun h => ?_⟩ <;> (try simp only [zM, zN] at h) <;> try simp only [h]) | refine ⟨_, hjc, ?_⟩ | (refine ⟨(by first | omega | (simp only [List.length_append, List.length_map, List.length_take, List.length_drop, List.length_cons, List.length_nil, List.length_replicate]; omega) : _ ≤ _), ?_⟩) | refine ⟨by omega, by omega, ?_⟩ | refine ⟨(by omega : _ ≤ _), ?_⟩ | refine ⟨(by omega : _ ≤ _), (by omega : _ ≤ _), ?_⟩ | (refine AWP.segP (id := 9) 7 mixed (by kernel_rfl) fun K hK => ?_; simp only [List.take_succ_cons, List.take_zero, List.drop_succ_cons, List.drop_zero]) | (refine AWP.segP (id := 18) 10 mixed (by kernel_rfl) fun K hK => ?_; simp only [List.take_succ_cons, List.take_zero, List.drop_succ_cons, List.drop_zero]) | refine AWP.parR mixed (by kernel_rfl) fun K hK => ?_ | refine ⟨(by kernel_rfl : depB _ _ _ = true), ?_⟩ | refine Or.inl ?_) | (clear hK K))
  refine AWP.gh (Gh.freeze 110 rfl rfl (by simp only [go_sem, zA, zB, zC, zD, zE, zF, zG, reduceCtorEq, zH, zI, zJ, zK, zL, List.length_map]) (by simp only [go_sem, zA, zB, zC, zD, zE, zF, zG, reduceCtorEq, zH, zI, zJ, zK, zL, List.length_map])) ?_
  simp only [go_sem, zA, zB, zC, zD, zE, zF, zG, reduceCtorEq, zH, zI, zJ, zK, zL, List.length_map]
  have hmc : modC (Cst0 wild many) g = { Cst0 wild many with calls := l } := by unfold modC; rw [hmm]
  have hms : modS name g = 109 :: 111 :: 100 :: 117 :: 108 :: 101 :: 32 :: (name ++ [46, 10] ++ 101 :: 120 :: 112 :: 111 :: 114 :: 116 :: 32 :: (commaV (l.map expV) ++ [46, 10])) := by
   unfold modS; rw [hmm]; simp only [List.append_assoc, List.cons_append, List.nil_append]
  have hml := modS_len name hn g hg
  have hmv : moduleV (Cst0 wild many) name g = fnAt (modC (Cst0 wild many) g) l (hdAt l (modS name g) g1 l.length).1 (hdAt l (modS name g) g1 l.length).2 l.length := by unfold moduleV; rw [hmm]
  have hcok := modC_ok (Cst0 wild many) g hg
  have hcw : (modC (Cst0 wild many) g).wild = 0 := hw
  have hhf := hdAt_fine l hfin.2.2 (modS name g) g1 hfin.1
  have hff := fnAt_fine (modC (Cst0 wild many) g) hcw hcok l hfin.2.2 (hdAt l (modS name g) g1 l.length).1 (hdAt l (modS name g) g1 l.length).2 (hhf l.length (Nat.le_refl _)).1
  rw [← hms]
  refine AWP.len 113 rfl fun hlen2 => ?_
  (try rw [List.length_map] at hlen2)
  refine AWP.range (S := List UInt8 × Gn) (l) encCal (fun k s => (115, I .i64 (k : Nat)) :: [(13, S s.1)]) (fun k s => [(901, .row 4 (l.map (encCal ∘ outV name))), (1000000, mkB (modC (Cst0 wild many) g) s.2), (1000001, srcB s.2.s)]) [0, 8, 14, 113, 114] [] (fun k s => s = hdAt l (modS name g) g1 k) ((modS name g, g1)) (by simp only [go_sem, zA, zB, zC, zD, zE, zF, zG, reduceCtorEq, zH, zI, zJ, zK, zL, hmc]; exact Gh.to [] (by repeat (first | exact trivial | refine ⟨rfl, ?_⟩ | refine ⟨by (simp only [go_sem, zA, zB, zC, zD, zE, zF, zG, reduceCtorEq, zH, zI, zJ, zK, zL, List.length_append, List.length_map, List.length_cons, List.length_nil, Nat.zero_add]) <;> rfl, ?_⟩)) (by repeat (first | exact trivial | refine ⟨rfl, ?_⟩ | refine ⟨by (simp only [go_sem, zA, zB, zC, zD, zE, zF, zG, reduceCtorEq, zH, zI, zJ, zK, zL, List.length_append, List.length_map, List.length_cons, List.length_nil, Nat.zero_add]) <;> rfl, ?_⟩)) rfl rfl rfl) ?_ ?_ ?_
  ·rfl
  ·intro k s d hlt hx hx' hbb hok
   simp only [go_sem, zA, zB, zC, zD, zE, zF, zG, reduceCtorEq, zH, zI, zJ, zK, zL]
   have hdm := hfin.2.2 d (List.mem_of_getElem? hx)
   have hfk := hhf k (by omega)
   rw [← hok] at hfk
   obtain ⟨hf1, hf2⟩ := hfk
   have hhl := headerV_len d hdm.1 hdm.2
   have hhc := header_c d hdm.1 hdm.2
   simp only [encCal] at hhc
   have hsuc : hdAt l (modS name g) g1 (k + 1) = (bif decide (drawV s.2.s 3 = 0) then s.1 ++ headerV d else s.1, nxt s.2 3) := by
    simp only [hdAt, ← hok]; rw [List.getD_eq_getElem?_getD, hx]; rfl
   cases h0 : decide (drawV s.2.s 3 = 0) with
   | true =>
    rw [h0, cond_true] at hsuc
    repeat' (first | (simp only [go_sem, zA, zB, zC, zD, zE, zF, zG, reduceCtorEq, zH, zI, zJ, zK, zL, hbb, encCal, h0, List.length_map]; all_goals fail_if_success guard_target =ₛ False) | (with_reducible first | ((first | refine seqVC_stepN rfl ?_ | refine seqVC_stepG rfl (by with_unfolding_all rfl) ?_ | refine AWP.seq ?_ | refine AWP.seqR (by kernel_rfl) ?_ | refine parVC_stepN rfl ?_ | refine parVC_stepG rfl (by with_unfolding_all rfl) ?_ | refine parEVC_stepN rfl ?_ | refine parEVC_stepG rfl (by with_unfolding_all rfl) ?_ | refine genVC_stepN rfl ?_ | refine genVC_stepG rfl (by with_unfolding_all rfl) ?_); intro K hK) | ((first | refine hK _ _ _ ?_ | refine hK _ _ ?_ | refine hK _ ?_); clear hK K) | refine seqVC_nil ?_ | refine parVC_nil ?_ | refine parEVC_nil ?_ | refine genVC_nil ?_ | refine AWP.block ?_ | (refine AWP.cond (by with_unfolding_all rfl) ?_ ?_ <;> intro h <;> (try simp only [zM, zN] at h) <;> try exact absurd h (by decide)) | refine AWP.skip ?_ | refine AWP.ret ?_ | refine AWP.exit ?_ | (refine ⟨fun h => ?_, fun h => ?_⟩ <;> (try simp only [zM, zN] at h) <;> try simp only [h]) | refine ⟨_, hhc, ?_⟩ | refine ⟨by omega, encCal d, hx', ?_⟩ | refine ⟨encCal d, hx', ?_⟩ | (refine ⟨(by first | omega | (simp only [List.length_append, List.length_map, List.length_take, List.length_drop, List.length_cons, List.length_nil, List.length_replicate]; omega) : _ ≤ _), ?_⟩) | refine ⟨by omega, by omega, ?_⟩) | (refine ⟨1000001, _, _, _, draw_k 1000001 s.2.s hf1 3 (by omega), rfl, ?_⟩) | (with_reducible first | (refine AWP.segP (id := 9) 7 mixed (by kernel_rfl) fun K hK => ?_; simp only [List.take_succ_cons, List.take_zero, List.drop_succ_cons, List.drop_zero]) | (refine AWP.segP (id := 18) 10 mixed (by kernel_rfl) fun K hK => ?_; simp only [List.take_succ_cons, List.take_zero, List.drop_succ_cons, List.drop_zero]) | refine AWP.parR mixed (by kernel_rfl) fun K hK => ?_ | refine ⟨(by kernel_rfl : depB _ _ _ = true), ?_⟩ | refine Or.inl ?_) | (clear hK K))
    all_goals (rw [wrap_succ hlt hlen2, hsuc]; exact Gh.to [] (by repeat (first | exact trivial | refine ⟨rfl, ?_⟩ | refine ⟨by (simp only [go_sem, zA, zB, zC, zD, zE, zF, zG, reduceCtorEq, zH, zI, zJ, zK, zL, List.length_append, List.length_map, List.length_cons, List.length_nil, Nat.zero_add]) <;> rfl, ?_⟩)) (by repeat (first | exact trivial | refine ⟨rfl, ?_⟩ | refine ⟨by (simp only [go_sem, zA, zB, zC, zD, zE, zF, zG, reduceCtorEq, zH, zI, zJ, zK, zL, List.length_append, List.length_map, List.length_cons, List.length_nil, Nat.zero_add]) <;> rfl, ?_⟩)) rfl rfl rfl)
   | false =>
    rw [h0, cond_false] at hsuc
    repeat' (first | (simp only [go_sem, zA, zB, zC, zD, zE, zF, zG, reduceCtorEq, zH, zI, zJ, zK, zL, hbb, encCal, h0, List.length_map]; all_goals fail_if_success guard_target =ₛ False) | (with_reducible first | ((first | refine seqVC_stepN rfl ?_ | refine seqVC_stepG rfl (by with_unfolding_all rfl) ?_ | refine AWP.seq ?_ | refine AWP.seqR (by kernel_rfl) ?_ | refine parVC_stepN rfl ?_ | refine parVC_stepG rfl (by with_unfolding_all rfl) ?_ | refine parEVC_stepN rfl ?_ | refine parEVC_stepG rfl (by with_unfolding_all rfl) ?_ | refine genVC_stepN rfl ?_ | refine genVC_stepG rfl (by with_unfolding_all rfl) ?_); intro K hK) | ((first | refine hK _ _ _ ?_ | refine hK _ _ ?_ | refine hK _ ?_); clear hK K) | refine seqVC_nil ?_ | refine parVC_nil ?_ | refine parEVC_nil ?_ | refine genVC_nil ?_ | refine AWP.block ?_ | (refine AWP.cond (by with_unfolding_all rfl) ?_ ?_ <;> intro h <;> (try simp only [zM, zN] at h) <;> try exact absurd h (by decide)) | refine AWP.skip ?_ | refine AWP.ret ?_ | refine AWP.exit ?_ | (refine ⟨fun h => ?_, fun h => ?_⟩ <;> (try simp only [zM, zN] at h) <;> try simp only [h]) | refine ⟨_, hhc, ?_⟩ | refine ⟨by omega, encCal d, hx', ?_⟩ | refine ⟨encCal d, hx', ?_⟩ | (refine ⟨(by first | omega | (simp only [List.length_append, List.length_map, List.length_take, List.length_drop, List.length_cons, List.length_nil, List.length_replicate]; omega) : _ ≤ _), ?_⟩) | refine ⟨by omega, by omega, ?_⟩) | (refine ⟨1000001, _, _, _, draw_k 1000001 s.2.s hf1 3 (by omega), rfl, ?_⟩) | (with_reducible first | (refine AWP.segP (id := 9) 7 mixed (by kernel_rfl) fun K hK => ?_; simp only [List.take_succ_cons, List.take_zero, List.drop_succ_cons, List.drop_zero]) | (refine AWP.segP (id := 18) 10 mixed (by kernel_rfl) fun K hK => ?_; simp only [List.take_succ_cons, List.take_zero, List.drop_succ_cons, List.drop_zero]) | refine AWP.parR mixed (by kernel_rfl) fun K hK => ?_ | refine ⟨(by kernel_rfl : depB _ _ _ = true), ?_⟩ | refine Or.inl ?_) | (clear hK K))
    all_goals (rw [wrap_succ hlt hlen2, hsuc]; exact Gh.to [] (by repeat (first | exact trivial | refine ⟨rfl, ?_⟩ | refine ⟨by (simp only [go_sem, zA, zB, zC, zD, zE, zF, zG, reduceCtorEq, zH, zI, zJ, zK, zL, List.length_append, List.length_map, List.length_cons, List.length_nil, Nat.zero_add]) <;> rfl, ?_⟩)) (by repeat (first | exact trivial | refine ⟨rfl, ?_⟩ | refine ⟨by (simp only [go_sem, zA, zB, zC, zD, zE, zF, zG, reduceCtorEq, zH, zI, zJ, zK, zL, List.length_append, List.length_map, List.length_cons, List.length_nil, Nat.zero_add]) <;> rfl, ?_⟩)) rfl rfl rfl)
  ·intro s hbb hok
   simp only [go_sem, zA, zB, zC, zD, zE, zF, zG, reduceCtorEq, zH, zI, zJ, zK, zL]
   have hhg := hhf l.length (Nat.le_refl _)
   rw [← hok] at hmv hff hhg
   repeat' (first | (simp only [go_sem, zA, zB, zC, zD, zE, zF, zG, reduceCtorEq, zH, zI, zJ, zK, zL, hbb, List.length_map]; all_goals fail_if_success guard_target =ₛ False) | (with_reducible first | ((first | refine seqVC_stepN rfl ?_ | refine seqVC_stepG rfl (by with_unfolding_all rfl) ?_ | refine AWP.seq ?_ | refine AWP.seqR (by kernel_rfl) ?_ | refine parVC_stepN rfl ?_ | refine parVC_stepG rfl (by with_unfolding_all rfl) ?_ | refine parEVC_stepN rfl ?_ | refine parEVC_stepG rfl (by with_unfolding_all rfl) ?_ | refine genVC_stepN rfl ?_ | refine genVC_stepG rfl (by with_unfolding_all rfl) ?_); intro K hK) | ((first | refine hK _ _ _ ?_ | refine hK _ _ ?_ | refine hK _ ?_); clear hK K) | refine seqVC_nil ?_ | refine parVC_nil ?_ | refine parEVC_nil ?_ | refine genVC_nil ?_ | refine AWP.block ?_ | (refine AWP.cond (by with_unfolding_all rfl) ?_ ?_ <;> intro h <;> (try simp only [zM, zN] at h) <;> try exact absurd h (by decide)) | refine AWP.skip ?_ | refine AWP.ret ?_ | refine AWP.exit ?_ | (refine ⟨fun h => ?_, fun h => ?_⟩ <;> (try simp only [zM, zN] at h) <;> try simp only [h]) | (refine AWP.segP (id := 9) 7 mixed (by kernel_rfl) fun K hK => ?_; simp only [List.take_succ_cons, List.take_zero, List.drop_succ_cons, List.drop_zero]) | (refine AWP.segP (id := 18) 10 mixed (by kernel_rfl) fun K hK => ?_; simp only [List.take_succ_cons, List.take_zero, List.drop_succ_cons, List.drop_zero]) | refine AWP.parR mixed (by kernel_rfl) fun K hK => ?_ | refine ⟨(by kernel_rfl : depB _ _ _ = true), ?_⟩ | refine Or.inl ?_) | (clear hK K))
   refine AWP.len 130 rfl fun hlen3 => ?_
   (try rw [List.length_map] at hlen3)
   refine AWP.range (S := List UInt8 × Gn) (l) encCal (fun k t => (132, I .i64 (k : Nat)) :: [(13, S t.1)]) (fun k t => [(901, .row 4 (l.map (encCal ∘ outV name))), (1000000, mkB (modC (Cst0 wild many) g) t.2), (1000001, srcB t.2.s)]) [0, 14, 130, 131] [] (fun k t => t = fnAt (modC (Cst0 wild many) g) l s.1 s.2 k) (s) (by simp only [go_sem, zA, zB, zC, zD, zE, zF, zG, reduceCtorEq, zH, zI, zJ, zK, zL]; exact Gh.to [] (by repeat (first | exact trivial | refine ⟨rfl, ?_⟩ | refine ⟨by (simp only [go_sem, zA, zB, zC, zD, zE, zF, zG, reduceCtorEq, zH, zI, zJ, zK, zL, List.length_append, List.length_map, List.length_cons, List.length_nil, Nat.zero_add]) <;> rfl, ?_⟩)) (by repeat (first | exact trivial | refine ⟨rfl, ?_⟩ | refine ⟨by (simp only [go_sem, zA, zB, zC, zD, zE, zF, zG, reduceCtorEq, zH, zI, zJ, zK, zL, List.length_append, List.length_map, List.length_cons, List.length_nil, Nat.zero_add]) <;> rfl, ?_⟩)) rfl rfl rfl) ?_ ?_ ?_
   ·rfl
   ·intro k t d hlt hx hx' hbb hok
    simp only [go_sem, zA, zB, zC, zD, zE, zF, zG, reduceCtorEq, zH, zI, zJ, zK, zL]
    have hdm := hfin.2.2 d (List.mem_of_getElem? hx)
    have hfk := hff k (by omega)
    rw [← hok] at hfk
    obtain ⟨ht1, ht2⟩ := hfk
    have hh2 := hhg.2
    have hv3 := drawV_in t.2.s (n := 3) (by omega)
    have hsuc : fnAt (modC (Cst0 wild many) g) l s.1 s.2 (k + 1) = (t.1 ++ (fnV (modC (Cst0 wild many) g) d t.2).1, (fnV (modC (Cst0 wild many) g) d t.2).2) := by
     simp only [fnAt, ← hok]; rw [List.getD_eq_getElem?_getD, hx]; rfl
    have hnn : ((drawV t.2.s 3).toNat : Int) = drawV t.2.s 3 := Int.toNat_of_nonneg hv3.1
    have hfv : fnV (modC (Cst0 wild many) g) d t.2 = fnV (modC (Cst0 wild many) g) d t.2 := rfl
    conv at hfv => rhs; unfold fnV
    simp only [] at hfv
    generalize hN : (drawV t.2.s 3).toNat = n at *
    have hwd : IntKind.i64.wrap (1 + drawV t.2.s 3) = ((n + 1 : Nat) : Int) := by rw [wrapI _ (by omega) (by omega)]; omega
    have hwe : IntKind.i64.wrap (((n + 1 : Nat) : Int) - 1) = (n : Int) := by rw [wrapI _ (by omega) (by omega)]; omega
    have hLn : ∀ n, n ≤ 3 → lenE n ≤ 1000000 := by decide
    have cS := fun g1 hg1 => clauseS_c (modC (Cst0 wild many) g) n _ _ (expr_good (modC (Cst0 wild many) g) hcw hcok n (by omega)) (by omega) (hLn n (by omega)) (by omega) g1 hg1 d hdm.1
    have cN := fun g1 hg1 => clauseN_c (modC (Cst0 wild many) g) (n + 1) _ _ (expr_good (modC (Cst0 wild many) g) hcw hcok (n + 1) (by omega)) (by omega) (hLn (n + 1) (by omega)) (by omega) g1 hg1 d hdm.1
    have fS := fun g1 hg1 => clauseV_fine (modC (Cst0 wild many) g) hcw hcok true d hdm.1 n (by omega) g1 hg1
    have fN := fun g1 hg1 => clauseV_fine (modC (Cst0 wild many) g) hcw hcok false d hdm.1 (n + 1) (by omega) g1 hg1
    simp only [encCal] at cS cN
    have hok3 := ok_nxt ht1 3
    have hok2 := ok_nxt hok3 2
    cases hp : decide (0 < (d.params.length : Int)) with
    | false =>
     rw [hp, cond_false] at hfv
     have rN := cN _ hok3
     have lN := (fN _ hok3).2
     repeat' (first | (simp only [go_sem, zA, zB, zC, zD, zE, zF, zG, reduceCtorEq, zH, zI, zJ, zK, zL, hbb, encCal, hp, hwd, hwe, Bx.puts, List.length_map]; all_goals fail_if_success guard_target =ₛ False) | (with_reducible first | ((first | refine seqVC_stepN rfl ?_ | refine seqVC_stepG rfl (by with_unfolding_all rfl) ?_ | refine AWP.seq ?_ | refine AWP.seqR (by kernel_rfl) ?_ | refine parVC_stepN rfl ?_ | refine parVC_stepG rfl (by with_unfolding_all rfl) ?_ | refine parEVC_stepN rfl ?_ | refine parEVC_stepG rfl (by with_unfolding_all rfl) ?_ | refine genVC_stepN rfl ?_ | refine genVC_stepG rfl (by with_unfolding_all rfl) ?_); intro K hK) | ((first | refine hK _ _ _ ?_ | refine hK _ _ ?_ | refine hK _ ?_); clear hK K) | refine seqVC_nil ?_ | refine parVC_nil ?_ | refine parEVC_nil ?_ | refine genVC_nil ?_ | refine AWP.block ?_ | (refine AWP.cond (by with_unfolding_all rfl) ?_ ?_ <;> intro h <;> (try simp only [zM, zN] at h) <;> try exact absurd h (by decide)) | refine AWP.skip ?_ | refine AWP.ret ?_ | refine AWP.exit ?_ | (refine ⟨fun h => ?_, fun h => ?_⟩ <;> (try simp only [zM, zN] at h) <;> try simp only [h]) | refine ⟨by omega, encCal d, hx', ?_⟩ | refine ⟨encCal d, hx', ?_⟩ | (refine ⟨(by first | omega | (simp only [List.length_append, List.length_map, List.length_take, List.length_drop, List.length_cons, List.length_nil, List.length_replicate]; omega) : _ ≤ _), ?_⟩) | refine ⟨by omega, by omega, ?_⟩) | (refine ⟨1000001, _, _, _, draw_k 1000001 t.2.s ht1 3 (by omega), rfl, ?_⟩) | (refine ⟨1000001, _, _, _, draw_k 1000001 (nxt t.2 3).s (ok_nxt ht1 3) 2 (by omega), rfl, ?_⟩) | ( refine Or.inr ⟨_, _, _, rN, ⟨rfl, rfl, trivial⟩, rfl, rfl, ?_⟩) | (with_reducible first | (refine AWP.segP (id := 9) 7 mixed (by kernel_rfl) fun K hK => ?_; simp only [List.take_succ_cons, List.take_zero, List.drop_succ_cons, List.drop_zero]) | (refine AWP.segP (id := 18) 10 mixed (by kernel_rfl) fun K hK => ?_; simp only [List.take_succ_cons, List.take_zero, List.drop_succ_cons, List.drop_zero]) | refine AWP.parR mixed (by kernel_rfl) fun K hK => ?_ | refine ⟨(by kernel_rfl : depB _ _ _ = true), ?_⟩ | refine Or.inl ?_) | (clear hK K))
     all_goals (rw [wrap_succ hlt hlen3, hsuc, hfv]; exact Gh.to [] (by repeat (first | exact trivial | refine ⟨rfl, ?_⟩ | refine ⟨by (simp only [go_sem, zA, zB, zC, zD, zE, zF, zG, reduceCtorEq, zH, zI, zJ, zK, zL, List.length_append, List.length_map, List.length_cons, List.length_nil, Nat.zero_add]) <;> rfl, ?_⟩)) (by repeat (first | exact trivial | refine ⟨rfl, ?_⟩ | refine ⟨by (simp only [go_sem, zA, zB, zC, zD, zE, zF, zG, reduceCtorEq, zH, zI, zJ, zK, zL, List.length_append, List.length_map, List.length_cons, List.length_nil, Nat.zero_add]) <;> rfl, ?_⟩)) rfl rfl rfl)
    | true =>
     rw [hp, cond_true] at hfv
     cases h2 : decide (drawV (nxt t.2 3).s 2 = 0) with
     | false =>
      rw [h2, cond_false] at hfv
      have rN := cN _ hok2
      have lN := (fN _ hok2).2
      repeat' (first | (simp only [go_sem, zA, zB, zC, zD, zE, zF, zG, reduceCtorEq, zH, zI, zJ, zK, zL, hbb, encCal, hp, h2, hwd, hwe, Bx.puts, List.length_map]; all_goals fail_if_success guard_target =ₛ False) | (with_reducible first | ((first | refine seqVC_stepN rfl ?_ | refine seqVC_stepG rfl (by with_unfolding_all rfl) ?_ | refine AWP.seq ?_ | refine AWP.seqR (by kernel_rfl) ?_ | refine parVC_stepN rfl ?_ | refine parVC_stepG rfl (by with_unfolding_all rfl) ?_ | refine parEVC_stepN rfl ?_ | refine parEVC_stepG rfl (by with_unfolding_all rfl) ?_ | refine genVC_stepN rfl ?_ | refine genVC_stepG rfl (by with_unfolding_all rfl) ?_); intro K hK) | ((first | refine hK _ _ _ ?_ | refine hK _ _ ?_ | refine hK _ ?_); clear hK K) | refine seqVC_nil ?_ | refine parVC_nil ?_ | refine parEVC_nil ?_ | refine genVC_nil ?_ | refine AWP.block ?_ | (refine AWP.cond (by with_unfolding_all rfl) ?_ ?_ <;> intro h <;> (try simp only [zM, zN] at h) <;> try exact absurd h (by decide)) | refine AWP.skip ?_ | refine AWP.ret ?_ | refine AWP.exit ?_ | (refine ⟨fun h => ?_, fun h => ?_⟩ <;> (try simp only [zM, zN] at h) <;> try simp only [h]) | refine ⟨by omega, encCal d, hx', ?_⟩ | refine ⟨encCal d, hx', ?_⟩ | (refine ⟨(by first | omega | (simp only [List.length_append, List.length_map, List.length_take, List.length_drop, List.length_cons, List.length_nil, List.length_replicate]; omega) : _ ≤ _), ?_⟩) | refine ⟨by omega, by omega, ?_⟩) | (refine ⟨1000001, _, _, _, draw_k 1000001 t.2.s ht1 3 (by omega), rfl, ?_⟩) | (refine ⟨1000001, _, _, _, draw_k 1000001 (nxt t.2 3).s (ok_nxt ht1 3) 2 (by omega), rfl, ?_⟩) | ( refine Or.inr ⟨_, _, _, rN, ⟨rfl, rfl, trivial⟩, rfl, rfl, ?_⟩) | (with_reducible first | (refine AWP.segP (id := 9) 7 mixed (by kernel_rfl) fun K hK => ?_; simp only [List.take_succ_cons, List.take_zero, List.drop_succ_cons, List.drop_zero]) | (refine AWP.segP (id := 18) 10 mixed (by kernel_rfl) fun K hK => ?_; simp only [List.take_succ_cons, List.take_zero, List.drop_succ_cons, List.drop_zero]) | refine AWP.parR mixed (by kernel_rfl) fun K hK => ?_ | refine ⟨(by kernel_rfl : depB _ _ _ = true), ?_⟩ | refine Or.inl ?_) | (clear hK K))
      all_goals (rw [wrap_succ hlt hlen3, hsuc, hfv]; exact Gh.to [] (by repeat (first | exact trivial | refine ⟨rfl, ?_⟩ | refine ⟨by (simp only [go_sem, zA, zB, zC, zD, zE, zF, zG, reduceCtorEq, zH, zI, zJ, zK, zL, List.length_append, List.length_map, List.length_cons, List.length_nil, Nat.zero_add]) <;> rfl, ?_⟩)) (by repeat (first | exact trivial | refine ⟨rfl, ?_⟩ | refine ⟨by (simp only [go_sem, zA, zB, zC, zD, zE, zF, zG, reduceCtorEq, zH, zI, zJ, zK, zL, List.length_append, List.length_map, List.length_cons, List.length_nil, Nat.zero_add]) <;> rfl, ?_⟩)) rfl rfl rfl)
     | true =>
      rw [h2, cond_true] at hfv
      have rS := cS _ hok2
      have lS := (fS _ hok2).2
      have kS := (fS _ hok2).1
      have rN := cN _ kS
      have lN := (fN _ kS).2
      repeat' (first | (simp only [go_sem, zA, zB, zC, zD, zE, zF, zG, reduceCtorEq, zH, zI, zJ, zK, zL, hbb, encCal, hp, h2, hwd, hwe, Bx.puts, List.length_map]; all_goals fail_if_success guard_target =ₛ False) | (with_reducible first | ((first | refine seqVC_stepN rfl ?_ | refine seqVC_stepG rfl (by with_unfolding_all rfl) ?_ | refine AWP.seq ?_ | refine AWP.seqR (by kernel_rfl) ?_ | refine parVC_stepN rfl ?_ | refine parVC_stepG rfl (by with_unfolding_all rfl) ?_ | refine parEVC_stepN rfl ?_ | refine parEVC_stepG rfl (by with_unfolding_all rfl) ?_ | refine genVC_stepN rfl ?_ | refine genVC_stepG rfl (by with_unfolding_all rfl) ?_); intro K hK) | ((first | refine hK _ _ _ ?_ | refine hK _ _ ?_ | refine hK _ ?_); clear hK K) | refine seqVC_nil ?_ | refine parVC_nil ?_ | refine parEVC_nil ?_ | refine genVC_nil ?_ | refine AWP.block ?_ | (refine AWP.cond (by with_unfolding_all rfl) ?_ ?_ <;> intro h <;> (try simp only [zM, zN] at h) <;> try exact absurd h (by decide)) | refine AWP.skip ?_ | refine AWP.ret ?_ | refine AWP.exit ?_ | (refine ⟨fun h => ?_, fun h => ?_⟩ <;> (try simp only [zM, zN] at h) <;> try simp only [h]) | refine ⟨by omega, encCal d, hx', ?_⟩ | refine ⟨encCal d, hx', ?_⟩ | (refine ⟨(by first | omega | (simp only [List.length_append, List.length_map, List.length_take, List.length_drop, List.length_cons, List.length_nil, List.length_replicate]; omega) : _ ≤ _), ?_⟩) | refine ⟨by omega, by omega, ?_⟩) | (refine ⟨1000001, _, _, _, draw_k 1000001 t.2.s ht1 3 (by omega), rfl, ?_⟩) | (refine ⟨1000001, _, _, _, draw_k 1000001 (nxt t.2 3).s (ok_nxt ht1 3) 2 (by omega), rfl, ?_⟩) | ( refine Or.inr ⟨_, _, _, rS, ⟨rfl, rfl, trivial⟩, rfl, rfl, ?_⟩) | ( refine Or.inr ⟨_, _, _, rN, ⟨rfl, rfl, trivial⟩, rfl, rfl, ?_⟩) | (with_reducible first | (refine AWP.segP (id := 9) 7 mixed (by kernel_rfl) fun K hK => ?_; simp only [List.take_succ_cons, List.take_zero, List.drop_succ_cons, List.drop_zero]) | (refine AWP.segP (id := 18) 10 mixed (by kernel_rfl) fun K hK => ?_; simp only [List.take_succ_cons, List.take_zero, List.drop_succ_cons, List.drop_zero]) | refine AWP.parR mixed (by kernel_rfl) fun K hK => ?_ | refine ⟨(by kernel_rfl : depB _ _ _ = true), ?_⟩ | refine Or.inl ?_) | (clear hK K))
      have hsuc2 : fnAt (modC (Cst0 wild many) g) l s.1 s.2 (k + 1) = (t.1 ++ ((clauseV (modC (Cst0 wild many) g) true d n (nxt (nxt t.2 3) 2)).1 ++ [59, 10]) ++ ((clauseV (modC (Cst0 wild many) g) false d (n + 1) (clauseV (modC (Cst0 wild many) g) true d n (nxt (nxt t.2 3) 2)).2).1 ++ [46, 10]), (clauseV (modC (Cst0 wild many) g) false d (n + 1) (clauseV (modC (Cst0 wild many) g) true d n (nxt (nxt t.2 3) 2)).2).2) := by rw [hsuc, hfv]; simp only [List.append_assoc]
      all_goals (rw [wrap_succ hlt hlen3, hsuc2]; exact Gh.to [] (by repeat (first | exact trivial | refine ⟨rfl, ?_⟩ | refine ⟨by (simp only [go_sem, zA, zB, zC, zD, zE, zF, zG, reduceCtorEq, zH, zI, zJ, zK, zL, List.length_append, List.length_map, List.length_cons, List.length_nil, Nat.zero_add]) <;> rfl, ?_⟩)) (by repeat (first | exact trivial | refine ⟨rfl, ?_⟩ | refine ⟨by (simp only [go_sem, zA, zB, zC, zD, zE, zF, zG, reduceCtorEq, zH, zI, zJ, zK, zL, List.length_append, List.length_map, List.length_cons, List.length_nil, Nat.zero_add]) <;> rfl, ?_⟩)) rfl rfl rfl)
   ·intro t hbb hok
    simp only [go_sem, zA, zB, zC, zD, zE, zF, zG, reduceCtorEq, zH, zI, zJ, zK, zL]
    rw [← hok] at hmv
    refine AWP.gh (Gh.freeze 901 rfl rfl (by simp only [go_sem, zA, zB, zC, zD, zE, zF, zG, reduceCtorEq, zH, zI, zJ, zK, zL, List.length_map]) (by simp only [go_sem, zA, zB, zC, zD, zE, zF, zG, reduceCtorEq, zH, zI, zJ, zK, zL, List.length_map])) ?_
    simp only [go_sem, zA, zB, zC, zD, zE, zF, zG, reduceCtorEq, zH, zI, zJ, zK, zL, List.length_map]
    repeat' (first | (simp only [go_sem, zA, zB, zC, zD, zE, zF, zG, reduceCtorEq, zH, zI, zJ, zK, zL, hbb, List.length_map]; all_goals fail_if_success guard_target =ₛ False) | (with_reducible first | ((first | refine seqVC_stepN rfl ?_ | refine seqVC_stepG rfl (by with_unfolding_all rfl) ?_ | refine AWP.seq ?_ | refine AWP.seqR (by kernel_rfl) ?_ | refine parVC_stepN rfl ?_ | refine parVC_stepG rfl (by with_unfolding_all rfl) ?_ | refine parEVC_stepN rfl ?_ | refine parEVC_stepG rfl (by with_unfolding_all rfl) ?_ | refine genVC_stepN rfl ?_ | refine genVC_stepG rfl (by with_unfolding_all rfl) ?_); intro K hK) | ((first | refine hK _ _ _ ?_ | refine hK _ _ ?_ | refine hK _ ?_); clear hK K) | refine seqVC_nil ?_ | refine parVC_nil ?_ | refine parEVC_nil ?_ | refine genVC_nil ?_ | refine AWP.block ?_ | (refine AWP.cond (by with_unfolding_all rfl) ?_ ?_ <;> intro h <;> (try simp only [zM, zN] at h) <;> try exact absurd h (by decide)) | refine AWP.skip ?_ | refine AWP.ret ?_ | refine AWP.exit ?_ | (refine ⟨fun h => ?_, fun h => ?_⟩ <;> (try simp only [zM, zN] at h) <;> try simp only [h]) | (refine AWP.segP (id := 9) 7 mixed (by kernel_rfl) fun K hK => ?_; simp only [List.take_succ_cons, List.take_zero, List.drop_succ_cons, List.drop_zero]) | (refine AWP.segP (id := 18) 10 mixed (by kernel_rfl) fun K hK => ?_; simp only [List.take_succ_cons, List.take_zero, List.drop_succ_cons, List.drop_zero]) | refine AWP.parR mixed (by kernel_rfl) fun K hK => ?_ | refine ⟨(by kernel_rfl : depB _ _ _ = true), ?_⟩ | refine Or.inl ?_) | (clear hK K))
    all_goals (rw [hmv]; exact ⟨rfl, fun x hx => hx⟩)
end Go.Proofs.YtogponhonjiidaaGreatDoor
set_option linter.unusedVariables false
namespace Go.Sx
variable {P : Program} {n : Nat} {Q : Exit → AS → Prop}
theorem AWP.nilP {id d : Nat} {ty : TypeId} {pos : String} {after : Array Edge} {env : Env} {B : Bx} (hd : Nat.blt d n = true) (hf : env.lookup d = none) (h : Q .normal ⟨env, B⟩) :
  AWP P n (.region id #[{ dst := some d, op := .assign (.const (.pointer none)), type := ty, pos := pos, after := after, guard := none }] false) ⟨env, B⟩ Q := by
 intro κ M0 a w hs
 refine wp_region_lit ?_
 obtain ⟨M, ν, h1, h2, h3, h4, h5, h6⟩ := hs
 unfold wpList
 rw [if_pos (by simp [Region.wanted])]
 left
 unfold Oper.wp
 rw [show (execOp a.eval ({ dst := some d, op := .assign (.const (.pointer none)), type := ty, pos := pos, after := after, guard := none } : Oper)).run P w = .ok (.value (.pointer none)) w from rfl]
 simp only [Oper.upon]
 refine ⟨_, ⟨M, ν, h1, by rw [Act.put_size]; exact h2, by rw [Act.put_defers']; exact h3, ?_, h5, h6⟩, h⟩
 intro d' t hl
 have hne : d' ≠ d := by rintro rfl; rw [hf] at hl; cases hl
 have := h4 d' t hl
 simp only [Act.put]
 simpa [Array.getElem?_setIfInBounds_ne (Ne.symm hne)] using this
/-- the zero value of a struct is the nil pointer and then zs -/
def zptB (P : Program) (t : TypeId) (zs : List C) : Bool :=
 match (P.info? t).bind (·.zero) with
 | some z => (match z.cells.toList with
  | .pointer none :: vs => zmatch zs vs
  | _ => false)
 | none => false
theorem zptB_spec {t : TypeId} {zs : List C} (h : zptB P t zs = true) : ∃ z vs, (∀ w, (zeroValue t).run P w = .ok z w) ∧ z.cells.toList = .pointer none :: vs ∧ zmatch zs vs = true := by
 unfold zptB at h
 split at h
 ·rename_i z hz
  split at h
  ·rename_i vs hv
   obtain ⟨i, hi, hz⟩ := Option.bind_eq_some_iff.1 hz
   exact ⟨z, vs, fun w => by simp [zeroValue, typeInfo, hi, hz], hv, h⟩
  ·cases h
 ·cases h
theorem fill_fst {place : Nat → Option (Nat × Nat)} (h0 : place 0 = some (0, 1)) (u1 u2 : Value) (vs : List Value) (v : Value) :
  Instr.fill place (u1 :: vs).toArray [(0, v)] = Instr.fill place (u2 :: vs).toArray [(0, v)] := by
 unfold Instr.fill
 simp only [h0]
 by_cases hs : v.cells.size = 1
 ·obtain ⟨y, hy⟩ : ∃ y, v.cells = #[y] := by
   refine ⟨v.cells[0]'(by omega), ?_⟩
   apply Array.ext
   ·simpa using hs
   ·intro i h1 h2
    have : i = 0 := by simp at h2; exact h2
    subst this; rfl
  rw [hy]
  simp [Instr.fill]
 ·simp [hs]
def vBuildP (P : Program) (t : TypeId) (zs : List C) (env : Env) (x : Operand) (K : T → Prop) : Prop :=
 match vParts P t env [(0, x)] (.dat (.bool false) :: zs.map .dat) with
 | some cs => K (mkAgg cs)
 | none => False
theorem vBuildP_sound {t : TypeId} {x : Operand} {zs : List C} {env : Env} {B : Bx} {o : Oper} {K : T → Prop} (ho : o.op = .build t #[(0, x)]) (hz : zptB P t zs = true) (hp0 : (prtT P t 0).map (fun p => (p.1, p.2.1)) = some (0, 1)) (hst : (match P.underlying t with | some (.struct _) => true | _ => false) = true) (hf : fieldsOk P t = true)
  (h : vBuildP P t zs env x K) : ∃ u, OpP P o env B u ∧ K u := by
 have hex : ∀ (a : Act), execOp a.eval o = (do pure (.value (← Instr.build t ([(0, x)].map fun (i, x) => (i, a.eval x)).toArray))) := by
  intro a; unfold execOp; rw [ho]; simp
 unfold vBuildP at h
 split at h
 ·rename_i cs hp
  obtain ⟨z, vs, hzr, hzc, hzm⟩ := zptB_spec hz
  refine ⟨_, OpP.of_val fun κ M ν ac w B' hB he hs => ?_, h⟩
  have hops : ∀ p ∈ [(0, x)], ∀ ty u, ev P env ty p.2 = some u → u.rep M ν (ac.eval p.2) := by
   intro p hp ty u hu
   refine ev_rep he ?_ hu
   rw [ho]
   simp only [Op.operands]
   simp at hp
   subst hp
   simp
  have hz0 : Cell.reps M ν (.dat (.bool false) :: zs.map .dat) ((.bool false :: vs : List Value).toArray).toList :=
   ⟨_, _, rfl, rfl, Cell.reps_map_c.2 (zmatch_spec hzm)⟩
  have hst' := hst
  unfold fieldsOk at hf
  split at hf
  ·rename_i fs hu
   have hpl : ∀ i off n ty, prtT P t i = some (off, n, ty) → ((fs.toList.map fun f => (f.offset, (szT P f.type).getD 0))[i]?) = some (off, n) := by
    intro i off n ty hprt
    unfold prtT at hprt
    rw [hu] at hprt
    simp only [] at hprt
    split at hprt
    ·rename_i fd hfd
     cases hsz : szT P fd.type with
     | none => simp [hsz] at hprt
     | some m =>
      simp only [hsz, Option.map_some, Option.some.injEq, Prod.mk.injEq] at hprt
      rw [List.getElem?_map, Array.getElem?_toList, hfd]
      simp [hsz, hprt.1, hprt.2.1]
    ·cases hprt
   have h00 : ((fs.toList.map fun f => (f.offset, (szT P f.type).getD 0))[0]?) = some (0, 1) := by
    obtain ⟨p, hp, e⟩ := Option.map_eq_some_iff.1 hp0
    obtain ⟨a, b, c⟩ := p
    simp only [Prod.mk.injEq] at e
    rw [hpl 0 a b c hp, e.1, e.2]
   obtain ⟨cells', hfill, hrep⟩ := vParts_sound (place := fun i => ((fs.toList.map fun f => (f.offset, (szT P f.type).getD 0))[i]?)) hpl [(0, x)] _ cs _ hops hp hz0
   refine ⟨.agg cells', exec_v (hex ac) ?_, mkAgg_rep hrep⟩
   have hm := mapM_places (P := P) fs.toList (List.all_eq_true.1 hf) w
   unfold Instr.build
   simp only [Sem.run_bind, hzr, Result.andThen_ok, run_underlying hu]
   have hm2 : (fs.mapM (m := Sem) fun f => do pure (f.offset, ← sizeOf f.type)).run P w = .ok (fs.toList.map fun f => (f.offset, (szT P f.type).getD 0)).toArray w := by
    rw [Array.mapM_eq_mapM_toList]
    simp only [Sem.run_map, hm, Result.andThen_ok]
   simp only [hm2, Result.andThen_ok]
   have : (fun (x : Nat) => ((fs.toList.map fun f => (f.offset, (szT P f.type).getD 0)).toArray[x]?)) = fun (i : Nat) => ((fs.toList.map fun f => (f.offset, (szT P f.type).getD 0))[i]?) := by
    funext i; simp
   have hzc' : z.cells = (.pointer none :: vs : List Value).toArray := by rw [← hzc]
   simp only [List.map_cons, List.map_nil] at hfill
   rw [this, hzc']
   have hff := fill_fst (place := fun i => ((fs.toList.map fun f => (f.offset, (szT P f.type).getD 0))[i]?)) h00 (.pointer none) (.bool false) vs (ac.eval x)
   simp only [List.map_cons, List.map_nil]
   rw [hff, hfill]
   rfl
  ·rename_i hu
   rw [hu] at hst; cases hst
  ·cases hf
 ·exact h.elim
theorem seqSem_ap (all : List Oper) (K : AS → Prop) (l2 : List Oper) : ∀ (l1 : List Oper) (σ : AS), seqSem P n all l1 σ (fun τ => seqSem P n all l2 τ K) → seqSem P n all (l1 ++ l2) σ K
 | [], σ, h => h
 | o :: os, σ, h => by
  refine guardT_map h (fun h => ?_) (fun h => ⟨h.1, seqSem_ap all K l2 os _ h.2⟩)
  cases h with
  | pure t h hd k => exact .pure t h hd (seqSem_ap all K l2 os _ k)
  | eff t B' h hd k => exact .eff t B' h hd (seqSem_ap all K l2 os _ k)
  | gen j t B' h hj hf hd k => exact .gen j t B' h hj hf hd (seqSem_ap all K l2 os _ k)
  | genx js t B' h hj hf hd k => exact .genx js t B' h hj hf hd (seqSem_ap all K l2 os _ k)
theorem seqSem_mn (all : List Oper) {K K' : AS → Prop} (hk : ∀ τ, K τ → K' τ) : ∀ (l1 : List Oper) (σ : AS), seqSem P n all l1 σ K → seqSem P n all l1 σ K'
 | [], σ, h => hk _ h
 | o :: os, σ, h => by
  refine guardT_map h (fun h => ?_) (fun h => ⟨h.1, seqSem_mn all hk os _ h.2⟩)
  cases h with
  | pure t h hd k => exact .pure t h hd (seqSem_mn all hk os _ k)
  | eff t B' h hd k => exact .eff t B' h hd (seqSem_mn all hk os _ k)
  | gen j t B' h hj hf hd k => exact .gen j t B' h hj hf hd (seqSem_mn all hk os _ k)
  | genx js t B' h hj hf hd k => exact .genx js t B' h hj hf hd (seqSem_mn all hk os _ k)
/-- a region in which operation i builds a struct whose first field, a pointer, is given -/
theorem AWP.bldP {id : Nat} {l : List Oper} {env : Env} {B : Bx} (i : Nat) {o : Oper} {t : TypeId} {x : Operand} (zs : List C) (hi : l[i]? = some o) (ho : o.op = .build t #[(0, x)]) (hg : o.guard = none) (hd : dstsOk n l = true) (hz : zptB P t zs = true) (hp0 : (prtT P t 0).map (fun p => (p.1, p.2.1)) = some (0, 1)) (hst : (match P.underlying t with | some (.struct _) => true | _ => false) = true) (hf : fieldsOk P t = true)
  (h : ∀ K : Env → Bx → Prop, (∀ e b, Q .normal ⟨e, b⟩ → K e b) → seqVC P l (l.take i) env B fun env1 B1 => vBuildP P t zs env1 x fun u => seqVC P l (l.drop (i + 1)) (putE env1 o.dst u) B1 K) : AWP P n (.region id l.toArray false) ⟨env, B⟩ Q := by
 refine AWP.region_seq fun K hK => ?_
 have hsub : ∀ l' : List Oper, (∀ x ∈ l', x ∈ l) → dstsOk n l' = true := fun l' hs => List.all_eq_true.2 fun x hx => List.all_eq_true.1 hd x (hs x hx)
 have hil : i < l.length := (List.getElem?_eq_some_iff.1 hi).1
 have hoi : l[i] = o := (List.getElem?_eq_some_iff.1 hi).2
 have e : l = l.take i ++ (o :: l.drop (i + 1)) := by
  conv => lhs; rw [← List.take_append_drop i l]
  rw [List.drop_eq_getElem_cons hil, hoi]
 have hv := h (fun e b => K ⟨e, b⟩) (fun e b q => hK _ q)
 have hs : seqSem P n l (l.take i) ⟨env, B⟩ (fun τ => seqSem P n l (o :: l.drop (i + 1)) τ K) := by
  refine seqSem_mn l ?_ _ _ (seqVC_sound l (fun τ => vBuildP P t zs τ.env x fun u => seqVC P l (l.drop (i + 1)) (putE τ.env o.dst u) τ.B fun e b => K ⟨e, b⟩) (l.take i) env B (hsub _ fun x hx => List.mem_of_mem_take hx) hv)
  rintro ⟨env1, B1⟩ hb
  obtain ⟨u, hop, hk⟩ := vBuildP_sound (B := B1) ho hz hp0 hst hf hb
  unfold seqSem guardT
  rw [hg]
  have ho1 : dstOk n o = true := by
   have := List.all_eq_true.1 hd o (List.mem_of_getElem? hi)
   simp only [Bool.and_eq_true] at this
   exact this.1
  exact .pure u hop ho1 (by rw [put_as]; exact seqVC_sound l K (l.drop (i + 1)) _ B1 (hsub _ fun x hx => List.mem_of_mem_drop hx) hk)
 have := seqSem_ap l K (o :: l.drop (i + 1)) (l.take i) ⟨env, B⟩ hs
 rw [← e] at this
 exact this
attribute [go_sem] vBuildP
end Go.Sx
set_option linter.unusedSimpArgs false
set_option linter.unusedVariables false
set_option maxRecDepth 20000
set_option maxHeartbeats 16000000
namespace Go.Proofs.YtogponhonjiidaaGreatDoor
open Go Go.Sx
open Nat renaming reduceBEq → zA, reduceBNe → zB, reduceAdd → zC, reduceSub → zD, reduceMul → zE, reduceLeDiff → zF, reduceLT → zG, reduceEqDiff → zH
open Int renaming reduceToNat → zI, reduceLE → zJ, reduceLT → zK, reduceEq → zL
open Bool renaming not_eq_true' → zM, not_eq_false' → zN
theorem new_c (l : List Int) (hl : l.length ≤ 9223372036854775807) : PCX Tryz.prog 13 [.one (.dat (.sl 1 (l.map encZ)))] [] (.one (.ptr 11 0)) [(11, .cells [.ptr 9 0, .dat (.nil 4), .dat (.int .i64 0), .dat (.bool false), .dat (.int .i64 0)]), (9, .cells [.dat (.sl 1 ((l.take 50).map encZ)), .dat (.int .i64 0)])] := by
 have hcut : (l.map encZ).take (if 50 < (l.length : Int) then 50 else (l.length : Int)).toNat = (l.take 50).map encZ := by
  rw [← List.map_take]
  congr 1
  split
  ·rfl
  ·rw [Int.toNat_natCast, List.take_length, List.take_of_length_le (by omega)]
 refine PCX.of_body Tryz.func13 rfl (by decide) Tryz.ntmps13 Tryz.results13 rfl rfl ?_
 refine AWP.ghQ ?_
 repeat' (first | ( refine AWP.nilP (id := 0) rfl (by simp only [go_sem, zA, zB, zC, zD, zE, zF, zG, reduceCtorEq, zH, zI, zJ, zK, zL, List.length_map, List.drop_zero, hcut]) ?_) | ( refine AWP.bldP (id := 1) 7 [.nil 4, .int .i64 0, .bool false, .int .i64 0] rfl rfl rfl (by kernel_rfl) (by kernel_rfl) (by kernel_rfl) (by kernel_rfl) (by kernel_rfl) fun K hK => ?_; simp only [List.take_succ_cons, List.take_zero, List.drop_succ_cons, List.drop_zero]) | (simp only [go_sem, zA, zB, zC, zD, zE, zF, zG, reduceCtorEq, zH, zI, zJ, zK, zL, List.length_map, List.drop_zero, hcut]; all_goals fail_if_success guard_target =ₛ False) | (with_reducible first | ((first | refine seqVC_stepN rfl ?_ | refine AWP.seq ?_ | refine AWP.seqR (by kernel_rfl) ?_); intro K hK) | ((first | refine hK _ _ _ ?_ | refine hK _ _ ?_ | refine hK _ ?_); clear hK K) | refine seqVC_nil ?_ | refine AWP.block ?_ | (refine AWP.cond (by with_unfolding_all rfl) ?_ ?_ <;> intro h <;> (try simp only [zM, zN] at h) <;> try exact absurd h (by decide)) | refine AWP.skip ?_ | refine AWP.ret ?_ | refine AWP.exit ?_ | (refine ⟨by split <;> omega, by split <;> omega, ?_⟩) | refine Or.inl ?_) | (clear hK K))
 all_goals exact ⟨_, Gh.refl _, rfl, fun x hx => hx⟩
theorem new_x (l : List Int) (hl : l.length ≤ 9223372036854775807) : PCX Tryz.prog 13 [.one (.dat (.sl 1 (l.map encZ)))] [] (.one (.ptr 1011 0)) [(1011, .cells [.ptr 1009 0, .dat (.nil 4), .dat (.int .i64 0), .dat (.bool false), .dat (.int .i64 0)]), (1009, .cells [.dat (.sl 1 ((l.take 50).map encZ)), .dat (.int .i64 0)])] :=
 (new_c l hl).ren (fun k => k) 1000 rfl rfl rfl rfl rfl
def spoilV (s : List UInt8) (at_ how : Int) (c : UInt8) : List UInt8 :=
 let k := ((IntKind.u64.wrap at_).tmod (s.length : Int)).toNat
 let h := (IntKind.u64.wrap how).tmod 6
 bif decide ((s.length : Int) = 0) then s
 else bif decide (h = 0) then s.take k ++ [c] ++ s.drop k
 else bif decide (h = 1) then s.take k ++ s.drop (k + 1)
 else bif decide (h = 2) then s.take k ++ [c] ++ s.drop (k + 1)
 else bif decide (h = 3) then s.take k else s
theorem spoilV_len (s : List UInt8) (at_ how : Int) (c : UInt8) : (spoilV s at_ how c).length ≤ s.length + 1 := by
 unfold spoilV
 simp only []
 generalize ((IntKind.u64.wrap at_).tmod (s.length : Int)).toNat = k
 cases decide ((s.length : Int) = 0) <;> cases decide ((IntKind.u64.wrap how).tmod 6 = 0) <;> cases decide ((IntKind.u64.wrap how).tmod 6 = 1) <;> cases decide ((IntKind.u64.wrap how).tmod 6 = 2) <;> cases decide ((IntKind.u64.wrap how).tmod 6 = 3) <;> simp only [cond_true, cond_false, List.length_append, List.length_cons, List.length_nil, List.length_take, List.length_drop] <;> omega
theorem spoil_c (s : List UInt8) (hs : s.length ≤ 1000000000) (at_ how : Int) (c : UInt8) : PC Tryz.prog 15 [S s, I .i64 at_, I .i64 how, .one (.dat (.int .u8 (c.toNat : Int)))] (S (spoilV s at_ how c)) := by
 have hmax : 1000000000 + 10 ≤ maxLen := by unfold maxLen; omega
 have hb1 := by1 c
 by_cases h0 : s.length = 0
 ·have hd0 : decide ((s.length : Int) = 0) = true := by rw [decide_eq_true_eq]; omega
  have hv : spoilV s at_ how c = s := by unfold spoilV; simp only [hd0, cond_true]
  refine PCB.of_body Tryz.func15 rfl (by decide) Tryz.ntmps15 Tryz.results15 rfl rfl rfl ?_ rfl rfl
  repeat' (first | (simp only [go_sem, zA, zB, zC, zD, zE, zF, zG, reduceCtorEq, zH, zI, zJ, zK, zL, hd0]; all_goals fail_if_success guard_target =ₛ False) | (with_reducible first | ((first | refine seqVC_stepN rfl ?_ | refine AWP.seq ?_ | refine AWP.seqR (by kernel_rfl) ?_ | refine parVC_stepN rfl ?_ | refine parEVC_stepN rfl ?_ | refine genVC_stepN rfl ?_); intro K hK) | ((first | refine hK _ _ _ ?_ | refine hK _ _ ?_ | refine hK _ ?_); clear hK K) | refine seqVC_nil ?_ | refine parVC_nil ?_ | refine parEVC_nil ?_ | refine genVC_nil ?_ | refine AWP.block ?_ | (refine AWP.cond (by with_unfolding_all rfl) ?_ ?_ <;> intro h <;> (try simp only [zM, zN] at h) <;> try exact absurd h (by decide)) | refine AWP.skip ?_ | refine AWP.ret ?_ | refine AWP.exit ?_ | refine AWP.parR mixed (by kernel_rfl) fun K hK => ?_ | refine ⟨(by kernel_rfl : depB _ _ _ = true), ?_⟩ | refine Or.inl ?_) | (clear hK K))
  all_goals (first | exact fun _ h => absurd h List.not_mem_nil | refine fin0 ?_)
  all_goals (rw [hv])
 ·have hd0 : decide ((s.length : Int) = 0) = false := by rw [decide_eq_false_iff_not]; omega
  have hwl : IntKind.u64.wrap (s.length : Int) = (s.length : Int) := by rw [IntKind.wrap_u64]; omega
  have hk0 : 0 ≤ (IntKind.u64.wrap at_).tmod (s.length : Int) := Int.tmod_nonneg _ (by rw [IntKind.wrap_u64]; omega)
  have hk1 : (IntKind.u64.wrap at_).tmod (s.length : Int) < (s.length : Int) := Int.tmod_lt_of_pos _ (by omega)
  have hsv : spoilV s at_ how c = spoilV s at_ how c := rfl
  conv at hsv => rhs; unfold spoilV
  simp only [hd0, cond_false] at hsv
  have hnz : ¬ (s.length : Int) = 0 := by omega
  obtain ⟨k, hke⟩ : ∃ k : Nat, (IntKind.u64.wrap at_).tmod (s.length : Int) = (k : Int) := ⟨_, (Int.toNat_of_nonneg hk0).symm⟩
  rw [hke] at hk0 hk1 hsv
  rw [Int.toNat_natCast] at hsv
  have hwk : IntKind.i64.wrap (k : Int) = (k : Int) := wrapI _ (by omega) (by omega)
  have hwk1 : IntKind.i64.wrap ((k : Int) + 1) = ((k + 1 : Nat) : Int) := by rw [wrapI _ (by omega) (by omega)]; rfl
  have h6 : IntKind.u64.wrap 6 = 6 := by decide
  obtain ⟨hh, hhe⟩ : ∃ hh : Int, (IntKind.u64.wrap how).tmod 6 = hh := ⟨_, rfl⟩
  rw [hhe] at hsv
  refine PCB.of_body Tryz.func15 rfl (by decide) Tryz.ntmps15 Tryz.results15 rfl rfl rfl ?_ rfl rfl
  repeat' (first | (simp only [go_sem, zA, zB, zC, zD, zE, zF, zG, reduceCtorEq, zH, zI, zJ, zK, zL, hd0, hke, hhe, hwl, hwk, hwk1, h6, hb1, Int.toNat_natCast]; all_goals fail_if_success guard_target =ₛ False) | (with_reducible first | ((first | refine seqVC_stepN rfl ?_ | refine AWP.seq ?_ | refine AWP.seqR (by kernel_rfl) ?_ | refine parVC_stepN rfl ?_ | refine parEVC_stepN rfl ?_ | refine genVC_stepN rfl ?_); intro K hK) | ((first | refine hK _ _ _ ?_ | refine hK _ _ ?_ | refine hK _ ?_); clear hK K) | refine seqVC_nil ?_ | refine parVC_nil ?_ | refine parEVC_nil ?_ | refine genVC_nil ?_ | refine AWP.block ?_ | (refine AWP.cond (by with_unfolding_all rfl) ?_ ?_ <;> intro h <;> (try simp only [zM, zN] at h) <;> try exact absurd h (by decide)) | refine AWP.skip ?_ | refine AWP.ret ?_ | refine AWP.exit ?_ | (refine ⟨(by first | omega | (simp only [List.length_append, List.length_map, List.length_take, List.length_drop, List.length_cons, List.length_nil, List.length_replicate]; omega) : _ ≤ _), ?_⟩) | refine ⟨by omega, by omega, ?_⟩ | refine ⟨by omega, by omega, ?_⟩ | refine ⟨hnz, ?_⟩ | refine ⟨by decide, ?_⟩ | refine AWP.parR mixed (by kernel_rfl) fun K hK => ?_ | refine ⟨(by kernel_rfl : depB _ _ _ = true), ?_⟩ | refine Or.inl ?_) | (clear hK K))
  all_goals (simp only [hsv, *, cond_true, cond_false, List.drop_zero, List.take_length]; first | exact ⟨rfl, fun x hx => hx⟩ | exact fun x hx => hx | exact ⟨trivial, fun x hx => hx⟩)
/-- the text of a module made of numbers -/
def gen0 (l : List Int) : Gn := ⟨⟨l.take 50, 0⟩, 0⟩
def textV (l : List Int) : List UInt8 := (moduleV (Cst0 0 true) [109] (gen0 l)).1
def InI (l : List Int) : Prop := ∀ x ∈ l, -9223372036854775808 ≤ x ∧ x ≤ 9223372036854775807
theorem gen0_ok (l : List Int) (h : InI l) : (gen0 l).s.ok := ⟨fun x hx => h x (List.mem_of_mem_take hx), by simp only [gen0, List.length_take]; omega⟩
theorem textV_len (l : List Int) (h : InI l) : (textV l).length ≤ 200000 := (moduleV_fine (Cst0 0 true) rfl [109] (by simp) (gen0 l) (gen0_ok l h)).2
theorem made_c (l : List Int) (hl : l.length ≤ 9223372036854775807) (h : InI l) (at_ how : Int) (c : UInt8) : PC Tryz.prog 6 [.one (.dat (.sl 1 (l.map encZ))), I .i64 at_, I .i64 how, .one (.dat (.int .u8 (c.toNat : Int)))] (S (spoilV (textV l) at_ how c)) := by
 have htl := textV_len l h
 have hn := new_x l hl
 have hm := PCB.ren (module_c 0 true rfl (gen0 l) (gen0_ok l h) [109] (by simp)) (fun k => bif k == 1000000 then 1011 else 1009) rfl rfl rfl rfl rfl rfl
 have hs := spoil_c (textV l) (by omega) at_ how c
 unfold textV at hs ⊢
 refine PCB.of_body Tryz.func6 rfl (by decide) Tryz.ntmps6 Tryz.results6 rfl rfl rfl ?_ rfl rfl
 repeat' (first | (simp only [go_sem, zA, zB, zC, zD, zE, zF, zG, reduceCtorEq, zH, zI, zJ, zK, zL, Bx.puts]; all_goals fail_if_success guard_target =ₛ False) | (with_reducible first | ((first | refine seqVC_stepN rfl ?_ | refine AWP.seq ?_ | refine AWP.seqR (by kernel_rfl) ?_); intro K hK) | ((first | refine hK _ _ _ ?_ | refine hK _ _ ?_ | refine hK _ ?_); clear hK K) | refine seqVC_nil ?_ | refine AWP.block ?_ | (refine AWP.cond (by with_unfolding_all rfl) ?_ ?_ <;> intro h <;> (try simp only [zM, zN] at h) <;> try exact absurd h (by decide)) | refine AWP.skip ?_ | refine AWP.ret ?_ | refine AWP.exit ?_ | refine ⟨_, hs, ?_⟩) | (refine Or.inr (Or.inr (vCallX.mk hn (by repeat (first | exact trivial | refine And.intro rfl ?_)) (by rfl) (by first | rfl | (simp only [newNames, List.all_cons, List.all_nil, go_sem, zA, zB, zC, zD, zE, zF, zG, reduceCtorEq, zH, zI, zJ, zK, zL, Bx.puts] <;> rfl)) (by rfl) (by rfl) ?_))) | ( refine Or.inr ⟨_, _, _, hm, ⟨rfl, rfl, trivial⟩, rfl, rfl, ?_⟩) | (with_reducible first | refine Or.inl ?_) | (clear hK K))
 all_goals (first | exact fun _ h => absurd h List.not_mem_nil | refine fin0 ?_)
 all_goals rfl
end Go.Proofs.YtogponhonjiidaaGreatDoor

