/- A part of the proof: lemmas about the walk of the program and about plain integers and lists. No conditions beyond those that each lemma states. -/
import Derived.Test.YtogponhonjiidaaDoorTn10
import Derived.Test.YtogponhonjiidaaDoorTn6
set_option linter.unusedSimpArgs false
set_option linter.unusedVariables false
set_option maxRecDepth 20000
set_option maxHeartbeats 16000000
namespace Go.Proofs.YtogponhonjiidaaDoor
open Go Go.Sx
open Nat renaming reduceBEq → zA, reduceBNe → zB, reduceAdd → zC, reduceSub → zD, reduceMul → zE, reduceLeDiff → zF, reduceLT → zG, reduceEqDiff → zH
open Int renaming reduceToNat → zI, reduceLE → zJ, reduceLT → zK, reduceEq → zL
open Bool renaming not_eq_true' → zM, not_eq_false' → zN
def fghL : List (List UInt8) := [[102], [103], [104]]
def parN : Nat → List Int × Gn → List Int × Gn
  | 0, r => r
  | k + 1, r => parN k (r.1 ++ [drawV r.2.s 8], nxt r.2 8)
def calN (mod : List UInt8) (i : Nat) (g : Gn) : CalD × Gn :=
  (⟨mod, fghL.getD i [], (parN (drawV (nxt g 8).s 3).toNat ([], nxt (nxt g 8) 3)).1, drawV g.s 8⟩, (parN (drawV (nxt g 8).s 3).toNat ([], nxt (nxt g 8) 3)).2)
def calsAt (mod : List UInt8) (g : Gn) : Nat → List CalD × Gn
  | 0 => ([], g)
  | i + 1 => ((calsAt mod g i).1 ++ [(calN mod i (calsAt mod g i).2).1], (calN mod i (calsAt mod g i).2).2)
theorem parN_fine : ∀ (k : Nat) (r : List Int × Gn), r.2.s.ok → (∀ p ∈ r.1, 0 ≤ p ∧ p < 8) → (parN k r).2.s.ok ∧ (∀ p ∈ (parN k r).1, 0 ≤ p ∧ p < 8) ∧ (parN k r).1.length = r.1.length + k
  | 0, r, h, hp => ⟨h, hp, rfl⟩
  | k + 1, r, h, hp => by
    have ih := parN_fine k (r.1 ++ [drawV r.2.s 8], nxt r.2 8) (ok_nxt h 8) (fun p hm => by
      rcases List.mem_append.1 hm with hm | hm
      · exact hp p hm
      · rw [List.mem_singleton.1 hm]; exact drawV_in r.2.s (n := 8) (by omega))
    refine ⟨ih.1, ih.2.1, ?_⟩
    have := ih.2.2
    simp only [List.length_append, List.length_cons, List.length_nil] at this
    simp only [parN]; omega
theorem calN_fine (mod : List UInt8) (hm : mod.length ≤ 100) (i : Nat) (hi : i < 3) (g : Gn) (hg : g.s.ok) : (calN mod i g).2.s.ok ∧ CalOk (calN mod i g).1 ∧ HdOk (calN mod i g).1 := by
  have hv := drawV_in (nxt g 8).s (n := 3) (by omega)
  have h := parN_fine (drawV (nxt g 8).s 3).toNat ([], nxt (nxt g 8) 3) (ok_nxt (ok_nxt hg 8) 3) (fun p hp => by cases hp)
  have hn : (fghL.getD i []).length ≤ 100 := by
    have : ∀ i, i < 3 → (fghL.getD i []).length ≤ 100 := by decide
    exact this i hi
  refine ⟨h.1, ⟨hm, hn, ?_⟩, drawV_in g.s (n := 8) (by omega), h.2.1⟩
  have := h.2.2
  simp only [List.length_nil] at this
  simp only [calN]; omega
theorem calsAt_fine (mod : List UInt8) (hm : mod.length ≤ 100) (g : Gn) (hg : g.s.ok) : ∀ i, i ≤ 3 → (calsAt mod g i).2.s.ok ∧ (calsAt mod g i).1.length = i ∧ ∀ d ∈ (calsAt mod g i).1, CalOk d ∧ HdOk d
  | 0, _ => ⟨hg, rfl, fun d hd => by cases hd⟩
  | i + 1, hi => by
    have ih := calsAt_fine mod hm g hg i (by omega)
    have h := calN_fine mod hm i (by omega) _ ih.1
    refine ⟨h.1, by simp only [calsAt, List.length_append, List.length_cons, List.length_nil]; omega, fun d hd => ?_⟩
    rcases List.mem_append.1 hd with hd | hd
    · exact ih.2.2 d hd
    · rw [List.mem_singleton.1 hd]; exact h.2
theorem int_snoc (l : List Int) (n : Int) : l.map encZ ++ [[C.int .i64 n]] = (l ++ [n]).map encZ := by rw [List.map_append]; rfl
theorem callees_c (c : Cst) (g : Gn) (hg : g.s.ok) (mod : List UInt8) (hm : mod.length ≤ 100) (n : Nat) (hn : n ≤ 3) : PCB Tryd.prog 31 [Sp 1000000, S mod, I .i64 (n : Int)] (gB c g) (.one (.dat (.sl 4 ((calsAt mod g n).1.map encCal)))) (gB c (calsAt mod g n).2) := by
  have hmax : 1000000 ≤ maxLen := by unfold maxLen; omega
  have hca := calsAt_fine mod hm g hg
  refine PCB.of_body Tryd.func31 rfl (by decide) Tryd.ntmps31 Tryd.results31 rfl rfl rfl ?_ rfl rfl
  repeat' (first | (simp only [go_sem, zA, zB, zC, zD, zE, zF, zG, reduceCtorEq, zH, zI, zJ, zK, zL, List.length_map]; all_goals fail_if_success guard_target =ₛ False) | (with_reducible first | ((first | refine seqVC_stepN rfl ?_ | refine AWP.seq ?_ | refine AWP.seqR (by kernel_rfl) ?_ | refine parVC_stepN rfl ?_ | refine parEVC_stepN rfl ?_ | refine genVC_stepN rfl ?_); intro K hK) | ((first | refine hK _ _ _ ?_ | refine hK _ _ ?_ | refine hK _ ?_); clear hK K) | refine seqVC_nil ?_ | refine parVC_nil ?_ | refine parEVC_nil ?_ | refine genVC_nil ?_ | refine AWP.block ?_ | (refine AWP.cond (by with_unfolding_all rfl) ?_ ?_ <;> intro h <;> (try simp only [zM, zN] at h) <;> try exact absurd h (by decide)) | refine AWP.skip ?_ | refine AWP.ret ?_ | refine AWP.exit ?_ | (refine AWP.segP (id := 5) 11 mixed (by kernel_rfl) fun K hK => ?_; simp only [List.take_succ_cons, List.take_zero, List.drop_succ_cons, List.drop_zero]) | (refine AWP.segP (id := 9) 8 mixed (by kernel_rfl) fun K hK => ?_; simp only [List.take_succ_cons, List.take_zero, List.drop_succ_cons, List.drop_zero]) | refine AWP.parR mixed (by kernel_rfl) fun K hK => ?_ | refine ⟨(by kernel_rfl : depB _ _ _ = true), ?_⟩ | refine Or.inl ?_) | (clear hK K))
  refine AWP.gh (Gh.nilrow 7 900 rfl rfl rfl (by simp [Bx.fresh, Cell.freshs, Cell.fresh])) ?_
  refine AWP.loopF (X := Nat) (fun i => [(7, .one (.own 900 i)), (8, I .i64 (i : Int))]) (fun i => [(900, .row 4 ((calsAt mod g i).1.map encCal)), (1000000, mkB c (calsAt mod g i).2), (1000001, srcB (calsAt mod g i).2.s)]) [0, 1, 2] [] (fun i => i ≤ n) (fun i => n - i) (0) (by simp only [go_sem, zA, zB, zC, zD, zE, zF, zG, reduceCtorEq, zH, zI, zJ, zK, zL]; exact Gh.to [] (by repeat (first | exact trivial | refine ⟨rfl, ?_⟩ | refine ⟨by (simp only [go_sem, zA, zB, zC, zD, zE, zF, zG, reduceCtorEq, zH, zI, zJ, zK, zL, List.length_append, List.length_map, List.length_cons, List.length_nil, Nat.zero_add]) <;> rfl, ?_⟩)) (by repeat (first | exact trivial | refine ⟨rfl, ?_⟩ | refine ⟨by (simp only [go_sem, zA, zB, zC, zD, zE, zF, zG, reduceCtorEq, zH, zI, zJ, zK, zL, List.length_append, List.length_map, List.length_cons, List.length_nil, Nat.zero_add]) <;> rfl, ?_⟩)) rfl rfl rfl) ?_ ?_
  · exact Nat.zero_le _
  rintro i hi
  simp only [go_sem, zA, zB, zC, zD, zE, zF, zG, reduceCtorEq, zH, zI, zJ, zK, zL]
  by_cases hlt : i < n
  · have hd : decide ((i : Int) < (n : Int)) = true := by rw [decide_eq_true_eq]; omega
    have hok := (hca i (by omega)).1
    have hli := (hca i (by omega)).2.1
    have hsuc : calsAt mod g (i + 1) = ((calsAt mod g i).1 ++ [(calN mod i (calsAt mod g i).2).1], (calN mod i (calsAt mod g i).2).2) := rfl
    generalize calsAt mod g i = r at *
    obtain ⟨l, g1⟩ := r
    simp only at hok hli hsuc
    have hwi : IntKind.i64.wrap ((i : Int) + 1) = ((i + 1 : Nat) : Int) := by rw [wrapI _ (by omega) (by omega)]; rfl
    have hf := lit_get (fun x => [C.str x]) fghL [] (v := (i : Int)) ⟨by omega, by show _ < (3 : Int); omega⟩
    rw [Int.toNat_natCast] at hf
    repeat' (first | (simp only [go_sem, zA, zB, zC, zD, zE, zF, zG, reduceCtorEq, zH, zI, zJ, zK, zL, List.length_map, hd, hwi]; all_goals fail_if_success guard_target =ₛ False) | (with_reducible first | ((first | refine seqVC_stepN rfl ?_ | refine AWP.seq ?_ | refine AWP.seqR (by kernel_rfl) ?_ | refine parVC_stepN rfl ?_ | refine parEVC_stepN rfl ?_ | refine genVC_stepN rfl ?_ | refine genMVC_stepN rfl ?_); intro K hK) | ((first | refine hK _ _ _ ?_ | refine hK _ _ ?_ | refine hK _ ?_); clear hK K) | refine seqVC_nil ?_ | refine parVC_nil ?_ | refine parEVC_nil ?_ | refine genVC_nil ?_ | refine genMVC_nil ?_ | refine AWP.block ?_ | (refine AWP.cond (by with_unfolding_all rfl) ?_ ?_ <;> intro h <;> (try simp only [zM, zN] at h) <;> try exact absurd h (by decide)) | refine AWP.skip ?_ | refine AWP.ret ?_ | refine AWP.exit ?_) | (refine ⟨1000001, _, _, _, draw_k 1000001 g1.s hok 8 (by omega), rfl, ?_⟩) | (refine ⟨1000001, _, _, _, draw_k 1000001 (nxt g1 8).s (ok_nxt hok 8) 3 (by omega), rfl, ?_⟩) | ( refine ⟨by omega, [.str (fghL.getD i [])], hf, ?_⟩) | ( refine ⟨[.str (fghL.getD i [])], hf, ?_⟩) | (with_reducible first | (refine AWP.genC (id := 5) 9 [11] 12 [1000001] mixed (by kernel_rfl) fun K hK => ?_; simp only [genVCC, List.take_succ_cons, List.take_zero, List.drop_succ_cons, List.drop_zero, Bx.outs, Bx.drop, cond_true, cond_false, Nat.reduceBEq, Nat.reduceAdd, Nat.reduceSub, go_sem]) | (refine AWP.segP (id := 9) 8 mixed (by kernel_rfl) fun K hK => ?_; simp only [List.take_succ_cons, List.take_zero, List.drop_succ_cons, List.drop_zero]) | refine AWP.parR mixed (by kernel_rfl) fun K hK => ?_ | refine ⟨(by kernel_rfl : depB _ _ _ = true), ?_⟩ | refine Or.inl ?_) | (clear hK K))
    have hv3 := drawV_in (nxt g1 8).s (n := 3) (by omega)
    have hpf := parN_fine (drawV (nxt g1 8).s 3).toNat ([], nxt (nxt g1 8) 3) (ok_nxt (ok_nxt hok 8) 3) (fun p hp => by cases hp)
    have hcal : calN mod i g1 = (⟨mod, fghL.getD i [], (parN (drawV (nxt g1 8).s 3).toNat ([], nxt (nxt g1 8) 3)).1, drawV g1.s 8⟩, (parN (drawV (nxt g1 8).s 3).toNat ([], nxt (nxt g1 8) 3)).2) := rfl
    have hk3 : ((drawV (nxt g1 8).s 3).toNat : Int) = drawV (nxt g1 8).s 3 := Int.toNat_of_nonneg hv3.1
    generalize hkk : (drawV (nxt g1 8).s 3).toNat = k3 at *
    refine AWP.gh (Gh.nilcell 9 2 901 rfl rfl rfl (by simp only [go_sem, zA, zB, zC, zD, zE, zF, zG, reduceCtorEq, zH, zI, zJ, zK, zL]) (by simp only [go_sem, zA, zB, zC, zD, zE, zF, zG, reduceCtorEq, zH, zI, zJ, zK, zL])) ?_
    refine AWP.loopF (X := Nat × List Int × Gn) (fun t => [(10, I .i64 (t.1 : Int))]) (fun t => [(9, .cells [.dat (.str mod), .dat (.str (fghL.getD i [])), .own 901 t.2.1.length, .dat (.int .i64 (drawV g1.s 8))]), (901, .row 1 (t.2.1.map encZ)), (900, .row 4 (l.map encCal)), (1000000, mkB c t.2.2), (1000001, srcB t.2.2.s)]) [0, 1, 2, 7, 8, 9] [] (fun t => t.2.2.s.ok ∧ t.1 ≤ 3 ∧ t.2.1.length + t.1 ≤ 3 ∧ parN t.1 t.2 = parN k3 ([], nxt (nxt g1 8) 3)) (fun t => t.1) ((k3, [], nxt (nxt g1 8) 3)) (by simp only [go_sem, zA, zB, zC, zD, zE, zF, zG, reduceCtorEq, zH, zI, zJ, zK, zL, hk3]; exact Gh.to [] (by repeat (first | exact trivial | refine ⟨rfl, ?_⟩ | refine ⟨by (simp only [go_sem, zA, zB, zC, zD, zE, zF, zG, reduceCtorEq, zH, zI, zJ, zK, zL, List.length_append, List.length_map, List.length_cons, List.length_nil, Nat.zero_add]) <;> rfl, ?_⟩)) (by repeat (first | exact trivial | refine ⟨rfl, ?_⟩ | refine ⟨by (simp only [go_sem, zA, zB, zC, zD, zE, zF, zG, reduceCtorEq, zH, zI, zJ, zK, zL, List.length_append, List.length_map, List.length_cons, List.length_nil, Nat.zero_add]) <;> rfl, ?_⟩)) rfl rfl rfl) ?_ ?_
    · exact ⟨ok_nxt (ok_nxt hok 8) 3, by omega, by simp only [List.length_nil]; omega, rfl⟩
    rintro ⟨k, ps, g2⟩ ⟨ht1, ht2, ht3, ht4⟩
    simp only at ht1 ht2 ht3 ht4
    simp only [go_sem, zA, zB, zC, zD, zE, zF, zG, reduceCtorEq, zH, zI, zJ, zK, zL]
    cases k with
    | zero =>
      have hd0 : decide (0 < ((0 : Nat) : Int)) = false := by decide
      have hsn : l.map encCal ++ [[.str mod, .str (fghL.getD i []), .sl 1 (ps.map encZ), .int .i64 (drawV g1.s 8)]] = (calsAt mod g (i + 1)).1.map encCal := by
        rw [hsuc, hcal, ← ht4]; exact cal_snoc l ⟨mod, fghL.getD i [], ps, drawV g1.s 8⟩
      have hln : (calsAt mod g (i + 1)).1.length = i + 1 := by rw [hsuc]; simp only [List.length_append, List.length_cons, List.length_nil]; omega
      have hg2 : (calsAt mod g (i + 1)).2 = g2 := by rw [hsuc, hcal, ← ht4]; rfl
      refine AWP.gh (Gh.freeze 901 rfl rfl (by simp only [go_sem, zA, zB, zC, zD, zE, zF, zG, reduceCtorEq, zH, zI, zJ, zK, zL, List.length_map]) (by simp only [go_sem, zA, zB, zC, zD, zE, zF, zG, reduceCtorEq, zH, zI, zJ, zK, zL, List.length_map])) ?_
      simp only [go_sem, zA, zB, zC, zD, zE, zF, zG, reduceCtorEq, zH, zI, zJ, zK, zL, List.length_map]
      repeat' (first | (simp only [go_sem, zA, zB, zC, zD, zE, zF, zG, reduceCtorEq, zH, zI, zJ, zK, zL, List.length_map, hd0, hwi, hsn, hln]; all_goals fail_if_success guard_target =ₛ False) | (with_reducible first | ((first | refine seqVC_stepN rfl ?_ | refine AWP.seq ?_ | refine AWP.seqR (by kernel_rfl) ?_ | refine parVC_stepN rfl ?_ | refine parEVC_stepN rfl ?_ | refine genVC_stepN rfl ?_); intro K hK) | ((first | refine hK _ _ _ ?_ | refine hK _ _ ?_ | refine hK _ ?_); clear hK K) | refine seqVC_nil ?_ | refine parVC_nil ?_ | refine parEVC_nil ?_ | refine genVC_nil ?_ | refine AWP.block ?_ | (refine AWP.cond (by with_unfolding_all rfl) ?_ ?_ <;> intro h <;> (try simp only [zM, zN] at h) <;> try exact absurd h (by decide)) | refine AWP.skip ?_ | refine AWP.ret ?_ | refine AWP.exit ?_ | refine ⟨hli.symm, by omega, ?_⟩ | refine ⟨(by omega : _ ≤ _), ?_⟩ | (refine ⟨(by first | omega | (simp only [List.length_append, List.length_map, List.length_take, List.length_drop, List.length_cons, List.length_nil, List.length_replicate]; omega) : _ ≤ _), ?_⟩) | refine ⟨by omega, by omega, ?_⟩ | (refine AWP.segP (id := 5) 11 mixed (by kernel_rfl) fun K hK => ?_; simp only [List.take_succ_cons, List.take_zero, List.drop_succ_cons, List.drop_zero]) | (refine AWP.segP (id := 9) 8 mixed (by kernel_rfl) fun K hK => ?_; simp only [List.take_succ_cons, List.take_zero, List.drop_succ_cons, List.drop_zero]) | refine AWP.parR mixed (by kernel_rfl) fun K hK => ?_ | refine ⟨(by kernel_rfl : depB _ _ _ = true), ?_⟩ | refine Or.inl ?_) | (clear hK K))
      all_goals (rw [← hg2]; exact ⟨i + 1, by omega, by omega, Gh.to [(900, 49)] (by repeat (first | exact trivial | refine ⟨rfl, ?_⟩ | refine ⟨by (simp only [go_sem, zA, zB, zC, zD, zE, zF, zG, reduceCtorEq, zH, zI, zJ, zK, zL, List.length_append, List.length_map, List.length_cons, List.length_nil, Nat.zero_add]) <;> rfl, ?_⟩)) (by repeat (first | exact trivial | refine ⟨rfl, ?_⟩ | refine ⟨by (simp only [go_sem, zA, zB, zC, zD, zE, zF, zG, reduceCtorEq, zH, zI, zJ, zK, zL, List.length_append, List.length_map, List.length_cons, List.length_nil, Nat.zero_add]) <;> rfl, ?_⟩)) rfl rfl rfl⟩)
    | succ k =>
      have hd0 : decide (0 < ((k + 1 : Nat) : Int)) = true := by rw [decide_eq_true_eq]; omega
      have hw1 : IntKind.i64.wrap (((k + 1 : Nat) : Int) - 1) = (k : Int) := by rw [wrapI _ (by omega) (by omega)]; omega
      repeat' (first | (simp only [go_sem, zA, zB, zC, zD, zE, zF, zG, reduceCtorEq, zH, zI, zJ, zK, zL, List.length_map, hd0, hw1, int_snoc]; all_goals fail_if_success guard_target =ₛ False) | (with_reducible first | ((first | refine seqVC_stepN rfl ?_ | refine AWP.seq ?_ | refine AWP.seqR (by kernel_rfl) ?_ | refine parVC_stepN rfl ?_ | refine parEVC_stepN rfl ?_ | refine genVC_stepN rfl ?_ | refine gen2VC_stepN rfl ?_); intro K hK) | ((first | refine hK _ _ _ ?_ | refine hK _ _ ?_ | refine hK _ ?_); clear hK K) | refine seqVC_nil ?_ | refine parVC_nil ?_ | refine parEVC_nil ?_ | refine genVC_nil ?_ | refine gen2VC_nil ?_ | refine AWP.block ?_ | (refine AWP.cond (by with_unfolding_all rfl) ?_ ?_ <;> intro h <;> (try simp only [zM, zN] at h) <;> try exact absurd h (by decide)) | refine AWP.skip ?_ | refine AWP.ret ?_ | refine AWP.exit ?_ | (refine ⟨(by first | omega | (simp only [List.length_append, List.length_map, List.length_take, List.length_drop, List.length_cons, List.length_nil, List.length_replicate]; omega) : _ ≤ _), ?_⟩) | refine ⟨by omega, by omega, ?_⟩ | refine ⟨(by omega : _ ≤ _), ?_⟩) | (refine ⟨1000001, _, _, _, draw_k 1000001 g2.s ht1 8 (by omega), rfl, ?_⟩) | (with_reducible first | (refine AWP.genR2 (id := 9) [6,8,10] [1000001,9,901] [1] 10 [1000001,901] mixed (by kernel_rfl) fun K hK => ?_; simp only [Bx.outs, Bx.drop, cond_true, cond_false, Nat.reduceBEq, go_sem]) | (refine AWP.segP (id := 5) 11 mixed (by kernel_rfl) fun K hK => ?_; simp only [List.take_succ_cons, List.take_zero, List.drop_succ_cons, List.drop_zero]) | refine AWP.parR mixed (by kernel_rfl) fun K hK => ?_ | refine ⟨(by kernel_rfl : depB _ _ _ = true), ?_⟩ | refine Or.inl ?_) | (clear hK K))
      all_goals (refine ⟨(k, ps ++ [drawV g2.s 8], nxt g2 8), by simp only; omega, ⟨ok_nxt ht1 8, by omega, by simp only [List.length_append, List.length_cons, List.length_nil]; omega, ht4⟩, Gh.to [(901, 44)] (by repeat (first | exact trivial | refine ⟨rfl, ?_⟩ | refine ⟨by (simp only [go_sem, zA, zB, zC, zD, zE, zF, zG, reduceCtorEq, zH, zI, zJ, zK, zL, List.length_append, List.length_map, List.length_cons, List.length_nil, Nat.zero_add]) <;> rfl, ?_⟩)) (by repeat (first | exact trivial | refine ⟨rfl, ?_⟩ | refine ⟨by (simp only [go_sem, zA, zB, zC, zD, zE, zF, zG, reduceCtorEq, zH, zI, zJ, zK, zL, List.length_append, List.length_map, List.length_cons, List.length_nil, Nat.zero_add]) <;> rfl, ?_⟩)) rfl rfl rfl⟩)
  · have hd : decide ((i : Int) < (n : Int)) = false := by rw [decide_eq_false_iff_not]; omega
    obtain rfl : i = n := by omega
    have hli := (hca i (by omega)).2.1
    generalize calsAt mod g i = r at *
    obtain ⟨l, g1⟩ := r
    simp only at hli
    subst hli
    refine AWP.gh (Gh.freeze 900 rfl rfl (by simp only [go_sem, zA, zB, zC, zD, zE, zF, zG, reduceCtorEq, zH, zI, zJ, zK, zL, List.length_map]) (by simp only [go_sem, zA, zB, zC, zD, zE, zF, zG, reduceCtorEq, zH, zI, zJ, zK, zL, List.length_map])) ?_
    simp only [go_sem, zA, zB, zC, zD, zE, zF, zG, reduceCtorEq, zH, zI, zJ, zK, zL, List.length_map]
    repeat' (first | (simp only [go_sem, zA, zB, zC, zD, zE, zF, zG, reduceCtorEq, zH, zI, zJ, zK, zL, List.length_map, hd]; all_goals fail_if_success guard_target =ₛ False) | (with_reducible first | ((first | refine seqVC_stepN rfl ?_ | refine AWP.seq ?_ | refine AWP.seqR (by kernel_rfl) ?_ | refine parVC_stepN rfl ?_ | refine parEVC_stepN rfl ?_ | refine genVC_stepN rfl ?_); intro K hK) | ((first | refine hK _ _ _ ?_ | refine hK _ _ ?_ | refine hK _ ?_); clear hK K) | refine seqVC_nil ?_ | refine parVC_nil ?_ | refine parEVC_nil ?_ | refine genVC_nil ?_ | refine AWP.block ?_ | (refine AWP.cond (by with_unfolding_all rfl) ?_ ?_ <;> intro h <;> (try simp only [zM, zN] at h) <;> try exact absurd h (by decide)) | refine AWP.skip ?_ | refine AWP.ret ?_ | refine AWP.exit ?_ | (refine AWP.segP (id := 5) 11 mixed (by kernel_rfl) fun K hK => ?_; simp only [List.take_succ_cons, List.take_zero, List.drop_succ_cons, List.drop_zero]) | (refine AWP.segP (id := 9) 8 mixed (by kernel_rfl) fun K hK => ?_; simp only [List.take_succ_cons, List.take_zero, List.drop_succ_cons, List.drop_zero]) | refine AWP.parR mixed (by kernel_rfl) fun K hK => ?_ | refine ⟨(by kernel_rfl : depB _ _ _ = true), ?_⟩ | refine Or.inl ?_) | (clear hK K))
    all_goals exact fun x hx => hx
/-- a clause under way -/
structure Cl where
  s : List UInt8
  env : List NamD
  guard : List UInt8
  g : Gn
def clPar (sp : Bool) (k : Nat) (p : Int) (t : Cl) : Cl :=
  bif sp && decide (k = 0) then ⟨t.s ++ (patternV p t.g).1, t.env, t.guard, (patternV p t.g).2⟩
  else ⟨(bif decide (k = 0) then t.s else t.s ++ [44, 32]) ++ freshV t.g, t.env ++ [⟨freshV t.g, p⟩],
    bif decide (t.guard = []) then (testV (freshV t.g) p (incK t.g)).1 else [40] ++ t.guard ++ [32, 97, 110, 100, 32] ++ (testV (freshV t.g) p (incK t.g)).1 ++ [41], (testV (freshV t.g) p (incK t.g)).2⟩
def clAt (sp : Bool) (d : CalD) (g : Gn) : Nat → Cl
  | 0 => ⟨d.name ++ [40], [], [], g⟩
  | k + 1 => clPar sp k (d.params.getD k 0) (clAt sp d g k)
def clBody (c : Cst) (d : CalD) (n : Nat) (t : Cl) : List UInt8 × Gn :=
  let g2 := bif decide (t.guard = []) then t.g else nxt t.g 5
  let s2 := bif decide (t.guard = []) then t.s ++ [41] else bif decide (0 < drawV t.g.s 5) then t.s ++ [41] ++ ([32, 119, 104, 101, 110, 32] ++ t.guard) else t.s ++ [41]
  (s2 ++ [32, 45, 62, 32] ++ (exprV c n d.res t.env g2).1, (exprV c n d.res t.env g2).2)
def clauseV (c : Cst) (sp : Bool) (d : CalD) (n : Nat) (g : Gn) : List UInt8 × Gn := clBody c d n (clAt sp d g d.params.length)
structure ClOk (k : Nat) (t : Cl) : Prop where
  s : t.s.length ≤ 110 + 60 * k
  env : t.env.length ≤ k
  txt : ∀ x ∈ t.env, x.text.length ≤ 200
  guard : t.guard.length ≤ 600 * k
  g : t.g.s.ok
theorem clPar_ok (sp : Bool) (k : Nat) (p : Int) (t : Cl) (h : ClOk k t) : ClOk (k + 1) (clPar sp k p t) := by
  obtain ⟨h1, h2, h3, h4, h5⟩ := h
  have hf := freshV_len t.g
  unfold clPar
  cases sp && decide (k = 0) with
  | true =>
    have hp := patternV_fine p t.g h5
    exact ⟨by have := hp.2; simp only [cond_true, List.length_append]; omega, by simp only [cond_true]; omega, h3, by simp only [cond_true]; omega, hp.1⟩
  | false =>
    have ht := testV_fine (freshV t.g) (by omega) p (incK t.g) h5
    have hb : (bif decide (k = 0) then t.s else t.s ++ [44, 32]).length ≤ t.s.length + 2 := by cases decide (k = 0) <;> simp
    refine ⟨by simp only [cond_false, List.length_append]; omega, by simp only [cond_false, List.length_append, List.length_cons, List.length_nil]; omega, fun x hx => ?_, ?_, ht.1⟩
    · rcases List.mem_append.1 hx with hx | hx
      · exact h3 x hx
      · rw [List.mem_singleton.1 hx]; simp only; omega
    · have h6 := ht.2
      simp only [cond_false]
      cases decide (t.guard = []) <;> simp only [cond_true, cond_false, List.length_append, List.length_cons, List.length_nil] <;> omega
theorem clAt_ok (sp : Bool) (d : CalD) (hd : CalOk d) (g : Gn) (hg : g.s.ok) : ∀ k, ClOk k (clAt sp d g k)
  | 0 => ⟨by have := hd.2.1; simp only [clAt, List.length_append, List.length_cons, List.length_nil]; omega, Nat.zero_le _, fun x hx => (by cases hx), Nat.zero_le _, hg⟩
  | k + 1 => clPar_ok sp k _ _ (clAt_ok sp d hd g hg k)
theorem clBody_fine {c : Cst} {n m : Nat} {L : Nat} {D : Int} (hE : Good c D m L (exprV c n)) (hm : 2 ≤ m) (d : CalD) (t : Cl) (h : ClOk 2 t) : Fine (L + 2000) (clBody c d n t) := by
  obtain ⟨h1, h2, h3, h4, h5⟩ := h
  have he : EOk m t.env := ⟨by omega, h3⟩
  unfold clBody
  cases decide (t.guard = []) with
  | true =>
    exact ⟨hE.ok _ _ _ h5 he, by have := hE.len d.res t.env t.g h5 he; simp only [cond_true, List.length_append, List.length_cons, List.length_nil]; omega⟩
  | false =>
    cases decide (0 < drawV t.g.s 5) <;> exact ⟨hE.ok _ _ _ (ok_nxt h5 5) he, by have := hE.len d.res t.env (nxt t.g 5) (ok_nxt h5 5) he; simp only [cond_true, cond_false, List.length_append, List.length_cons, List.length_nil]; omega⟩
theorem ClOk.mono {k j : Nat} {t : Cl} (h : ClOk k t) (hkj : k ≤ j) : ClOk j t := ⟨by have := h.s; omega, by have := h.env; omega, h.txt, by have := h.guard; omega, h.g⟩
theorem clauseS_c (c : Cst) (n m L : Nat) (hE : Good c (n : Int) m L (exprV c n)) (hm : 2 ≤ m) (hL : L ≤ 1000000) (hn : n ≤ 10) (g : Gn) (hg : g.s.ok) (d : CalD) (hd : CalOk d) : PCB Tryd.prog 35 [Sp 1000000, .st (encCal d), I .i64 (n : Int), Bo true] (gB c g) (S (clauseV c true d n g).1) (gB c (clauseV c true d n g).2) := by
  have hmax : 10000000 ≤ maxLen := by unfold maxLen; omega
  have hca := clAt_ok true d hd g hg
  have hpl := hd.2.2
  have hnl := hd.2.1
  unfold clauseV
  refine PCB.of_body Tryd.func35 rfl (by decide) Tryd.ntmps35 Tryd.results35 rfl rfl rfl ?_ rfl rfl
  unfold encCal
  repeat' (first | (simp only [go_sem, zA, zB, zC, zD, zE, zF, zG, reduceCtorEq, zH, zI, zJ, zK, zL, List.length_map]; all_goals fail_if_success guard_target =ₛ False) | (with_reducible first | ((first | refine seqVC_stepN rfl ?_ | refine seqVC_stepG rfl (by with_unfolding_all rfl) ?_ | refine AWP.seq ?_ | refine AWP.seqR (by kernel_rfl) ?_); intro K hK) | ((first | refine hK _ _ _ ?_ | refine hK _ _ ?_ | refine hK _ ?_); clear hK K) | refine seqVC_nil ?_ | refine AWP.block ?_ | (refine AWP.cond (by with_unfolding_all rfl) ?_ ?_ <;> intro h <;> (try simp only [zM, zN] at h) <;> try exact absurd h (by decide)) | refine AWP.skip ?_ | refine AWP.ret ?_ | refine AWP.exit ?_ | (refine ⟨fun h => ?_, fun h => ?_⟩ <;> (try simp only [zM, zN] at h) <;> try simp only [h]) | (refine ⟨(by first | omega | (simp only [List.length_append, List.length_map, List.length_take, List.length_drop, List.length_cons, List.length_nil, List.length_replicate]; omega) : _ ≤ _), ?_⟩) | refine ⟨by omega, by omega, ?_⟩ | refine Or.inl ?_) | (clear hK K))
  refine AWP.gh (Gh.nilrow 10 900 rfl rfl rfl (by simp [Bx.fresh, Cell.freshs, Cell.fresh])) ?_
  refine AWP.len 20 rfl fun hlen0 => ?_
  (try rw [List.length_map] at hlen0)
  refine AWP.range (S := Cl) (d.params) encZ (fun k t => (22, I .i64 (k : Nat)) :: [(9, S t.s), (10, .one (.own 900 t.env.length)), (11, S t.guard)]) (fun k t => [(900, .row 2 (t.env.map encNam)), (5, .cells [.dat (.str d.mod), .dat (.str d.name), .dat (.sl 1 (d.params.map encZ)), .dat (.int .i64 d.res)]), (1000000, mkB c t.g), (1000001, srcB t.g.s)]) [0, 2, 3, 5, 20, 21] [] (fun k t => t = clAt true d g k) (⟨d.name ++ [40], [], [], g⟩) (by simp only [go_sem, zA, zB, zC, zD, zE, zF, zG, reduceCtorEq, zH, zI, zJ, zK, zL]; exact Gh.to [] (by repeat (first | exact trivial | refine ⟨rfl, ?_⟩ | refine ⟨by (simp only [go_sem, zA, zB, zC, zD, zE, zF, zG, reduceCtorEq, zH, zI, zJ, zK, zL, List.length_append, List.length_map, List.length_cons, List.length_nil, Nat.zero_add]) <;> rfl, ?_⟩)) (by repeat (first | exact trivial | refine ⟨rfl, ?_⟩ | refine ⟨by (simp only [go_sem, zA, zB, zC, zD, zE, zF, zG, reduceCtorEq, zH, zI, zJ, zK, zL, List.length_append, List.length_map, List.length_cons, List.length_nil, Nat.zero_add]) <;> rfl, ?_⟩)) rfl rfl rfl) ?_ ?_ ?_
  · rfl
  · intro k t p hlt hx hx' hbb hok
    simp only [go_sem, zA, zB, zC, zD, zE, zF, zG, reduceCtorEq, zH, zI, zJ, zK, zL]
    have hok2 := hca k
    have hsuc : clAt true d g (k + 1) = clPar true k p t := by rw [hok]; show clPar true k (d.params.getD k 0) _ = _; rw [List.getD_eq_getElem?_getD, hx]; rfl
    rw [← hok] at hok2
    obtain ⟨h1, h2, h3, h4, h5⟩ := hok2
    have hf := freshV_len t.g
    have htf := testV_fine (freshV t.g) (by omega) p (incK t.g) h5
    have htl := htf.2
    have htc := test_c c (incK t.g) h5 (freshV t.g) (by omega) p
    have hpf := (patternV_fine p t.g h5).2
    by_cases hk0 : k = 0
    · have hd0 : decide (0 < (k : Int)) = false := by rw [decide_eq_false_iff_not]; omega
      have hde : decide ((k : Int) = 0) = true := by rw [decide_eq_true_eq]; omega
      have hcp : clPar true k p t = ⟨t.s ++ (patternV p t.g).1, t.env, t.guard, (patternV p t.g).2⟩ := by unfold clPar; rw [show decide (k = 0) = true from by simp [hk0]]; rfl
      rw [hcp] at hsuc
      repeat' (first | (simp only [go_sem, zA, zB, zC, zD, zE, zF, zG, reduceCtorEq, zH, zI, zJ, zK, zL, List.length_map, hbb, encZ, hd0, hde, Bx.puts]; all_goals fail_if_success guard_target =ₛ False) | (with_reducible first | ((first | refine seqVC_stepN rfl ?_ | refine seqVC_stepG rfl (by with_unfolding_all rfl) ?_ | refine AWP.seq ?_ | refine AWP.seqR (by kernel_rfl) ?_); intro K hK) | ((first | refine hK _ _ _ ?_ | refine hK _ _ ?_ | refine hK _ ?_); clear hK K) | refine seqVC_nil ?_ | refine AWP.block ?_ | (refine AWP.cond (by with_unfolding_all rfl) ?_ ?_ <;> intro h <;> (try simp only [zM, zN] at h) <;> try exact absurd h (by decide)) | refine AWP.skip ?_ | refine AWP.ret ?_ | refine AWP.exit ?_ | (refine ⟨fun h => ?_, fun h => ?_⟩ <;> (try simp only [zM, zN] at h) <;> try simp only [h]) | refine ⟨by omega, encZ p, hx', ?_⟩ | refine ⟨encZ p, hx', ?_⟩ | (refine ⟨(by first | omega | (simp only [List.length_append, List.length_map, List.length_take, List.length_drop, List.length_cons, List.length_nil, List.length_replicate]; omega) : _ ≤ _), ?_⟩) | refine ⟨by omega, by omega, ?_⟩) | ( refine Or.inr ⟨_, _, _, pattern_c c t.g h5 p, ⟨rfl, rfl, trivial⟩, rfl, rfl, ?_⟩) | (with_reducible first | refine Or.inl ?_) | (clear hK K))
      all_goals (rw [wrap_succ hlt hlen0, hsuc]; exact Gh.to [] (by repeat (first | exact trivial | refine ⟨rfl, ?_⟩ | refine ⟨by (simp only [go_sem, zA, zB, zC, zD, zE, zF, zG, reduceCtorEq, zH, zI, zJ, zK, zL, List.length_append, List.length_map, List.length_cons, List.length_nil, Nat.zero_add]) <;> rfl, ?_⟩)) (by repeat (first | exact trivial | refine ⟨rfl, ?_⟩ | refine ⟨by (simp only [go_sem, zA, zB, zC, zD, zE, zF, zG, reduceCtorEq, zH, zI, zJ, zK, zL, List.length_append, List.length_map, List.length_cons, List.length_nil, Nat.zero_add]) <;> rfl, ?_⟩)) rfl rfl rfl)
    · have hd0 : decide (0 < (k : Int)) = true := by rw [decide_eq_true_eq]; omega
      have hde : decide ((k : Int) = 0) = false := by rw [decide_eq_false_iff_not]; omega
      have hcp : clPar true k p t = ⟨t.s ++ [44, 32] ++ freshV t.g, t.env ++ [⟨freshV t.g, p⟩], bif decide (t.guard = []) then (testV (freshV t.g) p (incK t.g)).1 else [40] ++ t.guard ++ [32, 97, 110, 100, 32] ++ (testV (freshV t.g) p (incK t.g)).1 ++ [41], (testV (freshV t.g) p (incK t.g)).2⟩ := by unfold clPar; rw [show decide (k = 0) = false from by simp [hk0], Bool.and_false]; rfl
      rw [hcp] at hsuc
      cases hgd : decide (t.guard = []) with
      | true =>
        rw [hgd, cond_true] at hsuc
        repeat' (first | (simp only [go_sem, zA, zB, zC, zD, zE, zF, zG, reduceCtorEq, zH, zI, zJ, zK, zL, List.length_map, hbb, encZ, hd0, hde, hgd, nam_snoc, Bx.puts]; all_goals fail_if_success guard_target =ₛ False) | (with_reducible first | ((first | refine seqVC_stepN rfl ?_ | refine seqVC_stepG rfl (by with_unfolding_all rfl) ?_ | refine AWP.seq ?_ | refine AWP.seqR (by kernel_rfl) ?_); intro K hK) | ((first | refine hK _ _ _ ?_ | refine hK _ _ ?_ | refine hK _ ?_); clear hK K) | refine seqVC_nil ?_ | refine AWP.block ?_ | (refine AWP.cond (by with_unfolding_all rfl) ?_ ?_ <;> intro h <;> (try simp only [zM, zN] at h) <;> try exact absurd h (by decide)) | refine AWP.skip ?_ | refine AWP.ret ?_ | refine AWP.exit ?_ | (refine ⟨fun h => ?_, fun h => ?_⟩ <;> (try simp only [zM, zN] at h) <;> try simp only [h]) | refine ⟨by omega, encZ p, hx', ?_⟩ | refine ⟨encZ p, hx', ?_⟩ | refine ⟨(by omega : _ ≤ _), ?_⟩ | refine ⟨(by omega : _ ≤ _), (by omega : _ ≤ _), ?_⟩ | (refine ⟨(by first | omega | (simp only [List.length_append, List.length_map, List.length_take, List.length_drop, List.length_cons, List.length_nil, List.length_replicate]; omega) : _ ≤ _), ?_⟩) | refine ⟨by omega, by omega, ?_⟩) | ( refine Or.inr ⟨_, _, _, fresh_c c t.g, ⟨rfl, rfl, trivial⟩, rfl, rfl, ?_⟩) | ( refine Or.inr ⟨_, _, _, htc, ⟨rfl, rfl, trivial⟩, rfl, rfl, ?_⟩) | (with_reducible first | refine Or.inl ?_) | (clear hK K))
        all_goals (rw [wrap_succ hlt hlen0, hsuc]; exact Gh.to [(900, 48)] (by repeat (first | exact trivial | refine ⟨rfl, ?_⟩ | refine ⟨by (simp only [go_sem, zA, zB, zC, zD, zE, zF, zG, reduceCtorEq, zH, zI, zJ, zK, zL, List.length_append, List.length_map, List.length_cons, List.length_nil, Nat.zero_add]) <;> rfl, ?_⟩)) (by repeat (first | exact trivial | refine ⟨rfl, ?_⟩ | refine ⟨by (simp only [go_sem, zA, zB, zC, zD, zE, zF, zG, reduceCtorEq, zH, zI, zJ, zK, zL, List.length_append, List.length_map, List.length_cons, List.length_nil, Nat.zero_add]) <;> rfl, ?_⟩)) rfl rfl rfl)
      | false =>
        rw [hgd, cond_false] at hsuc
        repeat' (first | (simp only [go_sem, zA, zB, zC, zD, zE, zF, zG, reduceCtorEq, zH, zI, zJ, zK, zL, List.length_map, hbb, encZ, hd0, hde, hgd, nam_snoc, Bx.puts]; all_goals fail_if_success guard_target =ₛ False) | (with_reducible first | ((first | refine seqVC_stepN rfl ?_ | refine seqVC_stepG rfl (by with_unfolding_all rfl) ?_ | refine AWP.seq ?_ | refine AWP.seqR (by kernel_rfl) ?_); intro K hK) | ((first | refine hK _ _ _ ?_ | refine hK _ _ ?_ | refine hK _ ?_); clear hK K) | refine seqVC_nil ?_ | refine AWP.block ?_ | (refine AWP.cond (by with_unfolding_all rfl) ?_ ?_ <;> intro h <;> (try simp only [zM, zN] at h) <;> try exact absurd h (by decide)) | refine AWP.skip ?_ | refine AWP.ret ?_ | refine AWP.exit ?_ | (refine ⟨fun h => ?_, fun h => ?_⟩ <;> (try simp only [zM, zN] at h) <;> try simp only [h]) | refine ⟨by omega, encZ p, hx', ?_⟩ | refine ⟨encZ p, hx', ?_⟩ | refine ⟨(by omega : _ ≤ _), ?_⟩ | refine ⟨(by omega : _ ≤ _), (by omega : _ ≤ _), ?_⟩ | (refine ⟨(by first | omega | (simp only [List.length_append, List.length_map, List.length_take, List.length_drop, List.length_cons, List.length_nil, List.length_replicate]; omega) : _ ≤ _), ?_⟩) | refine ⟨by omega, by omega, ?_⟩) | ( refine Or.inr ⟨_, _, _, fresh_c c t.g, ⟨rfl, rfl, trivial⟩, rfl, rfl, ?_⟩) | ( refine Or.inr ⟨_, _, _, htc, ⟨rfl, rfl, trivial⟩, rfl, rfl, ?_⟩) | (with_reducible first | refine Or.inl ?_) | (clear hK K))
        all_goals (rw [wrap_succ hlt hlen0, hsuc]; exact Gh.to [(900, 48)] (by repeat (first | exact trivial | refine ⟨rfl, ?_⟩ | refine ⟨by (simp only [go_sem, zA, zB, zC, zD, zE, zF, zG, reduceCtorEq, zH, zI, zJ, zK, zL, List.length_append, List.length_map, List.length_cons, List.length_nil, Nat.zero_add]) <;> rfl, ?_⟩)) (by repeat (first | exact trivial | refine ⟨rfl, ?_⟩ | refine ⟨by (simp only [go_sem, zA, zB, zC, zD, zE, zF, zG, reduceCtorEq, zH, zI, zJ, zK, zL, List.length_append, List.length_map, List.length_cons, List.length_nil, Nat.zero_add]) <;> rfl, ?_⟩)) rfl rfl rfl)
  · intro t hbb hok
    simp only [go_sem, zA, zB, zC, zD, zE, zF, zG, reduceCtorEq, zH, zI, zJ, zK, zL]
    have hok2 := (hca d.params.length).mono hpl
    rw [← hok] at hok2
    obtain ⟨h1, h2, h3, h4, h5⟩ := hok2
    have he : EOk m t.env := ⟨by omega, h3⟩
    refine AWP.gh (Gh.freeze 900 rfl rfl (by simp only [go_sem, zA, zB, zC, zD, zE, zF, zG, reduceCtorEq, zH, zI, zJ, zK, zL, List.length_map]) (by simp only [go_sem, zA, zB, zC, zD, zE, zF, zG, reduceCtorEq, zH, zI, zJ, zK, zL, List.length_map])) ?_
    simp only [go_sem, zA, zB, zC, zD, zE, zF, zG, reduceCtorEq, zH, zI, zJ, zK, zL, List.length_map]
    cases hgd : decide (t.guard = []) with
    | true =>
      have r0 := hE.run d.res t.env t.g h5 he
      have l0 := hE.len d.res t.env t.g h5 he
      have hbody : clBody c d n t = (t.s ++ [41] ++ [32, 45, 62, 32] ++ (exprV c n d.res t.env t.g).1, (exprV c n d.res t.env t.g).2) := by unfold clBody; rw [hgd]; rfl
      repeat' (first | (simp only [go_sem, zA, zB, zC, zD, zE, zF, zG, reduceCtorEq, zH, zI, zJ, zK, zL, List.length_map, hbb, hgd, Bx.puts]; all_goals fail_if_success guard_target =ₛ False) | (with_reducible first | ((first | refine seqVC_stepN rfl ?_ | refine seqVC_stepG rfl (by with_unfolding_all rfl) ?_ | refine AWP.seq ?_ | refine AWP.seqR (by kernel_rfl) ?_); intro K hK) | ((first | refine hK _ _ _ ?_ | refine hK _ _ ?_ | refine hK _ ?_); clear hK K) | refine seqVC_nil ?_ | refine AWP.block ?_ | (refine AWP.cond (by with_unfolding_all rfl) ?_ ?_ <;> intro h <;> (try simp only [zM, zN] at h) <;> try exact absurd h (by decide)) | refine AWP.skip ?_ | refine AWP.ret ?_ | refine AWP.exit ?_ | (refine ⟨fun h => ?_, fun h => ?_⟩ <;> (try simp only [zM, zN] at h) <;> try simp only [h]) | (refine ⟨(by first | omega | (simp only [List.length_append, List.length_map, List.length_take, List.length_drop, List.length_cons, List.length_nil, List.length_replicate]; omega) : _ ≤ _), ?_⟩) | refine ⟨by omega, by omega, ?_⟩) | (refine ⟨1000001, _, _, _, draw_k 1000001 t.g.s h5 5 (by omega), rfl, ?_⟩) | ( refine Or.inr ⟨_, _, _, r0, ⟨rfl, rfl, trivial⟩, rfl, rfl, ?_⟩) | (with_reducible first | refine Or.inl ?_) | (clear hK K))
      all_goals (rw [← hok, hbody]; exact ⟨rfl, fun x hx => List.mem_cons_of_mem _ hx⟩)
    | false =>
      have r0 := hE.run d.res t.env (nxt t.g 5) (ok_nxt h5 5) he
      have l0 := hE.len d.res t.env (nxt t.g 5) (ok_nxt h5 5) he
      cases hwh : decide (0 < drawV t.g.s 5) with
      | true =>
        have hbody : clBody c d n t = (t.s ++ [41] ++ ([32, 119, 104, 101, 110, 32] ++ t.guard) ++ [32, 45, 62, 32] ++ (exprV c n d.res t.env (nxt t.g 5)).1, (exprV c n d.res t.env (nxt t.g 5)).2) := by unfold clBody; rw [hgd, hwh]; rfl
        repeat' (first | (simp only [go_sem, zA, zB, zC, zD, zE, zF, zG, reduceCtorEq, zH, zI, zJ, zK, zL, List.length_map, hbb, hgd, hwh, Bx.puts]; all_goals fail_if_success guard_target =ₛ False) | (with_reducible first | ((first | refine seqVC_stepN rfl ?_ | refine seqVC_stepG rfl (by with_unfolding_all rfl) ?_ | refine AWP.seq ?_ | refine AWP.seqR (by kernel_rfl) ?_); intro K hK) | ((first | refine hK _ _ _ ?_ | refine hK _ _ ?_ | refine hK _ ?_); clear hK K) | refine seqVC_nil ?_ | refine AWP.block ?_ | (refine AWP.cond (by with_unfolding_all rfl) ?_ ?_ <;> intro h <;> (try simp only [zM, zN] at h) <;> try exact absurd h (by decide)) | refine AWP.skip ?_ | refine AWP.ret ?_ | refine AWP.exit ?_ | (refine ⟨fun h => ?_, fun h => ?_⟩ <;> (try simp only [zM, zN] at h) <;> try simp only [h]) | (refine ⟨(by first | omega | (simp only [List.length_append, List.length_map, List.length_take, List.length_drop, List.length_cons, List.length_nil, List.length_replicate]; omega) : _ ≤ _), ?_⟩) | refine ⟨by omega, by omega, ?_⟩) | (refine ⟨1000001, _, _, _, draw_k 1000001 t.g.s h5 5 (by omega), rfl, ?_⟩) | ( refine Or.inr ⟨_, _, _, r0, ⟨rfl, rfl, trivial⟩, rfl, rfl, ?_⟩) | (with_reducible first | refine Or.inl ?_) | (clear hK K))
        all_goals (rw [← hok, hbody]; exact ⟨rfl, fun x hx => List.mem_cons_of_mem _ hx⟩)
      | false =>
        have hbody : clBody c d n t = (t.s ++ [41] ++ [32, 45, 62, 32] ++ (exprV c n d.res t.env (nxt t.g 5)).1, (exprV c n d.res t.env (nxt t.g 5)).2) := by unfold clBody; rw [hgd, hwh]; rfl
        repeat' (first | (simp only [go_sem, zA, zB, zC, zD, zE, zF, zG, reduceCtorEq, zH, zI, zJ, zK, zL, List.length_map, hbb, hgd, hwh, Bx.puts]; all_goals fail_if_success guard_target =ₛ False) | (with_reducible first | ((first | refine seqVC_stepN rfl ?_ | refine seqVC_stepG rfl (by with_unfolding_all rfl) ?_ | refine AWP.seq ?_ | refine AWP.seqR (by kernel_rfl) ?_); intro K hK) | ((first | refine hK _ _ _ ?_ | refine hK _ _ ?_ | refine hK _ ?_); clear hK K) | refine seqVC_nil ?_ | refine AWP.block ?_ | (refine AWP.cond (by with_unfolding_all rfl) ?_ ?_ <;> intro h <;> (try simp only [zM, zN] at h) <;> try exact absurd h (by decide)) | refine AWP.skip ?_ | refine AWP.ret ?_ | refine AWP.exit ?_ | (refine ⟨fun h => ?_, fun h => ?_⟩ <;> (try simp only [zM, zN] at h) <;> try simp only [h]) | (refine ⟨(by first | omega | (simp only [List.length_append, List.length_map, List.length_take, List.length_drop, List.length_cons, List.length_nil, List.length_replicate]; omega) : _ ≤ _), ?_⟩) | refine ⟨by omega, by omega, ?_⟩) | (refine ⟨1000001, _, _, _, draw_k 1000001 t.g.s h5 5 (by omega), rfl, ?_⟩) | ( refine Or.inr ⟨_, _, _, r0, ⟨rfl, rfl, trivial⟩, rfl, rfl, ?_⟩) | (with_reducible first | refine Or.inl ?_) | (clear hK K))
        all_goals (rw [← hok, hbody]; exact ⟨rfl, fun x hx => List.mem_cons_of_mem _ hx⟩)
theorem clauseN_c (c : Cst) (n m L : Nat) (hE : Good c (n : Int) m L (exprV c n)) (hm : 2 ≤ m) (hL : L ≤ 1000000) (hn : n ≤ 10) (g : Gn) (hg : g.s.ok) (d : CalD) (hd : CalOk d) : PCB Tryd.prog 35 [Sp 1000000, .st (encCal d), I .i64 (n : Int), Bo false] (gB c g) (S (clauseV c false d n g).1) (gB c (clauseV c false d n g).2) := by
  have hmax : 10000000 ≤ maxLen := by unfold maxLen; omega
  have hca := clAt_ok false d hd g hg
  have hpl := hd.2.2
  have hnl := hd.2.1
  unfold clauseV
  refine PCB.of_body Tryd.func35 rfl (by decide) Tryd.ntmps35 Tryd.results35 rfl rfl rfl ?_ rfl rfl
  unfold encCal
  repeat' (first | (simp only [go_sem, zA, zB, zC, zD, zE, zF, zG, reduceCtorEq, zH, zI, zJ, zK, zL, List.length_map]; all_goals fail_if_success guard_target =ₛ False) | (with_reducible first | ((first | refine seqVC_stepN rfl ?_ | refine seqVC_stepG rfl (by with_unfolding_all rfl) ?_ | refine AWP.seq ?_ | refine AWP.seqR (by kernel_rfl) ?_); intro K hK) | ((first | refine hK _ _ _ ?_ | refine hK _ _ ?_ | refine hK _ ?_); clear hK K) | refine seqVC_nil ?_ | refine AWP.block ?_ | (refine AWP.cond (by with_unfolding_all rfl) ?_ ?_ <;> intro h <;> (try simp only [zM, zN] at h) <;> try exact absurd h (by decide)) | refine AWP.skip ?_ | refine AWP.ret ?_ | refine AWP.exit ?_ | (refine ⟨fun h => ?_, fun h => ?_⟩ <;> (try simp only [zM, zN] at h) <;> try simp only [h]) | (refine ⟨(by first | omega | (simp only [List.length_append, List.length_map, List.length_take, List.length_drop, List.length_cons, List.length_nil, List.length_replicate]; omega) : _ ≤ _), ?_⟩) | refine ⟨by omega, by omega, ?_⟩ | refine Or.inl ?_) | (clear hK K))
  refine AWP.gh (Gh.nilrow 10 900 rfl rfl rfl (by simp [Bx.fresh, Cell.freshs, Cell.fresh])) ?_
  refine AWP.len 20 rfl fun hlen0 => ?_
  (try rw [List.length_map] at hlen0)
  refine AWP.range (S := Cl) (d.params) encZ (fun k t => (22, I .i64 (k : Nat)) :: [(9, S t.s), (10, .one (.own 900 t.env.length)), (11, S t.guard)]) (fun k t => [(900, .row 2 (t.env.map encNam)), (5, .cells [.dat (.str d.mod), .dat (.str d.name), .dat (.sl 1 (d.params.map encZ)), .dat (.int .i64 d.res)]), (1000000, mkB c t.g), (1000001, srcB t.g.s)]) [0, 2, 3, 5, 20, 21] [] (fun k t => t = clAt false d g k) (⟨d.name ++ [40], [], [], g⟩) (by simp only [go_sem, zA, zB, zC, zD, zE, zF, zG, reduceCtorEq, zH, zI, zJ, zK, zL]; exact Gh.to [] (by repeat (first | exact trivial | refine ⟨rfl, ?_⟩ | refine ⟨by (simp only [go_sem, zA, zB, zC, zD, zE, zF, zG, reduceCtorEq, zH, zI, zJ, zK, zL, List.length_append, List.length_map, List.length_cons, List.length_nil, Nat.zero_add]) <;> rfl, ?_⟩)) (by repeat (first | exact trivial | refine ⟨rfl, ?_⟩ | refine ⟨by (simp only [go_sem, zA, zB, zC, zD, zE, zF, zG, reduceCtorEq, zH, zI, zJ, zK, zL, List.length_append, List.length_map, List.length_cons, List.length_nil, Nat.zero_add]) <;> rfl, ?_⟩)) rfl rfl rfl) ?_ ?_ ?_
  · rfl
  · intro k t p hlt hx hx' hbb hok
    simp only [go_sem, zA, zB, zC, zD, zE, zF, zG, reduceCtorEq, zH, zI, zJ, zK, zL]
    have hok2 := hca k
    have hsuc : clAt false d g (k + 1) = clPar false k p t := by rw [hok]; show clPar false k (d.params.getD k 0) _ = _; rw [List.getD_eq_getElem?_getD, hx]; rfl
    rw [← hok] at hok2
    obtain ⟨h1, h2, h3, h4, h5⟩ := hok2
    have hf := freshV_len t.g
    have htf := testV_fine (freshV t.g) (by omega) p (incK t.g) h5
    have htl := htf.2
    have htc := test_c c (incK t.g) h5 (freshV t.g) (by omega) p
    have hpf := (patternV_fine p t.g h5).2
    by_cases hk0 : k = 0
    · have hd0 : decide (0 < (k : Int)) = false := by rw [decide_eq_false_iff_not]; omega
      have hde : decide ((k : Int) = 0) = true := by rw [decide_eq_true_eq]; omega
      have hcp : clPar false k p t = ⟨t.s ++ freshV t.g, t.env ++ [⟨freshV t.g, p⟩], bif decide (t.guard = []) then (testV (freshV t.g) p (incK t.g)).1 else [40] ++ t.guard ++ [32, 97, 110, 100, 32] ++ (testV (freshV t.g) p (incK t.g)).1 ++ [41], (testV (freshV t.g) p (incK t.g)).2⟩ := by unfold clPar; rw [show decide (k = 0) = true from by simp [hk0]]; rfl
      rw [hcp] at hsuc
      cases hgd : decide (t.guard = []) with
      | true =>
        rw [hgd, cond_true] at hsuc
        repeat' (first | (simp only [go_sem, zA, zB, zC, zD, zE, zF, zG, reduceCtorEq, zH, zI, zJ, zK, zL, List.length_map, hbb, encZ, hd0, hde, hgd, nam_snoc, Bx.puts]; all_goals fail_if_success guard_target =ₛ False) | (with_reducible first | ((first | refine seqVC_stepN rfl ?_ | refine seqVC_stepG rfl (by with_unfolding_all rfl) ?_ | refine AWP.seq ?_ | refine AWP.seqR (by kernel_rfl) ?_); intro K hK) | ((first | refine hK _ _ _ ?_ | refine hK _ _ ?_ | refine hK _ ?_); clear hK K) | refine seqVC_nil ?_ | refine AWP.block ?_ | (refine AWP.cond (by with_unfolding_all rfl) ?_ ?_ <;> intro h <;> (try simp only [zM, zN] at h) <;> try exact absurd h (by decide)) | refine AWP.skip ?_ | refine AWP.ret ?_ | refine AWP.exit ?_ | (refine ⟨fun h => ?_, fun h => ?_⟩ <;> (try simp only [zM, zN] at h) <;> try simp only [h]) | refine ⟨by omega, encZ p, hx', ?_⟩ | refine ⟨encZ p, hx', ?_⟩ | refine ⟨(by omega : _ ≤ _), ?_⟩ | refine ⟨(by omega : _ ≤ _), (by omega : _ ≤ _), ?_⟩ | (refine ⟨(by first | omega | (simp only [List.length_append, List.length_map, List.length_take, List.length_drop, List.length_cons, List.length_nil, List.length_replicate]; omega) : _ ≤ _), ?_⟩) | refine ⟨by omega, by omega, ?_⟩) | ( refine Or.inr ⟨_, _, _, fresh_c c t.g, ⟨rfl, rfl, trivial⟩, rfl, rfl, ?_⟩) | ( refine Or.inr ⟨_, _, _, htc, ⟨rfl, rfl, trivial⟩, rfl, rfl, ?_⟩) | (with_reducible first | refine Or.inl ?_) | (clear hK K))
        all_goals (rw [wrap_succ hlt hlen0, hsuc]; exact Gh.to [(900, 48)] (by repeat (first | exact trivial | refine ⟨rfl, ?_⟩ | refine ⟨by (simp only [go_sem, zA, zB, zC, zD, zE, zF, zG, reduceCtorEq, zH, zI, zJ, zK, zL, List.length_append, List.length_map, List.length_cons, List.length_nil, Nat.zero_add]) <;> rfl, ?_⟩)) (by repeat (first | exact trivial | refine ⟨rfl, ?_⟩ | refine ⟨by (simp only [go_sem, zA, zB, zC, zD, zE, zF, zG, reduceCtorEq, zH, zI, zJ, zK, zL, List.length_append, List.length_map, List.length_cons, List.length_nil, Nat.zero_add]) <;> rfl, ?_⟩)) rfl rfl rfl)
      | false =>
        rw [hgd, cond_false] at hsuc
        repeat' (first | (simp only [go_sem, zA, zB, zC, zD, zE, zF, zG, reduceCtorEq, zH, zI, zJ, zK, zL, List.length_map, hbb, encZ, hd0, hde, hgd, nam_snoc, Bx.puts]; all_goals fail_if_success guard_target =ₛ False) | (with_reducible first | ((first | refine seqVC_stepN rfl ?_ | refine seqVC_stepG rfl (by with_unfolding_all rfl) ?_ | refine AWP.seq ?_ | refine AWP.seqR (by kernel_rfl) ?_); intro K hK) | ((first | refine hK _ _ _ ?_ | refine hK _ _ ?_ | refine hK _ ?_); clear hK K) | refine seqVC_nil ?_ | refine AWP.block ?_ | (refine AWP.cond (by with_unfolding_all rfl) ?_ ?_ <;> intro h <;> (try simp only [zM, zN] at h) <;> try exact absurd h (by decide)) | refine AWP.skip ?_ | refine AWP.ret ?_ | refine AWP.exit ?_ | (refine ⟨fun h => ?_, fun h => ?_⟩ <;> (try simp only [zM, zN] at h) <;> try simp only [h]) | refine ⟨by omega, encZ p, hx', ?_⟩ | refine ⟨encZ p, hx', ?_⟩ | refine ⟨(by omega : _ ≤ _), ?_⟩ | refine ⟨(by omega : _ ≤ _), (by omega : _ ≤ _), ?_⟩ | (refine ⟨(by first | omega | (simp only [List.length_append, List.length_map, List.length_take, List.length_drop, List.length_cons, List.length_nil, List.length_replicate]; omega) : _ ≤ _), ?_⟩) | refine ⟨by omega, by omega, ?_⟩) | ( refine Or.inr ⟨_, _, _, fresh_c c t.g, ⟨rfl, rfl, trivial⟩, rfl, rfl, ?_⟩) | ( refine Or.inr ⟨_, _, _, htc, ⟨rfl, rfl, trivial⟩, rfl, rfl, ?_⟩) | (with_reducible first | refine Or.inl ?_) | (clear hK K))
        all_goals (rw [wrap_succ hlt hlen0, hsuc]; exact Gh.to [(900, 48)] (by repeat (first | exact trivial | refine ⟨rfl, ?_⟩ | refine ⟨by (simp only [go_sem, zA, zB, zC, zD, zE, zF, zG, reduceCtorEq, zH, zI, zJ, zK, zL, List.length_append, List.length_map, List.length_cons, List.length_nil, Nat.zero_add]) <;> rfl, ?_⟩)) (by repeat (first | exact trivial | refine ⟨rfl, ?_⟩ | refine ⟨by (simp only [go_sem, zA, zB, zC, zD, zE, zF, zG, reduceCtorEq, zH, zI, zJ, zK, zL, List.length_append, List.length_map, List.length_cons, List.length_nil, Nat.zero_add]) <;> rfl, ?_⟩)) rfl rfl rfl)
    · have hd0 : decide (0 < (k : Int)) = true := by rw [decide_eq_true_eq]; omega
      have hde : decide ((k : Int) = 0) = false := by rw [decide_eq_false_iff_not]; omega
      have hcp : clPar false k p t = ⟨t.s ++ [44, 32] ++ freshV t.g, t.env ++ [⟨freshV t.g, p⟩], bif decide (t.guard = []) then (testV (freshV t.g) p (incK t.g)).1 else [40] ++ t.guard ++ [32, 97, 110, 100, 32] ++ (testV (freshV t.g) p (incK t.g)).1 ++ [41], (testV (freshV t.g) p (incK t.g)).2⟩ := by unfold clPar; rw [show decide (k = 0) = false from by simp [hk0], Bool.and_false]; rfl
      rw [hcp] at hsuc
      cases hgd : decide (t.guard = []) with
      | true =>
        rw [hgd, cond_true] at hsuc
        repeat' (first | (simp only [go_sem, zA, zB, zC, zD, zE, zF, zG, reduceCtorEq, zH, zI, zJ, zK, zL, List.length_map, hbb, encZ, hd0, hde, hgd, nam_snoc, Bx.puts]; all_goals fail_if_success guard_target =ₛ False) | (with_reducible first | ((first | refine seqVC_stepN rfl ?_ | refine seqVC_stepG rfl (by with_unfolding_all rfl) ?_ | refine AWP.seq ?_ | refine AWP.seqR (by kernel_rfl) ?_); intro K hK) | ((first | refine hK _ _ _ ?_ | refine hK _ _ ?_ | refine hK _ ?_); clear hK K) | refine seqVC_nil ?_ | refine AWP.block ?_ | (refine AWP.cond (by with_unfolding_all rfl) ?_ ?_ <;> intro h <;> (try simp only [zM, zN] at h) <;> try exact absurd h (by decide)) | refine AWP.skip ?_ | refine AWP.ret ?_ | refine AWP.exit ?_ | (refine ⟨fun h => ?_, fun h => ?_⟩ <;> (try simp only [zM, zN] at h) <;> try simp only [h]) | refine ⟨by omega, encZ p, hx', ?_⟩ | refine ⟨encZ p, hx', ?_⟩ | refine ⟨(by omega : _ ≤ _), ?_⟩ | refine ⟨(by omega : _ ≤ _), (by omega : _ ≤ _), ?_⟩ | (refine ⟨(by first | omega | (simp only [List.length_append, List.length_map, List.length_take, List.length_drop, List.length_cons, List.length_nil, List.length_replicate]; omega) : _ ≤ _), ?_⟩) | refine ⟨by omega, by omega, ?_⟩) | ( refine Or.inr ⟨_, _, _, fresh_c c t.g, ⟨rfl, rfl, trivial⟩, rfl, rfl, ?_⟩) | ( refine Or.inr ⟨_, _, _, htc, ⟨rfl, rfl, trivial⟩, rfl, rfl, ?_⟩) | (with_reducible first | refine Or.inl ?_) | (clear hK K))
        all_goals (rw [wrap_succ hlt hlen0, hsuc]; exact Gh.to [(900, 48)] (by repeat (first | exact trivial | refine ⟨rfl, ?_⟩ | refine ⟨by (simp only [go_sem, zA, zB, zC, zD, zE, zF, zG, reduceCtorEq, zH, zI, zJ, zK, zL, List.length_append, List.length_map, List.length_cons, List.length_nil, Nat.zero_add]) <;> rfl, ?_⟩)) (by repeat (first | exact trivial | refine ⟨rfl, ?_⟩ | refine ⟨by (simp only [go_sem, zA, zB, zC, zD, zE, zF, zG, reduceCtorEq, zH, zI, zJ, zK, zL, List.length_append, List.length_map, List.length_cons, List.length_nil, Nat.zero_add]) <;> rfl, ?_⟩)) rfl rfl rfl)
      | false =>
        rw [hgd, cond_false] at hsuc
        repeat' (first | (simp only [go_sem, zA, zB, zC, zD, zE, zF, zG, reduceCtorEq, zH, zI, zJ, zK, zL, List.length_map, hbb, encZ, hd0, hde, hgd, nam_snoc, Bx.puts]; all_goals fail_if_success guard_target =ₛ False) | (with_reducible first | ((first | refine seqVC_stepN rfl ?_ | refine seqVC_stepG rfl (by with_unfolding_all rfl) ?_ | refine AWP.seq ?_ | refine AWP.seqR (by kernel_rfl) ?_); intro K hK) | ((first | refine hK _ _ _ ?_ | refine hK _ _ ?_ | refine hK _ ?_); clear hK K) | refine seqVC_nil ?_ | refine AWP.block ?_ | (refine AWP.cond (by with_unfolding_all rfl) ?_ ?_ <;> intro h <;> (try simp only [zM, zN] at h) <;> try exact absurd h (by decide)) | refine AWP.skip ?_ | refine AWP.ret ?_ | refine AWP.exit ?_ | (refine ⟨fun h => ?_, fun h => ?_⟩ <;> (try simp only [zM, zN] at h) <;> try simp only [h]) | refine ⟨by omega, encZ p, hx', ?_⟩ | refine ⟨encZ p, hx', ?_⟩ | refine ⟨(by omega : _ ≤ _), ?_⟩ | refine ⟨(by omega : _ ≤ _), (by omega : _ ≤ _), ?_⟩ | (refine ⟨(by first | omega | (simp only [List.length_append, List.length_map, List.length_take, List.length_drop, List.length_cons, List.length_nil, List.length_replicate]; omega) : _ ≤ _), ?_⟩) | refine ⟨by omega, by omega, ?_⟩) | ( refine Or.inr ⟨_, _, _, fresh_c c t.g, ⟨rfl, rfl, trivial⟩, rfl, rfl, ?_⟩) | ( refine Or.inr ⟨_, _, _, htc, ⟨rfl, rfl, trivial⟩, rfl, rfl, ?_⟩) | (with_reducible first | refine Or.inl ?_) | (clear hK K))
        all_goals (rw [wrap_succ hlt hlen0, hsuc]; exact Gh.to [(900, 48)] (by repeat (first | exact trivial | refine ⟨rfl, ?_⟩ | refine ⟨by (simp only [go_sem, zA, zB, zC, zD, zE, zF, zG, reduceCtorEq, zH, zI, zJ, zK, zL, List.length_append, List.length_map, List.length_cons, List.length_nil, Nat.zero_add]) <;> rfl, ?_⟩)) (by repeat (first | exact trivial | refine ⟨rfl, ?_⟩ | refine ⟨by (simp only [go_sem, zA, zB, zC, zD, zE, zF, zG, reduceCtorEq, zH, zI, zJ, zK, zL, List.length_append, List.length_map, List.length_cons, List.length_nil, Nat.zero_add]) <;> rfl, ?_⟩)) rfl rfl rfl)
  · intro t hbb hok
    simp only [go_sem, zA, zB, zC, zD, zE, zF, zG, reduceCtorEq, zH, zI, zJ, zK, zL]
    have hok2 := (hca d.params.length).mono hpl
    rw [← hok] at hok2
    obtain ⟨h1, h2, h3, h4, h5⟩ := hok2
    have he : EOk m t.env := ⟨by omega, h3⟩
    refine AWP.gh (Gh.freeze 900 rfl rfl (by simp only [go_sem, zA, zB, zC, zD, zE, zF, zG, reduceCtorEq, zH, zI, zJ, zK, zL, List.length_map]) (by simp only [go_sem, zA, zB, zC, zD, zE, zF, zG, reduceCtorEq, zH, zI, zJ, zK, zL, List.length_map])) ?_
    simp only [go_sem, zA, zB, zC, zD, zE, zF, zG, reduceCtorEq, zH, zI, zJ, zK, zL, List.length_map]
    cases hgd : decide (t.guard = []) with
    | true =>
      have r0 := hE.run d.res t.env t.g h5 he
      have l0 := hE.len d.res t.env t.g h5 he
      have hbody : clBody c d n t = (t.s ++ [41] ++ [32, 45, 62, 32] ++ (exprV c n d.res t.env t.g).1, (exprV c n d.res t.env t.g).2) := by unfold clBody; rw [hgd]; rfl
      repeat' (first | (simp only [go_sem, zA, zB, zC, zD, zE, zF, zG, reduceCtorEq, zH, zI, zJ, zK, zL, List.length_map, hbb, hgd, Bx.puts]; all_goals fail_if_success guard_target =ₛ False) | (with_reducible first | ((first | refine seqVC_stepN rfl ?_ | refine seqVC_stepG rfl (by with_unfolding_all rfl) ?_ | refine AWP.seq ?_ | refine AWP.seqR (by kernel_rfl) ?_); intro K hK) | ((first | refine hK _ _ _ ?_ | refine hK _ _ ?_ | refine hK _ ?_); clear hK K) | refine seqVC_nil ?_ | refine AWP.block ?_ | (refine AWP.cond (by with_unfolding_all rfl) ?_ ?_ <;> intro h <;> (try simp only [zM, zN] at h) <;> try exact absurd h (by decide)) | refine AWP.skip ?_ | refine AWP.ret ?_ | refine AWP.exit ?_ | (refine ⟨fun h => ?_, fun h => ?_⟩ <;> (try simp only [zM, zN] at h) <;> try simp only [h]) | (refine ⟨(by first | omega | (simp only [List.length_append, List.length_map, List.length_take, List.length_drop, List.length_cons, List.length_nil, List.length_replicate]; omega) : _ ≤ _), ?_⟩) | refine ⟨by omega, by omega, ?_⟩) | (refine ⟨1000001, _, _, _, draw_k 1000001 t.g.s h5 5 (by omega), rfl, ?_⟩) | ( refine Or.inr ⟨_, _, _, r0, ⟨rfl, rfl, trivial⟩, rfl, rfl, ?_⟩) | (with_reducible first | refine Or.inl ?_) | (clear hK K))
      all_goals (rw [← hok, hbody]; exact ⟨rfl, fun x hx => List.mem_cons_of_mem _ hx⟩)
    | false =>
      have r0 := hE.run d.res t.env (nxt t.g 5) (ok_nxt h5 5) he
      have l0 := hE.len d.res t.env (nxt t.g 5) (ok_nxt h5 5) he
      cases hwh : decide (0 < drawV t.g.s 5) with
      | true =>
        have hbody : clBody c d n t = (t.s ++ [41] ++ ([32, 119, 104, 101, 110, 32] ++ t.guard) ++ [32, 45, 62, 32] ++ (exprV c n d.res t.env (nxt t.g 5)).1, (exprV c n d.res t.env (nxt t.g 5)).2) := by unfold clBody; rw [hgd, hwh]; rfl
        repeat' (first | (simp only [go_sem, zA, zB, zC, zD, zE, zF, zG, reduceCtorEq, zH, zI, zJ, zK, zL, List.length_map, hbb, hgd, hwh, Bx.puts]; all_goals fail_if_success guard_target =ₛ False) | (with_reducible first | ((first | refine seqVC_stepN rfl ?_ | refine seqVC_stepG rfl (by with_unfolding_all rfl) ?_ | refine AWP.seq ?_ | refine AWP.seqR (by kernel_rfl) ?_); intro K hK) | ((first | refine hK _ _ _ ?_ | refine hK _ _ ?_ | refine hK _ ?_); clear hK K) | refine seqVC_nil ?_ | refine AWP.block ?_ | (refine AWP.cond (by with_unfolding_all rfl) ?_ ?_ <;> intro h <;> (try simp only [zM, zN] at h) <;> try exact absurd h (by decide)) | refine AWP.skip ?_ | refine AWP.ret ?_ | refine AWP.exit ?_ | (refine ⟨fun h => ?_, fun h => ?_⟩ <;> (try simp only [zM, zN] at h) <;> try simp only [h]) | (refine ⟨(by first | omega | (simp only [List.length_append, List.length_map, List.length_take, List.length_drop, List.length_cons, List.length_nil, List.length_replicate]; omega) : _ ≤ _), ?_⟩) | refine ⟨by omega, by omega, ?_⟩) | (refine ⟨1000001, _, _, _, draw_k 1000001 t.g.s h5 5 (by omega), rfl, ?_⟩) | ( refine Or.inr ⟨_, _, _, r0, ⟨rfl, rfl, trivial⟩, rfl, rfl, ?_⟩) | (with_reducible first | refine Or.inl ?_) | (clear hK K))
        all_goals (rw [← hok, hbody]; exact ⟨rfl, fun x hx => List.mem_cons_of_mem _ hx⟩)
      | false =>
        have hbody : clBody c d n t = (t.s ++ [41] ++ [32, 45, 62, 32] ++ (exprV c n d.res t.env (nxt t.g 5)).1, (exprV c n d.res t.env (nxt t.g 5)).2) := by unfold clBody; rw [hgd, hwh]; rfl
        repeat' (first | (simp only [go_sem, zA, zB, zC, zD, zE, zF, zG, reduceCtorEq, zH, zI, zJ, zK, zL, List.length_map, hbb, hgd, hwh, Bx.puts]; all_goals fail_if_success guard_target =ₛ False) | (with_reducible first | ((first | refine seqVC_stepN rfl ?_ | refine seqVC_stepG rfl (by with_unfolding_all rfl) ?_ | refine AWP.seq ?_ | refine AWP.seqR (by kernel_rfl) ?_); intro K hK) | ((first | refine hK _ _ _ ?_ | refine hK _ _ ?_ | refine hK _ ?_); clear hK K) | refine seqVC_nil ?_ | refine AWP.block ?_ | (refine AWP.cond (by with_unfolding_all rfl) ?_ ?_ <;> intro h <;> (try simp only [zM, zN] at h) <;> try exact absurd h (by decide)) | refine AWP.skip ?_ | refine AWP.ret ?_ | refine AWP.exit ?_ | (refine ⟨fun h => ?_, fun h => ?_⟩ <;> (try simp only [zM, zN] at h) <;> try simp only [h]) | (refine ⟨(by first | omega | (simp only [List.length_append, List.length_map, List.length_take, List.length_drop, List.length_cons, List.length_nil, List.length_replicate]; omega) : _ ≤ _), ?_⟩) | refine ⟨by omega, by omega, ?_⟩) | (refine ⟨1000001, _, _, _, draw_k 1000001 t.g.s h5 5 (by omega), rfl, ?_⟩) | ( refine Or.inr ⟨_, _, _, r0, ⟨rfl, rfl, trivial⟩, rfl, rfl, ?_⟩) | (with_reducible first | refine Or.inl ?_) | (clear hK K))
        all_goals (rw [← hok, hbody]; exact ⟨rfl, fun x hx => List.mem_cons_of_mem _ hx⟩)
def expV (d : CalD) : List UInt8 := d.name ++ [47] ++ Lib.itoa (d.params.length : Int)
theorem expV_len (d : CalD) (h : CalOk d) : (expV d).length ≤ 200 := by
  obtain ⟨h1, h2, h3⟩ := h
  have := itoa_len (n := (d.params.length : Int)) (by omega) (by omega)
  simp only [expV, List.length_append, List.length_cons, List.length_nil]; omega
def hdAt (l : List CalD) (s : List UInt8) (g : Gn) : Nat → List UInt8 × Gn
  | 0 => (s, g)
  | k + 1 =>
    let r := hdAt l s g k
    (bif decide (drawV r.2.s 3 = 0) then r.1 ++ headerV (l.getD k ⟨[], [], [], 0⟩) else r.1, nxt r.2 3)
/-- the clauses of a function -/
def fnV (c : Cst) (d : CalD) (g : Gn) : List UInt8 × Gn :=
  let n := (drawV g.s 3).toNat
  let g1 := nxt g 3
  bif decide (0 < (d.params.length : Int)) then
    bif decide (drawV g1.s 2 = 0) then
      ((clauseV c true d n (nxt g1 2)).1 ++ [59, 10] ++ ((clauseV c false d (n + 1) (clauseV c true d n (nxt g1 2)).2).1 ++ [46, 10]), (clauseV c false d (n + 1) (clauseV c true d n (nxt g1 2)).2).2)
    else ((clauseV c false d (n + 1) (nxt g1 2)).1 ++ [46, 10], (clauseV c false d (n + 1) (nxt g1 2)).2)
  else ((clauseV c false d (n + 1) g1).1 ++ [46, 10], (clauseV c false d (n + 1) g1).2)
def fnAt (c : Cst) (l : List CalD) (s : List UInt8) (g : Gn) : Nat → List UInt8 × Gn
  | 0 => (s, g)
  | k + 1 =>
    let r := fnAt c l s g k
    (r.1 ++ (fnV c (l.getD k ⟨[], [], [], 0⟩) r.2).1, (fnV c (l.getD k ⟨[], [], [], 0⟩) r.2).2)
def modL (g : Gn) : List CalD × Gn := calsAt [] (nxt g 3) (drawV g.s 3 + 1).toNat
def modC (c : Cst) (g : Gn) : Cst := { c with calls := (modL g).1 }
def modS (name : List UInt8) (g : Gn) : List UInt8 := [109, 111, 100, 117, 108, 101, 32] ++ name ++ [46, 10] ++ ([101, 120, 112, 111, 114, 116, 32] ++ commaV ((modL g).1.map expV) ++ [46, 10])
def moduleV (c : Cst) (name : List UInt8) (g : Gn) : List UInt8 × Gn :=
  let r := hdAt (modL g).1 (modS name g) (modL g).2 (modL g).1.length
  fnAt (modC c g) (modL g).1 r.1 r.2 (modL g).1.length
theorem clauseV_fine (c : Cst) (hw : c.wild = 0) (hc : CstOk c) (sp : Bool) (d : CalD) (hd : CalOk d) (n : Nat) (hn : n ≤ 3) (g : Gn) (hg : g.s.ok) : Fine 25000 (clauseV c sp d n g) := by
  have hE := expr_good c hw hc n (by omega)
  have h := clBody_fine hE (by omega) d _ ((clAt_ok sp d hd g hg d.params.length).mono hd.2.2)
  have hl : lenE n ≤ 20000 := by
    have : ∀ n, n ≤ 3 → lenE n ≤ 20000 := by decide
    exact this n hn
  exact ⟨h.1, by have := h.2; unfold clauseV; omega⟩
theorem fnV_fine (c : Cst) (hw : c.wild = 0) (hc : CstOk c) (d : CalD) (hd : CalOk d) (g : Gn) (hg : g.s.ok) : Fine 60000 (fnV c d g) := by
  have hv := drawV_in g.s (n := 3) (by omega)
  have h0 := fun n (hn : n ≤ 3) sp g (hg : Src.ok (Gn.s g)) => clauseV_fine c hw hc sp d hd n hn g hg
  have hg1 := ok_nxt hg 3
  have hg2 := ok_nxt hg1 2
  unfold fnV
  refine bif_fine _ (bif_fine _ ?_ ?_) ?_
  · have h1 := h0 (drawV g.s 3).toNat (by omega) true _ hg2
    have h2 := h0 ((drawV g.s 3).toNat + 1) (by omega) false _ h1.1
    exact ⟨h2.1, by have := h1.2; have := h2.2; simp only [List.length_append, List.length_cons, List.length_nil]; omega⟩
  · have h2 := h0 ((drawV g.s 3).toNat + 1) (by omega) false _ hg2
    exact ⟨h2.1, by have := h2.2; simp only [List.length_append, List.length_cons, List.length_nil]; omega⟩
  · have h2 := h0 ((drawV g.s 3).toNat + 1) (by omega) false _ hg1
    exact ⟨h2.1, by have := h2.2; simp only [List.length_append, List.length_cons, List.length_nil]; omega⟩
theorem getD_mem {l : List CalD} {k : Nat} (hk : k < l.length) : l.getD k ⟨[], [], [], 0⟩ ∈ l := by
  rw [List.getD_eq_getElem?_getD, List.getElem?_eq_getElem hk]; exact List.getElem_mem _
theorem hdAt_fine (l : List CalD) (hl : ∀ d ∈ l, CalOk d ∧ HdOk d) (s : List UInt8) (g : Gn) (hg : g.s.ok) : ∀ k, k ≤ l.length → Fine (s.length + 310 * k) (hdAt l s g k)
  | 0, _ => ⟨hg, Nat.le_refl _⟩
  | k + 1, hk => by
    have ih := hdAt_fine l hl s g hg k (by omega)
    have hd := hl _ (getD_mem (show k < l.length by omega))
    have hh := headerV_len _ hd.1 hd.2
    refine ⟨ok_nxt ih.1 3, ?_⟩
    have := ih.2
    simp only [hdAt]
    cases decide (drawV (hdAt l s g k).2.s 3 = 0) <;> simp only [cond_true, cond_false, List.length_append] <;> omega
theorem fnAt_fine (c : Cst) (hw : c.wild = 0) (hc : CstOk c) (l : List CalD) (hl : ∀ d ∈ l, CalOk d ∧ HdOk d) (s : List UInt8) (g : Gn) (hg : g.s.ok) : ∀ k, k ≤ l.length → Fine (s.length + 60000 * k) (fnAt c l s g k)
  | 0, _ => ⟨hg, Nat.le_refl _⟩
  | k + 1, hk => by
    have ih := fnAt_fine c hw hc l hl s g hg k (by omega)
    have hd := hl _ (getD_mem (show k < l.length by omega))
    have hh := fnV_fine c hw hc _ hd.1 _ ih.1
    refine ⟨hh.1, ?_⟩
    have := ih.2
    have := hh.2
    simp only [fnAt, List.length_append]; omega
theorem modL_fine (g : Gn) (hg : g.s.ok) : (modL g).2.s.ok ∧ (modL g).1.length = (drawV g.s 3 + 1).toNat ∧ ∀ d ∈ (modL g).1, CalOk d ∧ HdOk d := by
  have hv := drawV_in g.s (n := 3) (by omega)
  exact calsAt_fine [] (by simp) (nxt g 3) (ok_nxt hg 3) _ (by omega)
theorem modC_ok (c : Cst) (g : Gn) (hg : g.s.ok) : CstOk (modC c g) := by
  have h := modL_fine g hg
  have hv := drawV_in g.s (n := 3) (by omega)
  exact ⟨by have := h.2.1; simp only [modC]; omega, fun d hd => (h.2.2 d hd).1⟩
theorem modS_len (name : List UInt8) (hn : name.length ≤ 100) (g : Gn) (hg : g.s.ok) : (modS name g).length ≤ 3000 := by
  have h := modL_fine g hg
  have hv := drawV_in g.s (n := 3) (by omega)
  have hj := commaV_len ((modL g).1.map expV) (by rw [List.length_map]; omega) (fun x hx => by obtain ⟨d, hd, rfl⟩ := List.mem_map.1 hx; exact expV_len d (h.2.2 d hd).1)
  unfold modS
  simp only [List.length_append, List.length_cons, List.length_nil]; omega
theorem moduleV_fine (c : Cst) (hw : c.wild = 0) (name : List UInt8) (hn : name.length ≤ 100) (g : Gn) (hg : g.s.ok) : Fine 200000 (moduleV c name g) := by
  have h := modL_fine g hg
  have hv := drawV_in g.s (n := 3) (by omega)
  have hs := modS_len name hn g hg
  have h1 := hdAt_fine (modL g).1 h.2.2 (modS name g) _ h.1 (modL g).1.length (Nat.le_refl _)
  have h2 := fnAt_fine (modC c g) hw (modC_ok c g hg) (modL g).1 h.2.2 (hdAt (modL g).1 (modS name g) (modL g).2 (modL g).1.length).1 _ h1.1 (modL g).1.length (Nat.le_refl _)
  exact ⟨h2.1, by have := h1.2; have := h2.2; simp only [moduleV]; omega⟩
def outV (name : List UInt8) (d : CalD) : CalD := { d with mod := name }
abbrev Cst0 (wild : Int) (many : Bool) : Cst := ⟨[], wild, many⟩
theorem module_c (wild : Int) (many : Bool) (hw : wild = 0) (g : Gn) (hg : g.s.ok) (name : List UInt8) (hn : name.length ≤ 100) : PCB Tryd.prog 23 [Sp 1000000, S name, .one (.dat (.sl 4 []))] [(1000000, .cells [.ptr 1000001 0, .dat (.nil 4), .dat (.int .i64 wild), .dat (.bool many), .dat (.int .i64 g.k)]), (1000001, srcB g.s)] (.tup [S (moduleV (Cst0 wild many) name g).1, .one (.dat (.sl 4 ((modL g).1.map (encCal ∘ outV name))))]) (gB (modC (Cst0 wild many) g) (moduleV (Cst0 wild many) name g).2) := by
  have hmax : 10000000 ≤ maxLen := by unfold maxLen; omega
  have hv := drawV_in g.s (n := 3) (by omega)
  have hfin := modL_fine g hg
  have hcc := callees_c (Cst0 wild many) (nxt g 3) (ok_nxt hg 3) [] (by simp) (drawV g.s 3 + 1).toNat (by omega)
  have hwr : IntKind.i64.wrap (1 + drawV g.s 3) = (((drawV g.s 3 + 1).toNat : Nat) : Int) := by rw [wrapI _ (by omega) (by omega)]; omega
  have hlm : (modL g).1.length ≤ 3 := by omega
  have hmd : calsAt [] (nxt g 3) (drawV g.s 3 + 1).toNat = modL g := rfl
  rw [hmd] at hcc
  refine PCB.of_body Tryd.func23 rfl (by decide) Tryd.ntmps23 Tryd.results23 rfl rfl rfl ?_ rfl rfl
  refine AWP.gh (Gh.soft 1000000 rfl) ?_
  repeat' (first | (simp only [go_sem, zA, zB, zC, zD, zE, zF, zG, reduceCtorEq, zH, zI, zJ, zK, zL, List.length_map, List.length_nil, Bx.puts, hwr]; all_goals fail_if_success guard_target =ₛ False) | (with_reducible first | ((first | refine seqVC_stepN rfl ?_ | refine seqVC_stepG rfl (by with_unfolding_all rfl) ?_ | refine AWP.seq ?_ | refine AWP.seqR (by kernel_rfl) ?_ | refine parVC_stepN rfl ?_ | refine parVC_stepG rfl (by with_unfolding_all rfl) ?_ | refine parEVC_stepN rfl ?_ | refine parEVC_stepG rfl (by with_unfolding_all rfl) ?_ | refine genVC_stepN rfl ?_ | refine genVC_stepG rfl (by with_unfolding_all rfl) ?_); intro K hK) | ((first | refine hK _ _ _ ?_ | refine hK _ _ ?_ | refine hK _ ?_); clear hK K) | refine seqVC_nil ?_ | refine parVC_nil ?_ | refine parEVC_nil ?_ | refine genVC_nil ?_ | refine AWP.block ?_ | (refine AWP.cond (by with_unfolding_all rfl) ?_ ?_ <;> intro h <;> (try simp only [zM, zN] at h) <;> try exact absurd h (by decide)) | refine AWP.skip ?_ | refine AWP.ret ?_ | refine AWP.exit ?_ | (refine ⟨fun h => ?_, fun h => ?_⟩ <;> (try simp only [zM, zN] at h) <;> try simp only [h]) | (refine ⟨(by first | omega | (simp only [List.length_append, List.length_map, List.length_take, List.length_drop, List.length_cons, List.length_nil, List.length_replicate]; omega) : _ ≤ _), ?_⟩) | refine ⟨by omega, by omega, ?_⟩) | (refine ⟨1000001, _, _, _, draw_k 1000001 g.s hg 3 (by omega), rfl, ?_⟩) | ( refine Or.inr ⟨_, _, _, hcc, ⟨rfl, rfl, trivial⟩, rfl, rfl, ?_⟩) | (with_reducible first | (refine AWP.segP (id := 9) 7 mixed (by kernel_rfl) fun K hK => ?_; simp only [List.take_succ_cons, List.take_zero, List.drop_succ_cons, List.drop_zero]) | (refine AWP.segP (id := 18) 10 mixed (by kernel_rfl) fun K hK => ?_; simp only [List.take_succ_cons, List.take_zero, List.drop_succ_cons, List.drop_zero]) | refine AWP.parR mixed (by kernel_rfl) fun K hK => ?_ | refine ⟨(by kernel_rfl : depB _ _ _ = true), ?_⟩ | refine Or.inl ?_) | (clear hK K))
  generalize hmm : modL g = r at *
  obtain ⟨l, g1⟩ := r
  simp only at hfin hlm
  refine AWP.loopF (X := Unit) (fun u => [(36, I .i64 0), (9, .one (.dat (.nil 1)))]) (fun u => [(1000000, .cells [.ptr 1000001 0, .dat (.nil 4), .dat (.int .i64 wild), .dat (.bool many), .dat (.int .i64 g1.k)]), (1000001, srcB g1.s)]) [0, 1, 8, 10, 34, 35] [] (fun u => True) (fun u => 0) (()) (by simp only [go_sem, zA, zB, zC, zD, zE, zF, zG, reduceCtorEq, zH, zI, zJ, zK, zL]; exact Gh.to [] (by repeat (first | exact trivial | refine ⟨rfl, ?_⟩ | refine ⟨by (simp only [go_sem, zA, zB, zC, zD, zE, zF, zG, reduceCtorEq, zH, zI, zJ, zK, zL, List.length_append, List.length_map, List.length_cons, List.length_nil, Nat.zero_add]) <;> rfl, ?_⟩)) (by repeat (first | exact trivial | refine ⟨rfl, ?_⟩ | refine ⟨by (simp only [go_sem, zA, zB, zC, zD, zE, zF, zG, reduceCtorEq, zH, zI, zJ, zK, zL, List.length_append, List.length_map, List.length_cons, List.length_nil, Nat.zero_add]) <;> rfl, ?_⟩)) rfl rfl rfl) ?_ ?_
  · trivial
  rintro u -
  simp only [go_sem, zA, zB, zC, zD, zE, zF, zG, reduceCtorEq, zH, zI, zJ, zK, zL]
  have hd0 : decide ((0 : Int) < 0) = false := by decide
  repeat' (first | (simp only [go_sem, zA, zB, zC, zD, zE, zF, zG, reduceCtorEq, zH, zI, zJ, zK, zL, List.length_map, hd0]; all_goals fail_if_success guard_target =ₛ False) | (with_reducible first | ((first | refine seqVC_stepN rfl ?_ | refine seqVC_stepG rfl (by with_unfolding_all rfl) ?_ | refine AWP.seq ?_ | refine AWP.seqR (by kernel_rfl) ?_ | refine parVC_stepN rfl ?_ | refine parVC_stepG rfl (by with_unfolding_all rfl) ?_ | refine parEVC_stepN rfl ?_ | refine parEVC_stepG rfl (by with_unfolding_all rfl) ?_ | refine genVC_stepN rfl ?_ | refine genVC_stepG rfl (by with_unfolding_all rfl) ?_); intro K hK) | ((first | refine hK _ _ _ ?_ | refine hK _ _ ?_ | refine hK _ ?_); clear hK K) | refine seqVC_nil ?_ | refine parVC_nil ?_ | refine parEVC_nil ?_ | refine genVC_nil ?_ | refine AWP.block ?_ | (refine AWP.cond (by with_unfolding_all rfl) ?_ ?_ <;> intro h <;> (try simp only [zM, zN] at h) <;> try exact absurd h (by decide)) | refine AWP.skip ?_ | refine AWP.ret ?_ | refine AWP.exit ?_ | (refine ⟨fun h => ?_, fun h => ?_⟩ <;> (try simp only [zM, zN] at h) <;> try simp only [h]) | (refine ⟨(by first | omega | (simp only [List.length_append, List.length_map, List.length_take, List.length_drop, List.length_cons, List.length_nil, List.length_replicate]; omega) : _ ≤ _), ?_⟩) | refine ⟨by omega, by omega, ?_⟩ | (refine AWP.segP (id := 9) 7 mixed (by kernel_rfl) fun K hK => ?_; simp only [List.take_succ_cons, List.take_zero, List.drop_succ_cons, List.drop_zero]) | (refine AWP.segP (id := 18) 10 mixed (by kernel_rfl) fun K hK => ?_; simp only [List.take_succ_cons, List.take_zero, List.drop_succ_cons, List.drop_zero]) | refine AWP.parR mixed (by kernel_rfl) fun K hK => ?_ | refine ⟨(by kernel_rfl : depB _ _ _ = true), ?_⟩ | refine Or.inl ?_) | (clear hK K))
  refine AWP.gh (Gh.nilrow 10 900 rfl rfl rfl (by simp [Bx.fresh, Cell.freshs, Cell.fresh])) ?_
  refine AWP.gh (Gh.nilrow 14 901 rfl rfl rfl (by simp [Bx.fresh, Cell.freshs, Cell.fresh])) ?_
  refine AWP.len 73 rfl fun hlen1 => ?_
  (try rw [List.length_map] at hlen1)
  refine AWP.range (S := Unit) (l) encCal (fun k u => (75, I .i64 (k : Nat)) :: [(10, .one (.own 900 k)), (14, .one (.own 901 k))]) (fun k u => [(900, .row 1 (((l.take k).map expV).map encStr)), (901, .row 4 ((l.take k).map (encCal ∘ outV name))), (1000000, .cells [.ptr 1000001 0, .dat (.nil 4), .dat (.int .i64 wild), .dat (.bool many), .dat (.int .i64 g1.k)]), (1000001, srcB g1.s)]) [0, 1, 8, 13, 73, 74] [] (fun k u => True) (()) (by simp only [go_sem, zA, zB, zC, zD, zE, zF, zG, reduceCtorEq, zH, zI, zJ, zK, zL]; exact Gh.to [] (by repeat (first | exact trivial | refine ⟨rfl, ?_⟩ | refine ⟨by (simp only [go_sem, zA, zB, zC, zD, zE, zF, zG, reduceCtorEq, zH, zI, zJ, zK, zL, List.length_append, List.length_map, List.length_cons, List.length_nil, Nat.zero_add]) <;> rfl, ?_⟩)) (by repeat (first | exact trivial | refine ⟨rfl, ?_⟩ | refine ⟨by (simp only [go_sem, zA, zB, zC, zD, zE, zF, zG, reduceCtorEq, zH, zI, zJ, zK, zL, List.length_append, List.length_map, List.length_cons, List.length_nil, Nat.zero_add]) <;> rfl, ?_⟩)) rfl rfl rfl) ?_ ?_ ?_
  · trivial
  · intro k u d hlt hx hx' hbb hok
    simp only [go_sem, zA, zB, zC, zD, zE, zF, zG, reduceCtorEq, zH, zI, zJ, zK, zL]
    have hdm := hfin.2.2 d (List.mem_of_getElem? hx)
    obtain ⟨hd1, hd2, hd3⟩ := hdm.1
    have hil := itoa_len (n := (d.params.length : Int)) (by omega) (by omega)
    have hdec := decimal_c _ (d.params.length : Int) (Nat.le_refl _) (by omega) (by omega)
    have hs1 : ((l.take k).map expV).map encStr ++ [[.str (d.name ++ [47] ++ Lib.itoa (d.params.length : Int))]] = ((l.take (k + 1)).map expV).map encStr := by rw [List.take_add_one, hx]; simp [expV, encStr]
    have hs2 : (l.take k).map (encCal ∘ outV name) ++ [[.str name, .str d.name, .sl 1 (d.params.map encZ), .int .i64 d.res]] = (l.take (k + 1)).map (encCal ∘ outV name) := by rw [List.take_add_one, hx]; simp [outV, encCal]
    have ht1 : (l.take k).length = k := by rw [List.length_take]; omega
    have ht2 : (l.take (k + 1)).length = k + 1 := by rw [List.length_take]; omega
    repeat' (first | (simp only [go_sem, zA, zB, zC, zD, zE, zF, zG, reduceCtorEq, zH, zI, zJ, zK, zL, hbb, encCal, hs1, hs2, ht1, ht2, List.length_map]; all_goals fail_if_success guard_target =ₛ False) | (with_reducible first | ((first | refine seqVC_stepN rfl ?_ | refine seqVC_stepG rfl (by with_unfolding_all rfl) ?_ | refine AWP.seq ?_ | refine AWP.seqR (by kernel_rfl) ?_ | refine parVC_stepN rfl ?_ | refine parVC_stepG rfl (by with_unfolding_all rfl) ?_ | refine parEVC_stepN rfl ?_ | refine parEVC_stepG rfl (by with_unfolding_all rfl) ?_ | refine genVC_stepN rfl ?_ | refine genVC_stepG rfl (by with_unfolding_all rfl) ?_); intro K hK) | ((first | refine hK _ _ _ ?_ | refine hK _ _ ?_ | refine hK _ ?_); clear hK K) | refine seqVC_nil ?_ | refine parVC_nil ?_ | refine parEVC_nil ?_ | refine genVC_nil ?_ | refine AWP.block ?_ | (refine AWP.cond (by with_unfolding_all rfl) ?_ ?_ <;> intro h <;> (try simp only [zM, zN] at h) <;> try exact absurd h (by decide)) | refine AWP.skip ?_ | refine AWP.ret ?_ | refine AWP.exit ?_ | (refine ⟨fun h => ?_, fun h => ?_⟩ <;> (try simp only [zM, zN] at h) <;> try simp only [h]) | refine ⟨_, hdec, ?_⟩ | refine ⟨by omega, encCal d, hx', ?_⟩ | refine ⟨encCal d, hx', ?_⟩ | refine ⟨(by omega : _ ≤ _), ?_⟩ | refine ⟨(by omega : _ ≤ _), (by omega : _ ≤ _), ?_⟩ | (refine ⟨(by first | omega | (simp only [List.length_append, List.length_map, List.length_take, List.length_drop, List.length_cons, List.length_nil, List.length_replicate]; omega) : _ ≤ _), ?_⟩) | refine ⟨by omega, by omega, ?_⟩ | (refine AWP.segP (id := 9) 7 mixed (by kernel_rfl) fun K hK => ?_; simp only [List.take_succ_cons, List.take_zero, List.drop_succ_cons, List.drop_zero]) | (refine AWP.segP (id := 18) 10 mixed (by kernel_rfl) fun K hK => ?_; simp only [List.take_succ_cons, List.take_zero, List.drop_succ_cons, List.drop_zero]) | refine AWP.parR mixed (by kernel_rfl) fun K hK => ?_ | refine ⟨(by kernel_rfl : depB _ _ _ = true), ?_⟩ | refine Or.inl ?_) | (clear hK K))
    all_goals rw [wrap_succ hlt hlen1]
    all_goals first | exact ⟨(), trivial, Gh.to [(900, 89), (901, 96)] (by repeat (first | exact trivial | refine ⟨rfl, ?_⟩ | refine ⟨by (simp only [go_sem, zA, zB, zC, zD, zE, zF, zG, reduceCtorEq, zH, zI, zJ, zK, zL, List.length_append, List.length_map, List.length_cons, List.length_nil, Nat.zero_add]) <;> rfl, ?_⟩)) (by repeat (first | exact trivial | refine ⟨rfl, ?_⟩ | refine ⟨by (simp only [go_sem, zA, zB, zC, zD, zE, zF, zG, reduceCtorEq, zH, zI, zJ, zK, zL, List.length_append, List.length_map, List.length_cons, List.length_nil, Nat.zero_add]) <;> rfl, ?_⟩)) rfl rfl rfl⟩ | exact ⟨(), Gh.to [(900, 89), (901, 96)] (by repeat (first | exact trivial | refine ⟨rfl, ?_⟩ | refine ⟨by (simp only [go_sem, zA, zB, zC, zD, zE, zF, zG, reduceCtorEq, zH, zI, zJ, zK, zL, List.length_append, List.length_map, List.length_cons, List.length_nil, Nat.zero_add]) <;> rfl, ?_⟩)) (by repeat (first | exact trivial | refine ⟨rfl, ?_⟩ | refine ⟨by (simp only [go_sem, zA, zB, zC, zD, zE, zF, zG, reduceCtorEq, zH, zI, zJ, zK, zL, List.length_append, List.length_map, List.length_cons, List.length_nil, Nat.zero_add]) <;> rfl, ?_⟩)) rfl rfl rfl⟩ | exact Gh.to [(900, 89), (901, 96)] (by repeat (first | exact trivial | refine ⟨rfl, ?_⟩ | refine ⟨by (simp only [go_sem, zA, zB, zC, zD, zE, zF, zG, reduceCtorEq, zH, zI, zJ, zK, zL, List.length_append, List.length_map, List.length_cons, List.length_nil, Nat.zero_add]) <;> rfl, ?_⟩)) (by repeat (first | exact trivial | refine ⟨rfl, ?_⟩ | refine ⟨by (simp only [go_sem, zA, zB, zC, zD, zE, zF, zG, reduceCtorEq, zH, zI, zJ, zK, zL, List.length_append, List.length_map, List.length_cons, List.length_nil, Nat.zero_add]) <;> rfl, ?_⟩)) rfl rfl rfl
  · intro u hbb hok
    simp only [go_sem, zA, zB, zC, zD, zE, zF, zG, reduceCtorEq, zH, zI, zJ, zK, zL]
    rw [List.take_length]
    have hjl : ∀ x ∈ l.map expV, x.length ≤ 200 := fun x hx => by obtain ⟨d, hd, rfl⟩ := List.mem_map.1 hx; exact expV_len d (hfin.2.2 d hd).1
    have hjc := comma_c (l.map expV) (by rw [List.length_map]; omega) hjl
    have hjn := commaV_len (l.map expV) (by rw [List.length_map]; omega) hjl
    refine AWP.gh (Gh.freeze 900 rfl rfl (by simp only [go_sem, zA, zB, zC, zD, zE, zF, zG, reduceCtorEq, zH, zI, zJ, zK, zL, List.length_map]) (by simp only [go_sem, zA, zB, zC, zD, zE, zF, zG, reduceCtorEq, zH, zI, zJ, zK, zL, List.length_map])) ?_
    simp only [go_sem, zA, zB, zC, zD, zE, zF, zG, reduceCtorEq, zH, zI, zJ, zK, zL, List.length_map]
    repeat' (first | (simp only [go_sem, zA, zB, zC, zD, zE, zF, zG, reduceCtorEq, zH, zI, zJ, zK, zL, hbb, List.length_map]; all_goals fail_if_success guard_target =ₛ False) | (with_reducible first | ((first | refine seqVC_stepN rfl ?_ | refine seqVC_stepG rfl (by with_unfolding_all rfl) ?_ | refine AWP.seq ?_ | refine AWP.seqR (by kernel_rfl) ?_ | refine parVC_stepN rfl ?_ | refine parVC_stepG rfl (by with_unfolding_all rfl) ?_ | refine parEVC_stepN rfl ?_ | refine parEVC_stepG rfl (by with_unfolding_all rfl) ?_ | refine genVC_stepN rfl ?_ | refine genVC_stepG rfl (by with_unfolding_all rfl) ?_); intro K hK) | ((first | refine hK _ _ _ ?_ | refine hK _ _ ?_ | refine hK _ ?_); clear hK K) | refine seqVC_nil ?_ | refine parVC_nil ?_ | refine parEVC_nil ?_ | refine genVC_nil ?_ | refine AWP.block ?_ | (refine AWP.cond (by with_unfolding_all rfl) ?_ ?_ <;> intro h <;> (try simp only [zM, zN] at h) <;> try exact absurd h (by decide)) | refine AWP.skip ?_ | refine AWP.ret ?_ | refine AWP.exit ?_ | (refine ⟨fun h => ?_, fun h => ?_⟩ <;> (try simp only [zM, zN] at h) <;> try simp only [h]) | refine ⟨_, hjc, ?_⟩ | (refine ⟨(by first | omega | (simp only [List.length_append, List.length_map, List.length_take, List.length_drop, List.length_cons, List.length_nil, List.length_replicate]; omega) : _ ≤ _), ?_⟩) | refine ⟨by omega, by omega, ?_⟩ | refine ⟨(by omega : _ ≤ _), ?_⟩ | refine ⟨(by omega : _ ≤ _), (by omega : _ ≤ _), ?_⟩ | (refine AWP.segP (id := 9) 7 mixed (by kernel_rfl) fun K hK => ?_; simp only [List.take_succ_cons, List.take_zero, List.drop_succ_cons, List.drop_zero]) | (refine AWP.segP (id := 18) 10 mixed (by kernel_rfl) fun K hK => ?_; simp only [List.take_succ_cons, List.take_zero, List.drop_succ_cons, List.drop_zero]) | refine AWP.parR mixed (by kernel_rfl) fun K hK => ?_ | refine ⟨(by kernel_rfl : depB _ _ _ = true), ?_⟩ | refine Or.inl ?_) | (clear hK K))
    refine AWP.gh (Gh.freeze 110 rfl rfl (by simp only [go_sem, zA, zB, zC, zD, zE, zF, zG, reduceCtorEq, zH, zI, zJ, zK, zL, List.length_map]) (by simp only [go_sem, zA, zB, zC, zD, zE, zF, zG, reduceCtorEq, zH, zI, zJ, zK, zL, List.length_map])) ?_
    simp only [go_sem, zA, zB, zC, zD, zE, zF, zG, reduceCtorEq, zH, zI, zJ, zK, zL, List.length_map]
    have hmc : modC (Cst0 wild many) g = { Cst0 wild many with calls := l } := by unfold modC; rw [hmm]
    have hms : modS name g = 109 :: 111 :: 100 :: 117 :: 108 :: 101 :: 32 :: (name ++ [46, 10] ++ 101 :: 120 :: 112 :: 111 :: 114 :: 116 :: 32 :: (commaV (l.map expV) ++ [46, 10])) := by
      unfold modS; rw [hmm]; simp only [List.append_assoc, List.cons_append, List.nil_append]
    have hml := modS_len name hn g hg
    have hmv : moduleV (Cst0 wild many) name g = fnAt (modC (Cst0 wild many) g) l (hdAt l (modS name g) g1 l.length).1 (hdAt l (modS name g) g1 l.length).2 l.length := by unfold moduleV; rw [hmm]
    have hcok := modC_ok (Cst0 wild many) g hg
    have hcw : (modC (Cst0 wild many) g).wild = 0 := hw
    have hhf := hdAt_fine l hfin.2.2 (modS name g) g1 hfin.1
    have hff := fnAt_fine (modC (Cst0 wild many) g) hcw hcok l hfin.2.2 (hdAt l (modS name g) g1 l.length).1 (hdAt l (modS name g) g1 l.length).2 (hhf l.length (Nat.le_refl _)).1
    rw [← hms]
    refine AWP.len 113 rfl fun hlen2 => ?_
    (try rw [List.length_map] at hlen2)
    refine AWP.range (S := List UInt8 × Gn) (l) encCal (fun k s => (115, I .i64 (k : Nat)) :: [(13, S s.1)]) (fun k s => [(901, .row 4 (l.map (encCal ∘ outV name))), (1000000, mkB (modC (Cst0 wild many) g) s.2), (1000001, srcB s.2.s)]) [0, 8, 14, 113, 114] [] (fun k s => s = hdAt l (modS name g) g1 k) ((modS name g, g1)) (by simp only [go_sem, zA, zB, zC, zD, zE, zF, zG, reduceCtorEq, zH, zI, zJ, zK, zL, hmc]; exact Gh.to [] (by repeat (first | exact trivial | refine ⟨rfl, ?_⟩ | refine ⟨by (simp only [go_sem, zA, zB, zC, zD, zE, zF, zG, reduceCtorEq, zH, zI, zJ, zK, zL, List.length_append, List.length_map, List.length_cons, List.length_nil, Nat.zero_add]) <;> rfl, ?_⟩)) (by repeat (first | exact trivial | refine ⟨rfl, ?_⟩ | refine ⟨by (simp only [go_sem, zA, zB, zC, zD, zE, zF, zG, reduceCtorEq, zH, zI, zJ, zK, zL, List.length_append, List.length_map, List.length_cons, List.length_nil, Nat.zero_add]) <;> rfl, ?_⟩)) rfl rfl rfl) ?_ ?_ ?_
    · rfl
    · intro k s d hlt hx hx' hbb hok
      simp only [go_sem, zA, zB, zC, zD, zE, zF, zG, reduceCtorEq, zH, zI, zJ, zK, zL]
      have hdm := hfin.2.2 d (List.mem_of_getElem? hx)
      have hfk := hhf k (by omega)
      rw [← hok] at hfk
      obtain ⟨hf1, hf2⟩ := hfk
      have hhl := headerV_len d hdm.1 hdm.2
      have hhc := header_c d hdm.1 hdm.2
      simp only [encCal] at hhc
      have hsuc : hdAt l (modS name g) g1 (k + 1) = (bif decide (drawV s.2.s 3 = 0) then s.1 ++ headerV d else s.1, nxt s.2 3) := by
        simp only [hdAt, ← hok]; rw [List.getD_eq_getElem?_getD, hx]; rfl
      cases h0 : decide (drawV s.2.s 3 = 0) with
      | true =>
        rw [h0, cond_true] at hsuc
        repeat' (first | (simp only [go_sem, zA, zB, zC, zD, zE, zF, zG, reduceCtorEq, zH, zI, zJ, zK, zL, hbb, encCal, h0, List.length_map]; all_goals fail_if_success guard_target =ₛ False) | (with_reducible first | ((first | refine seqVC_stepN rfl ?_ | refine seqVC_stepG rfl (by with_unfolding_all rfl) ?_ | refine AWP.seq ?_ | refine AWP.seqR (by kernel_rfl) ?_ | refine parVC_stepN rfl ?_ | refine parVC_stepG rfl (by with_unfolding_all rfl) ?_ | refine parEVC_stepN rfl ?_ | refine parEVC_stepG rfl (by with_unfolding_all rfl) ?_ | refine genVC_stepN rfl ?_ | refine genVC_stepG rfl (by with_unfolding_all rfl) ?_); intro K hK) | ((first | refine hK _ _ _ ?_ | refine hK _ _ ?_ | refine hK _ ?_); clear hK K) | refine seqVC_nil ?_ | refine parVC_nil ?_ | refine parEVC_nil ?_ | refine genVC_nil ?_ | refine AWP.block ?_ | (refine AWP.cond (by with_unfolding_all rfl) ?_ ?_ <;> intro h <;> (try simp only [zM, zN] at h) <;> try exact absurd h (by decide)) | refine AWP.skip ?_ | refine AWP.ret ?_ | refine AWP.exit ?_ | (refine ⟨fun h => ?_, fun h => ?_⟩ <;> (try simp only [zM, zN] at h) <;> try simp only [h]) | refine ⟨_, hhc, ?_⟩ | refine ⟨by omega, encCal d, hx', ?_⟩ | refine ⟨encCal d, hx', ?_⟩ | (refine ⟨(by first | omega | (simp only [List.length_append, List.length_map, List.length_take, List.length_drop, List.length_cons, List.length_nil, List.length_replicate]; omega) : _ ≤ _), ?_⟩) | refine ⟨by omega, by omega, ?_⟩) | (refine ⟨1000001, _, _, _, draw_k 1000001 s.2.s hf1 3 (by omega), rfl, ?_⟩) | (with_reducible first | (refine AWP.segP (id := 9) 7 mixed (by kernel_rfl) fun K hK => ?_; simp only [List.take_succ_cons, List.take_zero, List.drop_succ_cons, List.drop_zero]) | (refine AWP.segP (id := 18) 10 mixed (by kernel_rfl) fun K hK => ?_; simp only [List.take_succ_cons, List.take_zero, List.drop_succ_cons, List.drop_zero]) | refine AWP.parR mixed (by kernel_rfl) fun K hK => ?_ | refine ⟨(by kernel_rfl : depB _ _ _ = true), ?_⟩ | refine Or.inl ?_) | (clear hK K))
        all_goals (rw [wrap_succ hlt hlen2, hsuc]; exact Gh.to [] (by repeat (first | exact trivial | refine ⟨rfl, ?_⟩ | refine ⟨by (simp only [go_sem, zA, zB, zC, zD, zE, zF, zG, reduceCtorEq, zH, zI, zJ, zK, zL, List.length_append, List.length_map, List.length_cons, List.length_nil, Nat.zero_add]) <;> rfl, ?_⟩)) (by repeat (first | exact trivial | refine ⟨rfl, ?_⟩ | refine ⟨by (simp only [go_sem, zA, zB, zC, zD, zE, zF, zG, reduceCtorEq, zH, zI, zJ, zK, zL, List.length_append, List.length_map, List.length_cons, List.length_nil, Nat.zero_add]) <;> rfl, ?_⟩)) rfl rfl rfl)
      | false =>
        rw [h0, cond_false] at hsuc
        repeat' (first | (simp only [go_sem, zA, zB, zC, zD, zE, zF, zG, reduceCtorEq, zH, zI, zJ, zK, zL, hbb, encCal, h0, List.length_map]; all_goals fail_if_success guard_target =ₛ False) | (with_reducible first | ((first | refine seqVC_stepN rfl ?_ | refine seqVC_stepG rfl (by with_unfolding_all rfl) ?_ | refine AWP.seq ?_ | refine AWP.seqR (by kernel_rfl) ?_ | refine parVC_stepN rfl ?_ | refine parVC_stepG rfl (by with_unfolding_all rfl) ?_ | refine parEVC_stepN rfl ?_ | refine parEVC_stepG rfl (by with_unfolding_all rfl) ?_ | refine genVC_stepN rfl ?_ | refine genVC_stepG rfl (by with_unfolding_all rfl) ?_); intro K hK) | ((first | refine hK _ _ _ ?_ | refine hK _ _ ?_ | refine hK _ ?_); clear hK K) | refine seqVC_nil ?_ | refine parVC_nil ?_ | refine parEVC_nil ?_ | refine genVC_nil ?_ | refine AWP.block ?_ | (refine AWP.cond (by with_unfolding_all rfl) ?_ ?_ <;> intro h <;> (try simp only [zM, zN] at h) <;> try exact absurd h (by decide)) | refine AWP.skip ?_ | refine AWP.ret ?_ | refine AWP.exit ?_ | (refine ⟨fun h => ?_, fun h => ?_⟩ <;> (try simp only [zM, zN] at h) <;> try simp only [h]) | refine ⟨_, hhc, ?_⟩ | refine ⟨by omega, encCal d, hx', ?_⟩ | refine ⟨encCal d, hx', ?_⟩ | (refine ⟨(by first | omega | (simp only [List.length_append, List.length_map, List.length_take, List.length_drop, List.length_cons, List.length_nil, List.length_replicate]; omega) : _ ≤ _), ?_⟩) | refine ⟨by omega, by omega, ?_⟩) | (refine ⟨1000001, _, _, _, draw_k 1000001 s.2.s hf1 3 (by omega), rfl, ?_⟩) | (with_reducible first | (refine AWP.segP (id := 9) 7 mixed (by kernel_rfl) fun K hK => ?_; simp only [List.take_succ_cons, List.take_zero, List.drop_succ_cons, List.drop_zero]) | (refine AWP.segP (id := 18) 10 mixed (by kernel_rfl) fun K hK => ?_; simp only [List.take_succ_cons, List.take_zero, List.drop_succ_cons, List.drop_zero]) | refine AWP.parR mixed (by kernel_rfl) fun K hK => ?_ | refine ⟨(by kernel_rfl : depB _ _ _ = true), ?_⟩ | refine Or.inl ?_) | (clear hK K))
        all_goals (rw [wrap_succ hlt hlen2, hsuc]; exact Gh.to [] (by repeat (first | exact trivial | refine ⟨rfl, ?_⟩ | refine ⟨by (simp only [go_sem, zA, zB, zC, zD, zE, zF, zG, reduceCtorEq, zH, zI, zJ, zK, zL, List.length_append, List.length_map, List.length_cons, List.length_nil, Nat.zero_add]) <;> rfl, ?_⟩)) (by repeat (first | exact trivial | refine ⟨rfl, ?_⟩ | refine ⟨by (simp only [go_sem, zA, zB, zC, zD, zE, zF, zG, reduceCtorEq, zH, zI, zJ, zK, zL, List.length_append, List.length_map, List.length_cons, List.length_nil, Nat.zero_add]) <;> rfl, ?_⟩)) rfl rfl rfl)
    · intro s hbb hok
      simp only [go_sem, zA, zB, zC, zD, zE, zF, zG, reduceCtorEq, zH, zI, zJ, zK, zL]
      have hhg := hhf l.length (Nat.le_refl _)
      rw [← hok] at hmv hff hhg
      repeat' (first | (simp only [go_sem, zA, zB, zC, zD, zE, zF, zG, reduceCtorEq, zH, zI, zJ, zK, zL, hbb, List.length_map]; all_goals fail_if_success guard_target =ₛ False) | (with_reducible first | ((first | refine seqVC_stepN rfl ?_ | refine seqVC_stepG rfl (by with_unfolding_all rfl) ?_ | refine AWP.seq ?_ | refine AWP.seqR (by kernel_rfl) ?_ | refine parVC_stepN rfl ?_ | refine parVC_stepG rfl (by with_unfolding_all rfl) ?_ | refine parEVC_stepN rfl ?_ | refine parEVC_stepG rfl (by with_unfolding_all rfl) ?_ | refine genVC_stepN rfl ?_ | refine genVC_stepG rfl (by with_unfolding_all rfl) ?_); intro K hK) | ((first | refine hK _ _ _ ?_ | refine hK _ _ ?_ | refine hK _ ?_); clear hK K) | refine seqVC_nil ?_ | refine parVC_nil ?_ | refine parEVC_nil ?_ | refine genVC_nil ?_ | refine AWP.block ?_ | (refine AWP.cond (by with_unfolding_all rfl) ?_ ?_ <;> intro h <;> (try simp only [zM, zN] at h) <;> try exact absurd h (by decide)) | refine AWP.skip ?_ | refine AWP.ret ?_ | refine AWP.exit ?_ | (refine ⟨fun h => ?_, fun h => ?_⟩ <;> (try simp only [zM, zN] at h) <;> try simp only [h]) | (refine AWP.segP (id := 9) 7 mixed (by kernel_rfl) fun K hK => ?_; simp only [List.take_succ_cons, List.take_zero, List.drop_succ_cons, List.drop_zero]) | (refine AWP.segP (id := 18) 10 mixed (by kernel_rfl) fun K hK => ?_; simp only [List.take_succ_cons, List.take_zero, List.drop_succ_cons, List.drop_zero]) | refine AWP.parR mixed (by kernel_rfl) fun K hK => ?_ | refine ⟨(by kernel_rfl : depB _ _ _ = true), ?_⟩ | refine Or.inl ?_) | (clear hK K))
      refine AWP.len 130 rfl fun hlen3 => ?_
      (try rw [List.length_map] at hlen3)
      refine AWP.range (S := List UInt8 × Gn) (l) encCal (fun k t => (132, I .i64 (k : Nat)) :: [(13, S t.1)]) (fun k t => [(901, .row 4 (l.map (encCal ∘ outV name))), (1000000, mkB (modC (Cst0 wild many) g) t.2), (1000001, srcB t.2.s)]) [0, 14, 130, 131] [] (fun k t => t = fnAt (modC (Cst0 wild many) g) l s.1 s.2 k) (s) (by simp only [go_sem, zA, zB, zC, zD, zE, zF, zG, reduceCtorEq, zH, zI, zJ, zK, zL]; exact Gh.to [] (by repeat (first | exact trivial | refine ⟨rfl, ?_⟩ | refine ⟨by (simp only [go_sem, zA, zB, zC, zD, zE, zF, zG, reduceCtorEq, zH, zI, zJ, zK, zL, List.length_append, List.length_map, List.length_cons, List.length_nil, Nat.zero_add]) <;> rfl, ?_⟩)) (by repeat (first | exact trivial | refine ⟨rfl, ?_⟩ | refine ⟨by (simp only [go_sem, zA, zB, zC, zD, zE, zF, zG, reduceCtorEq, zH, zI, zJ, zK, zL, List.length_append, List.length_map, List.length_cons, List.length_nil, Nat.zero_add]) <;> rfl, ?_⟩)) rfl rfl rfl) ?_ ?_ ?_
      · rfl
      · intro k t d hlt hx hx' hbb hok
        simp only [go_sem, zA, zB, zC, zD, zE, zF, zG, reduceCtorEq, zH, zI, zJ, zK, zL]
        have hdm := hfin.2.2 d (List.mem_of_getElem? hx)
        have hfk := hff k (by omega)
        rw [← hok] at hfk
        obtain ⟨ht1, ht2⟩ := hfk
        have hh2 := hhg.2
        have hv3 := drawV_in t.2.s (n := 3) (by omega)
        have hsuc : fnAt (modC (Cst0 wild many) g) l s.1 s.2 (k + 1) = (t.1 ++ (fnV (modC (Cst0 wild many) g) d t.2).1, (fnV (modC (Cst0 wild many) g) d t.2).2) := by
          simp only [fnAt, ← hok]; rw [List.getD_eq_getElem?_getD, hx]; rfl
        have hnn : ((drawV t.2.s 3).toNat : Int) = drawV t.2.s 3 := Int.toNat_of_nonneg hv3.1
        have hfv : fnV (modC (Cst0 wild many) g) d t.2 = fnV (modC (Cst0 wild many) g) d t.2 := rfl
        conv at hfv => rhs; unfold fnV
        simp only [] at hfv
        generalize hN : (drawV t.2.s 3).toNat = n at *
        have hwd : IntKind.i64.wrap (1 + drawV t.2.s 3) = ((n + 1 : Nat) : Int) := by rw [wrapI _ (by omega) (by omega)]; omega
        have hwe : IntKind.i64.wrap (((n + 1 : Nat) : Int) - 1) = (n : Int) := by rw [wrapI _ (by omega) (by omega)]; omega
        have hLn : ∀ n, n ≤ 3 → lenE n ≤ 1000000 := by decide
        have cS := fun g1 hg1 => clauseS_c (modC (Cst0 wild many) g) n _ _ (expr_good (modC (Cst0 wild many) g) hcw hcok n (by omega)) (by omega) (hLn n (by omega)) (by omega) g1 hg1 d hdm.1
        have cN := fun g1 hg1 => clauseN_c (modC (Cst0 wild many) g) (n + 1) _ _ (expr_good (modC (Cst0 wild many) g) hcw hcok (n + 1) (by omega)) (by omega) (hLn (n + 1) (by omega)) (by omega) g1 hg1 d hdm.1
        have fS := fun g1 hg1 => clauseV_fine (modC (Cst0 wild many) g) hcw hcok true d hdm.1 n (by omega) g1 hg1
        have fN := fun g1 hg1 => clauseV_fine (modC (Cst0 wild many) g) hcw hcok false d hdm.1 (n + 1) (by omega) g1 hg1
        simp only [encCal] at cS cN
        have hok3 := ok_nxt ht1 3
        have hok2 := ok_nxt hok3 2
        cases hp : decide (0 < (d.params.length : Int)) with
        | false =>
          rw [hp, cond_false] at hfv
          have rN := cN _ hok3
          have lN := (fN _ hok3).2
          repeat' (first | (simp only [go_sem, zA, zB, zC, zD, zE, zF, zG, reduceCtorEq, zH, zI, zJ, zK, zL, hbb, encCal, hp, hwd, hwe, Bx.puts, List.length_map]; all_goals fail_if_success guard_target =ₛ False) | (with_reducible first | ((first | refine seqVC_stepN rfl ?_ | refine seqVC_stepG rfl (by with_unfolding_all rfl) ?_ | refine AWP.seq ?_ | refine AWP.seqR (by kernel_rfl) ?_ | refine parVC_stepN rfl ?_ | refine parVC_stepG rfl (by with_unfolding_all rfl) ?_ | refine parEVC_stepN rfl ?_ | refine parEVC_stepG rfl (by with_unfolding_all rfl) ?_ | refine genVC_stepN rfl ?_ | refine genVC_stepG rfl (by with_unfolding_all rfl) ?_); intro K hK) | ((first | refine hK _ _ _ ?_ | refine hK _ _ ?_ | refine hK _ ?_); clear hK K) | refine seqVC_nil ?_ | refine parVC_nil ?_ | refine parEVC_nil ?_ | refine genVC_nil ?_ | refine AWP.block ?_ | (refine AWP.cond (by with_unfolding_all rfl) ?_ ?_ <;> intro h <;> (try simp only [zM, zN] at h) <;> try exact absurd h (by decide)) | refine AWP.skip ?_ | refine AWP.ret ?_ | refine AWP.exit ?_ | (refine ⟨fun h => ?_, fun h => ?_⟩ <;> (try simp only [zM, zN] at h) <;> try simp only [h]) | refine ⟨by omega, encCal d, hx', ?_⟩ | refine ⟨encCal d, hx', ?_⟩ | (refine ⟨(by first | omega | (simp only [List.length_append, List.length_map, List.length_take, List.length_drop, List.length_cons, List.length_nil, List.length_replicate]; omega) : _ ≤ _), ?_⟩) | refine ⟨by omega, by omega, ?_⟩) | (refine ⟨1000001, _, _, _, draw_k 1000001 t.2.s ht1 3 (by omega), rfl, ?_⟩) | (refine ⟨1000001, _, _, _, draw_k 1000001 (nxt t.2 3).s (ok_nxt ht1 3) 2 (by omega), rfl, ?_⟩) | ( refine Or.inr ⟨_, _, _, rN, ⟨rfl, rfl, trivial⟩, rfl, rfl, ?_⟩) | (with_reducible first | (refine AWP.segP (id := 9) 7 mixed (by kernel_rfl) fun K hK => ?_; simp only [List.take_succ_cons, List.take_zero, List.drop_succ_cons, List.drop_zero]) | (refine AWP.segP (id := 18) 10 mixed (by kernel_rfl) fun K hK => ?_; simp only [List.take_succ_cons, List.take_zero, List.drop_succ_cons, List.drop_zero]) | refine AWP.parR mixed (by kernel_rfl) fun K hK => ?_ | refine ⟨(by kernel_rfl : depB _ _ _ = true), ?_⟩ | refine Or.inl ?_) | (clear hK K))
          all_goals (rw [wrap_succ hlt hlen3, hsuc, hfv]; exact Gh.to [] (by repeat (first | exact trivial | refine ⟨rfl, ?_⟩ | refine ⟨by (simp only [go_sem, zA, zB, zC, zD, zE, zF, zG, reduceCtorEq, zH, zI, zJ, zK, zL, List.length_append, List.length_map, List.length_cons, List.length_nil, Nat.zero_add]) <;> rfl, ?_⟩)) (by repeat (first | exact trivial | refine ⟨rfl, ?_⟩ | refine ⟨by (simp only [go_sem, zA, zB, zC, zD, zE, zF, zG, reduceCtorEq, zH, zI, zJ, zK, zL, List.length_append, List.length_map, List.length_cons, List.length_nil, Nat.zero_add]) <;> rfl, ?_⟩)) rfl rfl rfl)
        | true =>
          rw [hp, cond_true] at hfv
          cases h2 : decide (drawV (nxt t.2 3).s 2 = 0) with
          | false =>
            rw [h2, cond_false] at hfv
            have rN := cN _ hok2
            have lN := (fN _ hok2).2
            repeat' (first | (simp only [go_sem, zA, zB, zC, zD, zE, zF, zG, reduceCtorEq, zH, zI, zJ, zK, zL, hbb, encCal, hp, h2, hwd, hwe, Bx.puts, List.length_map]; all_goals fail_if_success guard_target =ₛ False) | (with_reducible first | ((first | refine seqVC_stepN rfl ?_ | refine seqVC_stepG rfl (by with_unfolding_all rfl) ?_ | refine AWP.seq ?_ | refine AWP.seqR (by kernel_rfl) ?_ | refine parVC_stepN rfl ?_ | refine parVC_stepG rfl (by with_unfolding_all rfl) ?_ | refine parEVC_stepN rfl ?_ | refine parEVC_stepG rfl (by with_unfolding_all rfl) ?_ | refine genVC_stepN rfl ?_ | refine genVC_stepG rfl (by with_unfolding_all rfl) ?_); intro K hK) | ((first | refine hK _ _ _ ?_ | refine hK _ _ ?_ | refine hK _ ?_); clear hK K) | refine seqVC_nil ?_ | refine parVC_nil ?_ | refine parEVC_nil ?_ | refine genVC_nil ?_ | refine AWP.block ?_ | (refine AWP.cond (by with_unfolding_all rfl) ?_ ?_ <;> intro h <;> (try simp only [zM, zN] at h) <;> try exact absurd h (by decide)) | refine AWP.skip ?_ | refine AWP.ret ?_ | refine AWP.exit ?_ | (refine ⟨fun h => ?_, fun h => ?_⟩ <;> (try simp only [zM, zN] at h) <;> try simp only [h]) | refine ⟨by omega, encCal d, hx', ?_⟩ | refine ⟨encCal d, hx', ?_⟩ | (refine ⟨(by first | omega | (simp only [List.length_append, List.length_map, List.length_take, List.length_drop, List.length_cons, List.length_nil, List.length_replicate]; omega) : _ ≤ _), ?_⟩) | refine ⟨by omega, by omega, ?_⟩) | (refine ⟨1000001, _, _, _, draw_k 1000001 t.2.s ht1 3 (by omega), rfl, ?_⟩) | (refine ⟨1000001, _, _, _, draw_k 1000001 (nxt t.2 3).s (ok_nxt ht1 3) 2 (by omega), rfl, ?_⟩) | ( refine Or.inr ⟨_, _, _, rN, ⟨rfl, rfl, trivial⟩, rfl, rfl, ?_⟩) | (with_reducible first | (refine AWP.segP (id := 9) 7 mixed (by kernel_rfl) fun K hK => ?_; simp only [List.take_succ_cons, List.take_zero, List.drop_succ_cons, List.drop_zero]) | (refine AWP.segP (id := 18) 10 mixed (by kernel_rfl) fun K hK => ?_; simp only [List.take_succ_cons, List.take_zero, List.drop_succ_cons, List.drop_zero]) | refine AWP.parR mixed (by kernel_rfl) fun K hK => ?_ | refine ⟨(by kernel_rfl : depB _ _ _ = true), ?_⟩ | refine Or.inl ?_) | (clear hK K))
            all_goals (rw [wrap_succ hlt hlen3, hsuc, hfv]; exact Gh.to [] (by repeat (first | exact trivial | refine ⟨rfl, ?_⟩ | refine ⟨by (simp only [go_sem, zA, zB, zC, zD, zE, zF, zG, reduceCtorEq, zH, zI, zJ, zK, zL, List.length_append, List.length_map, List.length_cons, List.length_nil, Nat.zero_add]) <;> rfl, ?_⟩)) (by repeat (first | exact trivial | refine ⟨rfl, ?_⟩ | refine ⟨by (simp only [go_sem, zA, zB, zC, zD, zE, zF, zG, reduceCtorEq, zH, zI, zJ, zK, zL, List.length_append, List.length_map, List.length_cons, List.length_nil, Nat.zero_add]) <;> rfl, ?_⟩)) rfl rfl rfl)
          | true =>
            rw [h2, cond_true] at hfv
            have rS := cS _ hok2
            have lS := (fS _ hok2).2
            have kS := (fS _ hok2).1
            have rN := cN _ kS
            have lN := (fN _ kS).2
            repeat' (first | (simp only [go_sem, zA, zB, zC, zD, zE, zF, zG, reduceCtorEq, zH, zI, zJ, zK, zL, hbb, encCal, hp, h2, hwd, hwe, Bx.puts, List.length_map]; all_goals fail_if_success guard_target =ₛ False) | (with_reducible first | ((first | refine seqVC_stepN rfl ?_ | refine seqVC_stepG rfl (by with_unfolding_all rfl) ?_ | refine AWP.seq ?_ | refine AWP.seqR (by kernel_rfl) ?_ | refine parVC_stepN rfl ?_ | refine parVC_stepG rfl (by with_unfolding_all rfl) ?_ | refine parEVC_stepN rfl ?_ | refine parEVC_stepG rfl (by with_unfolding_all rfl) ?_ | refine genVC_stepN rfl ?_ | refine genVC_stepG rfl (by with_unfolding_all rfl) ?_); intro K hK) | ((first | refine hK _ _ _ ?_ | refine hK _ _ ?_ | refine hK _ ?_); clear hK K) | refine seqVC_nil ?_ | refine parVC_nil ?_ | refine parEVC_nil ?_ | refine genVC_nil ?_ | refine AWP.block ?_ | (refine AWP.cond (by with_unfolding_all rfl) ?_ ?_ <;> intro h <;> (try simp only [zM, zN] at h) <;> try exact absurd h (by decide)) | refine AWP.skip ?_ | refine AWP.ret ?_ | refine AWP.exit ?_ | (refine ⟨fun h => ?_, fun h => ?_⟩ <;> (try simp only [zM, zN] at h) <;> try simp only [h]) | refine ⟨by omega, encCal d, hx', ?_⟩ | refine ⟨encCal d, hx', ?_⟩ | (refine ⟨(by first | omega | (simp only [List.length_append, List.length_map, List.length_take, List.length_drop, List.length_cons, List.length_nil, List.length_replicate]; omega) : _ ≤ _), ?_⟩) | refine ⟨by omega, by omega, ?_⟩) | (refine ⟨1000001, _, _, _, draw_k 1000001 t.2.s ht1 3 (by omega), rfl, ?_⟩) | (refine ⟨1000001, _, _, _, draw_k 1000001 (nxt t.2 3).s (ok_nxt ht1 3) 2 (by omega), rfl, ?_⟩) | ( refine Or.inr ⟨_, _, _, rS, ⟨rfl, rfl, trivial⟩, rfl, rfl, ?_⟩) | ( refine Or.inr ⟨_, _, _, rN, ⟨rfl, rfl, trivial⟩, rfl, rfl, ?_⟩) | (with_reducible first | (refine AWP.segP (id := 9) 7 mixed (by kernel_rfl) fun K hK => ?_; simp only [List.take_succ_cons, List.take_zero, List.drop_succ_cons, List.drop_zero]) | (refine AWP.segP (id := 18) 10 mixed (by kernel_rfl) fun K hK => ?_; simp only [List.take_succ_cons, List.take_zero, List.drop_succ_cons, List.drop_zero]) | refine AWP.parR mixed (by kernel_rfl) fun K hK => ?_ | refine ⟨(by kernel_rfl : depB _ _ _ = true), ?_⟩ | refine Or.inl ?_) | (clear hK K))
            have hsuc2 : fnAt (modC (Cst0 wild many) g) l s.1 s.2 (k + 1) = (t.1 ++ ((clauseV (modC (Cst0 wild many) g) true d n (nxt (nxt t.2 3) 2)).1 ++ [59, 10]) ++ ((clauseV (modC (Cst0 wild many) g) false d (n + 1) (clauseV (modC (Cst0 wild many) g) true d n (nxt (nxt t.2 3) 2)).2).1 ++ [46, 10]), (clauseV (modC (Cst0 wild many) g) false d (n + 1) (clauseV (modC (Cst0 wild many) g) true d n (nxt (nxt t.2 3) 2)).2).2) := by rw [hsuc, hfv]; simp only [List.append_assoc]
            all_goals (rw [wrap_succ hlt hlen3, hsuc2]; exact Gh.to [] (by repeat (first | exact trivial | refine ⟨rfl, ?_⟩ | refine ⟨by (simp only [go_sem, zA, zB, zC, zD, zE, zF, zG, reduceCtorEq, zH, zI, zJ, zK, zL, List.length_append, List.length_map, List.length_cons, List.length_nil, Nat.zero_add]) <;> rfl, ?_⟩)) (by repeat (first | exact trivial | refine ⟨rfl, ?_⟩ | refine ⟨by (simp only [go_sem, zA, zB, zC, zD, zE, zF, zG, reduceCtorEq, zH, zI, zJ, zK, zL, List.length_append, List.length_map, List.length_cons, List.length_nil, Nat.zero_add]) <;> rfl, ?_⟩)) rfl rfl rfl)
      · intro t hbb hok
        simp only [go_sem, zA, zB, zC, zD, zE, zF, zG, reduceCtorEq, zH, zI, zJ, zK, zL]
        rw [← hok] at hmv
        refine AWP.gh (Gh.freeze 901 rfl rfl (by simp only [go_sem, zA, zB, zC, zD, zE, zF, zG, reduceCtorEq, zH, zI, zJ, zK, zL, List.length_map]) (by simp only [go_sem, zA, zB, zC, zD, zE, zF, zG, reduceCtorEq, zH, zI, zJ, zK, zL, List.length_map])) ?_
        simp only [go_sem, zA, zB, zC, zD, zE, zF, zG, reduceCtorEq, zH, zI, zJ, zK, zL, List.length_map]
        repeat' (first | (simp only [go_sem, zA, zB, zC, zD, zE, zF, zG, reduceCtorEq, zH, zI, zJ, zK, zL, hbb, List.length_map]; all_goals fail_if_success guard_target =ₛ False) | (with_reducible first | ((first | refine seqVC_stepN rfl ?_ | refine seqVC_stepG rfl (by with_unfolding_all rfl) ?_ | refine AWP.seq ?_ | refine AWP.seqR (by kernel_rfl) ?_ | refine parVC_stepN rfl ?_ | refine parVC_stepG rfl (by with_unfolding_all rfl) ?_ | refine parEVC_stepN rfl ?_ | refine parEVC_stepG rfl (by with_unfolding_all rfl) ?_ | refine genVC_stepN rfl ?_ | refine genVC_stepG rfl (by with_unfolding_all rfl) ?_); intro K hK) | ((first | refine hK _ _ _ ?_ | refine hK _ _ ?_ | refine hK _ ?_); clear hK K) | refine seqVC_nil ?_ | refine parVC_nil ?_ | refine parEVC_nil ?_ | refine genVC_nil ?_ | refine AWP.block ?_ | (refine AWP.cond (by with_unfolding_all rfl) ?_ ?_ <;> intro h <;> (try simp only [zM, zN] at h) <;> try exact absurd h (by decide)) | refine AWP.skip ?_ | refine AWP.ret ?_ | refine AWP.exit ?_ | (refine ⟨fun h => ?_, fun h => ?_⟩ <;> (try simp only [zM, zN] at h) <;> try simp only [h]) | (refine AWP.segP (id := 9) 7 mixed (by kernel_rfl) fun K hK => ?_; simp only [List.take_succ_cons, List.take_zero, List.drop_succ_cons, List.drop_zero]) | (refine AWP.segP (id := 18) 10 mixed (by kernel_rfl) fun K hK => ?_; simp only [List.take_succ_cons, List.take_zero, List.drop_succ_cons, List.drop_zero]) | refine AWP.parR mixed (by kernel_rfl) fun K hK => ?_ | refine ⟨(by kernel_rfl : depB _ _ _ = true), ?_⟩ | refine Or.inl ?_) | (clear hK K))
        all_goals (rw [hmv]; exact ⟨rfl, fun x hx => hx⟩)
end Go.Proofs.YtogponhonjiidaaDoor
