/- A part of the proof: lemmas about the walk of the program and about plain integers and lists. No conditions beyond those that each lemma states. -/
import Derived.Test.YtmpfdejckbceiaaBk8
set_option linter.unusedSimpArgs false
set_option linter.unusedVariables false
set_option maxRecDepth 20000
set_option maxHeartbeats 4000000
namespace Go.Proofs.Ytmpfdejckbceiaa
open Go Go.Sx
open Nat renaming reduceBEq → zA, reduceBNe → zB, reduceAdd → zC, reduceSub → zD, reduceMul → zE, reduceLeDiff → zF, reduceLT → zG, reduceEqDiff → zH
open Int renaming reduceToNat → zI, reduceLE → zJ, reduceLT → zK, reduceEq → zL
/-- maps -/
def mapVal (ks : List KeyD) (vs : List Val) : Val := ⟨8, 0, [], vs, ks, [], []⟩
def kPos (ks : List KeyD) (x : KeyD) : Nat := tw (fun y => decide (keyC y x < 0)) ks
def mapGo : List (KeyD × Val) → List KeyD → List Val → Val × Int
  | [], ks, vs => (mapVal ks vs, 0)
  | (x, v) :: r, ks, vs => bif decide (ks[kPos ks x]? = some x) then (zeroVal, 6) else mapGo r (putAt (kPos ks x) x ks) (putAt (kPos ks x) v vs)
def mapV (ks : List KeyD) (l : List Val) : Val × Int :=
  bif decide ((ks.length : Int) = (l.length : Int)) then (bif ks.all validKeyB then mapGo (ks.zip l) [] [] else (zeroVal, 1)) else (zeroVal, 1)
abbrev mapBox (ks : List KeyD) (vs : List Val) : Res := .cells [.dat (.int .i64 8), .dat (.int .i64 0), .dat (.str []), .dat (.sl 7 (vs.map encVal)), .dat (.sl 2 (ks.map encKey)), .dat (.sl 9 []), .dat (.sl 1 [])]
theorem key_put (s : List KeyD) (k : Nat) (x : KeyD) : (List.map encKey (s.take k) ++ [encKey x]) ++ List.map encKey (s.drop k) = (putAt k x s).map encKey := by
  unfold putAt; simp
theorem key_end (s : List KeyD) (x : KeyD) : (List.map encKey s ++ [encKey x]) ++ List.map encKey (s.drop s.length) = (putAt s.length x s).map encKey := by
  unfold putAt; simp
theorem val_put (s : List Val) (k : Nat) (x : Val) : (List.map encVal (s.take k) ++ [encVal x]) ++ List.map encVal (s.drop k) = (putAt k x s).map encVal := by
  unfold putAt; simp
theorem zip_step {α β : Type} {a : List α} {b : List β} {k : Nat} {x : α} {y : β} (hx : a[k]? = some x) (hy : b[k]? = some y) : (a.zip b).drop k = (x, y) :: (a.zip b).drop (k + 1) := by
  obtain ⟨h1, e1⟩ := List.getElem?_eq_some_iff.1 hx
  obtain ⟨h2, e2⟩ := List.getElem?_eq_some_iff.1 hy
  have hlz : k < (a.zip b).length := by simp; try omega
  rw [List.drop_eq_getElem_cons hlz, List.getElem_zip, e1, e2]
theorem zip_end {α β : Type} {a : List α} {b : List β} : (a.zip b).drop a.length = [] := by
  rw [List.drop_eq_nil_iff]; simp; try omega
theorem zeroVt : Vt zeroVal = .st [.int .i64 0, .int .i64 0, .str [], .sl 7 [], .sl 2 [], .sl 9 [], .sl 1 []] := by rw [Vt, zeroVal_lit]
theorem refMap_c (ks : List KeyD) (l : List Val) (hkl : ks.length ≤ 1000000) : PC Try.prog 72 [.one (.dat (.sl 2 (ks.map encKey))), .one (.dat (.sl 7 (l.map encVal)))] (.tup [Vt (mapV ks l).1, I .i64 (mapV ks l).2]) := by
  refine PCB.of_body Try.func72 rfl (by decide) Try.ntmps72 Try.results72 rfl rfl rfl ?_ rfl rfl
  unfold mapV
  cases hl : decide ((ks.length : Int) = (l.length : Int))
  ·
    repeat' (first
      | (simp only [go_sem, zA, zB, zC, zD, zE, zF, zG, reduceCtorEq, zH, zI, zJ, zK, zL, List.length_map, hl]; all_goals fail_if_success guard_target =ₛ False)
      | (with_reducible first
        | refine seqVC_stepN rfl fun K hK => ?_
        | refine seqVC_stepG rfl (by with_unfolding_all rfl) fun K hK => ?_
        | refine seqVC_nil ?_
        | (refine hK _ _ _ ?_; clear hK K)
        | (refine hK _ _ ?_; clear hK K)
        | (refine hK _ ?_; clear hK K)
        | refine AWP.seq fun K hK => ?_
        | refine AWP.seqR (by kernel_rfl) fun K hK => ?_
        | refine parVC_stepN rfl fun K hK => ?_
        | refine parVC_stepG rfl (by with_unfolding_all rfl) fun K hK => ?_
        | refine parEVC_stepN rfl fun K hK => ?_
        | refine parEVC_stepG rfl (by with_unfolding_all rfl) fun K hK => ?_
        | refine genVC_stepN rfl fun K hK => ?_
        | refine genVC_stepG rfl (by with_unfolding_all rfl) fun K hK => ?_
        | refine parVC_nil ?_
        | refine parEVC_nil ?_
        | refine genVC_nil ?_
        | (refine AWP.cond (by with_unfolding_all rfl) (fun h => ?_) (fun h => ?_); all_goals (try simp only [Bool.not_eq_true', Bool.not_eq_false'] at h); (all_goals try first | (exact absurd h Bool.false_ne_true) | (exact absurd h.symm Bool.false_ne_true) | (exact absurd h (by decide))))
        | refine AWP.skip ?_
        | refine AWP.ret ?_
        | refine AWP.block ?_
        | refine AWP.exit ?_
        | (refine ⟨fun h => ?_, fun h => ?_⟩ <;> (try simp only [Bool.not_eq_true', Bool.not_eq_false'] at h) <;> try simp only [h])
        | (refine AWP.segP (id := 17) 4 mixed (by kernel_rfl) fun K hK => ?_; simp only [List.take_succ_cons, List.take_zero, List.drop_succ_cons, List.drop_zero])
        | (refine AWP.segP (id := 18) 6 mixed (by kernel_rfl) fun K hK => ?_; simp only [List.take_succ_cons, List.take_zero, List.drop_succ_cons, List.drop_zero])
        | (refine AWP.segP (id := 19) 6 mixed (by kernel_rfl) fun K hK => ?_; simp only [List.take_succ_cons, List.take_zero, List.drop_succ_cons, List.drop_zero])
        | refine AWP.parR mixed (by kernel_rfl) fun K hK => ?_
        | refine ⟨(by kernel_rfl : depB _ _ _ = true), ?_⟩
        | refine Or.inl ?_)
      | (clear hK K))
    all_goals (first | exact fun _ h => (by cases h) | refine fin0 ?_)
    all_goals (simp only [cond_false, zeroVt]; try rfl)
  have hkl2 : ks.length = l.length := by have := of_decide_eq_true hl; omega
  simp only [cond_true]
  repeat' (first
    | (simp only [go_sem, zA, zB, zC, zD, zE, zF, zG, reduceCtorEq, zH, zI, zJ, zK, zL, List.length_map, hl]; all_goals fail_if_success guard_target =ₛ False)
    | (with_reducible first
      | refine seqVC_stepN rfl fun K hK => ?_
      | refine seqVC_stepG rfl (by with_unfolding_all rfl) fun K hK => ?_
      | refine seqVC_nil ?_
      | (refine hK _ _ _ ?_; clear hK K)
      | (refine hK _ _ ?_; clear hK K)
      | (refine hK _ ?_; clear hK K)
      | refine AWP.seq fun K hK => ?_
      | refine AWP.seqR (by kernel_rfl) fun K hK => ?_
      | refine parVC_stepN rfl fun K hK => ?_
      | refine parVC_stepG rfl (by with_unfolding_all rfl) fun K hK => ?_
      | refine parEVC_stepN rfl fun K hK => ?_
      | refine parEVC_stepG rfl (by with_unfolding_all rfl) fun K hK => ?_
      | refine genVC_stepN rfl fun K hK => ?_
      | refine genVC_stepG rfl (by with_unfolding_all rfl) fun K hK => ?_
      | refine parVC_nil ?_
      | refine parEVC_nil ?_
      | refine genVC_nil ?_
      | (refine AWP.cond (by with_unfolding_all rfl) (fun h => ?_) (fun h => ?_); all_goals (try simp only [Bool.not_eq_true', Bool.not_eq_false'] at h); (all_goals try first | (exact absurd h Bool.false_ne_true) | (exact absurd h.symm Bool.false_ne_true) | (exact absurd h (by decide))))
      | refine AWP.skip ?_
      | refine AWP.ret ?_
      | refine AWP.block ?_
      | refine AWP.exit ?_
      | (refine ⟨fun h => ?_, fun h => ?_⟩ <;> (try simp only [Bool.not_eq_true', Bool.not_eq_false'] at h) <;> try simp only [h])
      | (refine AWP.segP (id := 17) 4 mixed (by kernel_rfl) fun K hK => ?_; simp only [List.take_succ_cons, List.take_zero, List.drop_succ_cons, List.drop_zero])
      | (refine AWP.segP (id := 18) 6 mixed (by kernel_rfl) fun K hK => ?_; simp only [List.take_succ_cons, List.take_zero, List.drop_succ_cons, List.drop_zero])
      | (refine AWP.segP (id := 19) 6 mixed (by kernel_rfl) fun K hK => ?_; simp only [List.take_succ_cons, List.take_zero, List.drop_succ_cons, List.drop_zero])
      | refine AWP.parR mixed (by kernel_rfl) fun K hK => ?_
      | refine ⟨(by kernel_rfl : depB _ _ _ = true), ?_⟩
      | refine Or.inl ?_)
    | (clear hK K))
  refine AWP.len 0 rfl fun hlen0 => ?_
  (try rw [List.length_map] at hlen0)
  refine AWP.range (S := Unit) (ks) encKey (fun k s => (6, I .i64 (k : Nat)) :: []) (fun k s => []) [0, 1, 4] [4] (fun k s => ks.all validKeyB = (ks.drop k).all validKeyB) (()) (by simp only [go_sem, zA, zB, zC, zD, zE, zF, zG, reduceCtorEq, zH, zI, zJ, zK, zL]; exact Gh.to [] (by repeat (first | exact trivial | refine ⟨rfl, ?_⟩ | refine ⟨by (simp only [go_sem, zA, zB, zC, zD, zE, zF, zG, reduceCtorEq, zH, zI, zJ, zK, zL, List.length_append, List.length_map, List.length_cons, List.length_nil, Nat.zero_add]) <;> rfl, ?_⟩)) (by repeat (first | exact trivial | refine ⟨rfl, ?_⟩ | refine ⟨by (simp only [go_sem, zA, zB, zC, zD, zE, zF, zG, reduceCtorEq, zH, zI, zJ, zK, zL, List.length_append, List.length_map, List.length_cons, List.length_nil, Nat.zero_add]) <;> rfl, ?_⟩)) rfl rfl rfl) ?_ ?_ ?_
  · rfl
  · intro k s x hlt hx hx' hb hok
    simp only [go_sem, zA, zB, zC, zD, zE, zF, zG, reduceCtorEq, zH, zI, zJ, zK, zL]
    rw [all_step hx] at hok
    cases hz : validKeyB x <;> simp only [hz, Bool.true_and, Bool.false_and] at hok
    ·
      repeat' (first
        | (simp only [go_sem, zA, zB, zC, zD, zE, zF, zG, reduceCtorEq, zH, zI, zJ, zK, zL, List.length_map, hb, hz]; all_goals fail_if_success guard_target =ₛ False)
        | (with_reducible first
          | refine seqVC_stepN rfl fun K hK => ?_
          | refine seqVC_stepG rfl (by with_unfolding_all rfl) fun K hK => ?_
          | refine seqVC_nil ?_
          | (refine hK _ _ _ ?_; clear hK K)
          | (refine hK _ _ ?_; clear hK K)
          | (refine hK _ ?_; clear hK K)
          | refine AWP.seq fun K hK => ?_
          | refine AWP.seqR (by kernel_rfl) fun K hK => ?_
          | refine parVC_stepN rfl fun K hK => ?_
          | refine parVC_stepG rfl (by with_unfolding_all rfl) fun K hK => ?_
          | refine parEVC_stepN rfl fun K hK => ?_
          | refine parEVC_stepG rfl (by with_unfolding_all rfl) fun K hK => ?_
          | refine genVC_stepN rfl fun K hK => ?_
          | refine genVC_stepG rfl (by with_unfolding_all rfl) fun K hK => ?_
          | refine parVC_nil ?_
          | refine parEVC_nil ?_
          | refine genVC_nil ?_
          | (refine AWP.cond (by with_unfolding_all rfl) (fun h => ?_) (fun h => ?_); all_goals (try simp only [Bool.not_eq_true', Bool.not_eq_false'] at h); (all_goals try first | (exact absurd h Bool.false_ne_true) | (exact absurd h.symm Bool.false_ne_true) | (exact absurd h (by decide))))
          | refine AWP.skip ?_
          | refine AWP.ret ?_
          | refine AWP.block ?_
          | refine AWP.exit ?_
          | (refine ⟨fun h => ?_, fun h => ?_⟩ <;> (try simp only [Bool.not_eq_true', Bool.not_eq_false'] at h) <;> try simp only [h])
          | refine ⟨_, validKey_c x, ?_⟩
          | refine ⟨by omega, encKey x, hx', ?_⟩
          | (refine AWP.segP (id := 17) 4 mixed (by kernel_rfl) fun K hK => ?_; simp only [List.take_succ_cons, List.take_zero, List.drop_succ_cons, List.drop_zero])
          | (refine AWP.segP (id := 18) 6 mixed (by kernel_rfl) fun K hK => ?_; simp only [List.take_succ_cons, List.take_zero, List.drop_succ_cons, List.drop_zero])
          | (refine AWP.segP (id := 19) 6 mixed (by kernel_rfl) fun K hK => ?_; simp only [List.take_succ_cons, List.take_zero, List.drop_succ_cons, List.drop_zero])
          | refine AWP.parR mixed (by kernel_rfl) fun K hK => ?_
          | refine ⟨(by kernel_rfl : depB _ _ _ = true), ?_⟩
          | refine Or.inl ?_)
        | (clear hK K))
      all_goals (refine fin0 ?_; simp only [hok, cond_false, zeroVt]; try rfl)
    ·
      repeat' (first
        | (simp only [go_sem, zA, zB, zC, zD, zE, zF, zG, reduceCtorEq, zH, zI, zJ, zK, zL, List.length_map, hb, hz]; all_goals fail_if_success guard_target =ₛ False)
        | (with_reducible first
          | refine seqVC_stepN rfl fun K hK => ?_
          | refine seqVC_stepG rfl (by with_unfolding_all rfl) fun K hK => ?_
          | refine seqVC_nil ?_
          | (refine hK _ _ _ ?_; clear hK K)
          | (refine hK _ _ ?_; clear hK K)
          | (refine hK _ ?_; clear hK K)
          | refine AWP.seq fun K hK => ?_
          | refine AWP.seqR (by kernel_rfl) fun K hK => ?_
          | refine parVC_stepN rfl fun K hK => ?_
          | refine parVC_stepG rfl (by with_unfolding_all rfl) fun K hK => ?_
          | refine parEVC_stepN rfl fun K hK => ?_
          | refine parEVC_stepG rfl (by with_unfolding_all rfl) fun K hK => ?_
          | refine genVC_stepN rfl fun K hK => ?_
          | refine genVC_stepG rfl (by with_unfolding_all rfl) fun K hK => ?_
          | refine parVC_nil ?_
          | refine parEVC_nil ?_
          | refine genVC_nil ?_
          | (refine AWP.cond (by with_unfolding_all rfl) (fun h => ?_) (fun h => ?_); all_goals (try simp only [Bool.not_eq_true', Bool.not_eq_false'] at h); (all_goals try first | (exact absurd h Bool.false_ne_true) | (exact absurd h.symm Bool.false_ne_true) | (exact absurd h (by decide))))
          | refine AWP.skip ?_
          | refine AWP.ret ?_
          | refine AWP.block ?_
          | refine AWP.exit ?_
          | (refine ⟨fun h => ?_, fun h => ?_⟩ <;> (try simp only [Bool.not_eq_true', Bool.not_eq_false'] at h) <;> try simp only [h])
          | refine ⟨_, validKey_c x, ?_⟩
          | refine ⟨by omega, encKey x, hx', ?_⟩
          | (refine AWP.segP (id := 17) 4 mixed (by kernel_rfl) fun K hK => ?_; simp only [List.take_succ_cons, List.take_zero, List.drop_succ_cons, List.drop_zero])
          | (refine AWP.segP (id := 18) 6 mixed (by kernel_rfl) fun K hK => ?_; simp only [List.take_succ_cons, List.take_zero, List.drop_succ_cons, List.drop_zero])
          | (refine AWP.segP (id := 19) 6 mixed (by kernel_rfl) fun K hK => ?_; simp only [List.take_succ_cons, List.take_zero, List.drop_succ_cons, List.drop_zero])
          | refine AWP.parR mixed (by kernel_rfl) fun K hK => ?_
          | refine ⟨(by kernel_rfl : depB _ _ _ = true), ?_⟩
          | refine Or.inl ?_)
        | (clear hK K))
      all_goals (rw [wrap_succ hlt hlen0])
      all_goals (refine ⟨(), ?_, Gh.to [] (by repeat (first | exact trivial | refine ⟨rfl, ?_⟩ | refine ⟨by (simp only [go_sem, zA, zB, zC, zD, zE, zF, zG, reduceCtorEq, zH, zI, zJ, zK, zL, List.length_append, List.length_map, List.length_cons, List.length_nil, Nat.zero_add]) <;> rfl, ?_⟩)) (by repeat (first | exact trivial | refine ⟨rfl, ?_⟩ | refine ⟨by (simp only [go_sem, zA, zB, zC, zD, zE, zF, zG, reduceCtorEq, zH, zI, zJ, zK, zL, List.length_append, List.length_map, List.length_cons, List.length_nil, Nat.zero_add]) <;> rfl, ?_⟩)) rfl rfl rfl⟩)
      all_goals exact hok
  intro s0 hb0 hok0
  simp only [go_sem, zA, zB, zC, zD, zE, zF, zG, reduceCtorEq, zH, zI, zJ, zK, zL]
  rw [all_end] at hok0
  simp only [hok0, cond_true]
  repeat' (first
    | (simp only [go_sem, zA, zB, zC, zD, zE, zF, zG, reduceCtorEq, zH, zI, zJ, zK, zL, List.length_map, hb0]; all_goals fail_if_success guard_target =ₛ False)
    | (with_reducible first
      | refine seqVC_stepN rfl fun K hK => ?_
      | refine seqVC_stepG rfl (by with_unfolding_all rfl) fun K hK => ?_
      | refine seqVC_nil ?_
      | (refine hK _ _ _ ?_; clear hK K)
      | (refine hK _ _ ?_; clear hK K)
      | (refine hK _ ?_; clear hK K)
      | refine AWP.seq fun K hK => ?_
      | refine AWP.seqR (by kernel_rfl) fun K hK => ?_
      | refine parVC_stepN rfl fun K hK => ?_
      | refine parVC_stepG rfl (by with_unfolding_all rfl) fun K hK => ?_
      | refine parEVC_stepN rfl fun K hK => ?_
      | refine parEVC_stepG rfl (by with_unfolding_all rfl) fun K hK => ?_
      | refine genVC_stepN rfl fun K hK => ?_
      | refine genVC_stepG rfl (by with_unfolding_all rfl) fun K hK => ?_
      | refine parVC_nil ?_
      | refine parEVC_nil ?_
      | refine genVC_nil ?_
      | (refine AWP.cond (by with_unfolding_all rfl) (fun h => ?_) (fun h => ?_); all_goals (try simp only [Bool.not_eq_true', Bool.not_eq_false'] at h); (all_goals try first | (exact absurd h Bool.false_ne_true) | (exact absurd h.symm Bool.false_ne_true) | (exact absurd h (by decide))))
      | refine AWP.skip ?_
      | refine AWP.ret ?_
      | refine AWP.block ?_
      | refine AWP.exit ?_
      | (refine ⟨fun h => ?_, fun h => ?_⟩ <;> (try simp only [Bool.not_eq_true', Bool.not_eq_false'] at h) <;> try simp only [h])
      | (refine AWP.segP (id := 17) 4 mixed (by kernel_rfl) fun K hK => ?_; simp only [List.take_succ_cons, List.take_zero, List.drop_succ_cons, List.drop_zero])
      | (refine AWP.segP (id := 18) 6 mixed (by kernel_rfl) fun K hK => ?_; simp only [List.take_succ_cons, List.take_zero, List.drop_succ_cons, List.drop_zero])
      | (refine AWP.segP (id := 19) 6 mixed (by kernel_rfl) fun K hK => ?_; simp only [List.take_succ_cons, List.take_zero, List.drop_succ_cons, List.drop_zero])
      | refine AWP.parR mixed (by kernel_rfl) fun K hK => ?_
      | refine ⟨(by kernel_rfl : depB _ _ _ = true), ?_⟩
      | refine Or.inl ?_)
    | (clear hK K))
  refine AWP.gh (Gh.soft 7 rfl) ?_
  refine AWP.len 0 rfl fun hlen1 => ?_
  (try rw [List.length_map] at hlen1)
  refine AWP.range (S := List KeyD × List Val) (ks) encKey (fun k s => (8, I .i64 (k : Nat)) :: []) (fun k s => [(7, mapBox s.1 s.2)]) [0, 1, 4, 7] [4] (fun k s => mapGo (ks.zip l) [] [] = mapGo ((ks.zip l).drop k) s.1 s.2 ∧ s.1.length ≤ k ∧ s.1.length = s.2.length) (([], [])) (by simp only [go_sem, zA, zB, zC, zD, zE, zF, zG, reduceCtorEq, zH, zI, zJ, zK, zL]; exact Gh.to [] (by repeat (first | exact trivial | refine ⟨rfl, ?_⟩ | refine ⟨by (simp only [go_sem, zA, zB, zC, zD, zE, zF, zG, reduceCtorEq, zH, zI, zJ, zK, zL, List.length_append, List.length_map, List.length_cons, List.length_nil, Nat.zero_add]) <;> rfl, ?_⟩)) (by repeat (first | exact trivial | refine ⟨rfl, ?_⟩ | refine ⟨by (simp only [go_sem, zA, zB, zC, zD, zE, zF, zG, reduceCtorEq, zH, zI, zJ, zK, zL, List.length_append, List.length_map, List.length_cons, List.length_nil, Nat.zero_add]) <;> rfl, ?_⟩)) rfl rfl rfl) ?_ ?_ ?_
  · exact ⟨rfl, Nat.le_refl _, rfl⟩
  · rintro k ⟨aks, vs⟩ x hlt hx hx' hb ⟨hok, hsl, hsv⟩
    simp only at hok hsl hsv
    obtain ⟨v, hv, hv', _, _⟩ := at_lt (enc := encVal) (show k < l.length by omega)
    rw [zip_step hx hv, mapGo] at hok
    simp only [go_sem, zA, zB, zC, zD, zE, zF, zG, reduceCtorEq, zH, zI, zJ, zK, zL]
    repeat' (first
      | (simp only [go_sem, zA, zB, zC, zD, zE, zF, zG, reduceCtorEq, zH, zI, zJ, zK, zL, List.length_map, hb]; all_goals fail_if_success guard_target =ₛ False)
      | (with_reducible first
        | refine seqVC_stepN rfl fun K hK => ?_
        | refine seqVC_stepG rfl (by with_unfolding_all rfl) fun K hK => ?_
        | refine seqVC_nil ?_
        | (refine hK _ _ _ ?_; clear hK K)
        | (refine hK _ _ ?_; clear hK K)
        | (refine hK _ ?_; clear hK K)
        | refine AWP.seq fun K hK => ?_
        | refine AWP.seqR (by kernel_rfl) fun K hK => ?_
        | refine parVC_stepN rfl fun K hK => ?_
        | refine parVC_stepG rfl (by with_unfolding_all rfl) fun K hK => ?_
        | refine parEVC_stepN rfl fun K hK => ?_
        | refine parEVC_stepG rfl (by with_unfolding_all rfl) fun K hK => ?_
        | refine genVC_stepN rfl fun K hK => ?_
        | refine genVC_stepG rfl (by with_unfolding_all rfl) fun K hK => ?_
        | refine parVC_nil ?_
        | refine parEVC_nil ?_
        | refine genVC_nil ?_
        | (refine AWP.cond (by with_unfolding_all rfl) (fun h => ?_) (fun h => ?_); all_goals (try simp only [Bool.not_eq_true', Bool.not_eq_false'] at h); (all_goals try first | (exact absurd h Bool.false_ne_true) | (exact absurd h.symm Bool.false_ne_true) | (exact absurd h (by decide))))
        | refine AWP.skip ?_
        | refine AWP.ret ?_
        | refine AWP.block ?_
        | refine AWP.exit ?_
        | (refine ⟨fun h => ?_, fun h => ?_⟩ <;> (try simp only [Bool.not_eq_true', Bool.not_eq_false'] at h) <;> try simp only [h])
        | (refine AWP.segP (id := 17) 4 mixed (by kernel_rfl) fun K hK => ?_; simp only [List.take_succ_cons, List.take_zero, List.drop_succ_cons, List.drop_zero])
        | (refine AWP.segP (id := 18) 6 mixed (by kernel_rfl) fun K hK => ?_; simp only [List.take_succ_cons, List.take_zero, List.drop_succ_cons, List.drop_zero])
        | (refine AWP.segP (id := 19) 6 mixed (by kernel_rfl) fun K hK => ?_; simp only [List.take_succ_cons, List.take_zero, List.drop_succ_cons, List.drop_zero])
        | refine AWP.parR mixed (by kernel_rfl) fun K hK => ?_
        | refine ⟨(by kernel_rfl : depB _ _ _ = true), ?_⟩
        | refine Or.inl ?_)
      | (clear hK K))
    refine AWP.loopF (X := Nat) (fun j => [(9, I .i64 j)]) (fun j => []) [0, 1, 4, 7, 8] [4, 7] (fun j => j ≤ aks.length ∧ kPos aks x = j + tw (fun y => decide (keyC y x < 0)) (aks.drop j)) (fun j => aks.length - j) (0) (by simp only [go_sem, zA, zB, zC, zD, zE, zF, zG, reduceCtorEq, zH, zI, zJ, zK, zL]; exact Gh.to [] (by repeat (first | exact trivial | refine ⟨rfl, ?_⟩ | refine ⟨by (simp only [go_sem, zA, zB, zC, zD, zE, zF, zG, reduceCtorEq, zH, zI, zJ, zK, zL, List.length_append, List.length_map, List.length_cons, List.length_nil, Nat.zero_add]) <;> rfl, ?_⟩)) (by repeat (first | exact trivial | refine ⟨rfl, ?_⟩ | refine ⟨by (simp only [go_sem, zA, zB, zC, zD, zE, zF, zG, reduceCtorEq, zH, zI, zJ, zK, zL, List.length_append, List.length_map, List.length_cons, List.length_nil, Nat.zero_add]) <;> rfl, ?_⟩)) rfl rfl rfl) ?_ ?_
    · exact ⟨Nat.zero_le _, by simp [kPos]⟩
    rintro j ⟨hj, hp⟩
    simp only [go_sem, zA, zB, zC, zD, zE, zF, zG, reduceCtorEq, zH, zI, zJ, zK, zL]
    by_cases hjl : j < aks.length
    · obtain ⟨y, hy, hy', hbj, _⟩ := at_lt (enc := encKey) hjl
      have hvl : j < vs.length := by omega
      rw [tw_step hy] at hp
      have hcc := refKeys_c y x
      cases hz : decide (keyC y x < 0) <;> simp only [hz, cond_true, cond_false, Nat.add_zero] at hp
      · have hdx : decide (aks[kPos aks x]? = some x) = decide (y = x) := by rw [hp, hy]; simp
        rw [hdx, hp] at hok
        cases hyx : decide (y = x) <;> simp only [hyx, cond_true, cond_false] at hok
        ·
          repeat' (first
            | (simp only [go_sem, zA, zB, zC, zD, zE, zF, zG, reduceCtorEq, zH, zI, zJ, zK, zL, List.length_map, hbj, hb, hz, hyx, eqKeyT, keyEq, Int.toNat_natCast, List.drop_zero, List.take_length, take_map', drop_map', key_put, val_put]; all_goals fail_if_success guard_target =ₛ False)
            | (with_reducible first
              | refine seqVC_stepN rfl fun K hK => ?_
              | refine seqVC_stepG rfl (by with_unfolding_all rfl) fun K hK => ?_
              | refine seqVC_nil ?_
              | (refine hK _ _ _ ?_; clear hK K)
              | (refine hK _ _ ?_; clear hK K)
              | (refine hK _ ?_; clear hK K)
              | refine AWP.seq fun K hK => ?_
              | refine AWP.seqR (by kernel_rfl) fun K hK => ?_
              | refine parVC_stepN rfl fun K hK => ?_
              | refine parVC_stepG rfl (by with_unfolding_all rfl) fun K hK => ?_
              | refine parEVC_stepN rfl fun K hK => ?_
              | refine parEVC_stepG rfl (by with_unfolding_all rfl) fun K hK => ?_
              | refine genVC_stepN rfl fun K hK => ?_
              | refine genVC_stepG rfl (by with_unfolding_all rfl) fun K hK => ?_
              | refine gen2VC_stepN rfl fun K hK => ?_
              | refine gen2VC_stepG rfl (by with_unfolding_all rfl) fun K hK => ?_
              | refine genMVC_stepN rfl fun K hK => ?_
              | refine genMVC_stepG rfl (by with_unfolding_all rfl) fun K hK => ?_
              | refine parVC_nil ?_
              | refine parEVC_nil ?_
              | refine genVC_nil ?_
              | refine gen2VC_nil ?_
              | refine genMVC_nil ?_
              | (refine AWP.cond (by with_unfolding_all rfl) (fun h => ?_) (fun h => ?_); all_goals (try simp only [Bool.not_eq_true', Bool.not_eq_false'] at h); (all_goals try first | (exact absurd h Bool.false_ne_true) | (exact absurd h.symm Bool.false_ne_true) | (exact absurd h (by decide))))
              | refine AWP.skip ?_
              | refine AWP.ret ?_
              | refine AWP.block ?_
              | refine AWP.exit ?_
              | (refine ⟨fun h => ?_, fun h => ?_⟩ <;> (try simp only [Bool.not_eq_true', Bool.not_eq_false'] at h) <;> try simp only [h])
              | (refine ⟨_, _, _, copies_n (vs.take j) (by simp only [List.length_take]; omega), ?_⟩)
              | refine ⟨_, hcc, ?_⟩
              | refine ⟨by omega, encKey x, hx', ?_⟩
              | refine ⟨by omega, encKey y, hy', ?_⟩
              | refine ⟨by omega, encVal v, hv', ?_⟩
              | (refine ⟨(by first | omega | (simp only [List.length_append, List.length_map, List.length_take, List.length_drop, List.length_cons, List.length_nil, List.length_replicate]; omega) : _ ≤ _), ?_⟩)
              | refine ⟨by omega, by omega, ?_⟩
              | (refine AWP.genM (id := 17) [4,9] mixed (by kernel_rfl) fun K hK => ?_)
              | (refine AWP.genR2 (id := 18) [6,11,13] [80,7] [8] 13 [80] mixed (by kernel_rfl) fun K hK => ?_; simp only [Bx.outs, Bx.drop, cond_true, cond_false, Nat.reduceBEq, go_sem])
              | (refine AWP.genR2 (id := 19) [6,11,13] [85,7] [8] 13 [85] mixed (by kernel_rfl) fun K hK => ?_; simp only [Bx.outs, Bx.drop, cond_true, cond_false, Nat.reduceBEq, go_sem])
              | refine AWP.parR mixed (by kernel_rfl) fun K hK => ?_
              | refine ⟨(by kernel_rfl : depB _ _ _ = true), ?_⟩
              | refine Or.inl ?_)
            | (clear hK K))
          all_goals (rw [wrap_succ hlt hlen1])
          all_goals (refine ⟨(putAt j x aks, putAt j v vs), ?_, ?_⟩)
          all_goals (try first
            | (refine Gh.trans (Gh.freeze 97 rfl rfl (by simp only [go_sem, zA, zB, zC, zD, zE, zF, zG, reduceCtorEq, zH, zI, zJ, zK, zL, List.length_map, List.length_append]) (by simp only [go_sem, zA, zB, zC, zD, zE, zF, zG, reduceCtorEq, zH, zI, zJ, zK, zL, List.length_map, List.length_append])) ?_; simp only [go_sem, zA, zB, zC, zD, zE, zF, zG, reduceCtorEq, zH, zI, zJ, zK, zL, List.length_map, List.length_append]; refine Gh.trans (Gh.freeze 110 rfl rfl (by simp only [go_sem, zA, zB, zC, zD, zE, zF, zG, reduceCtorEq, zH, zI, zJ, zK, zL, List.length_map, List.length_append]) (by simp only [go_sem, zA, zB, zC, zD, zE, zF, zG, reduceCtorEq, zH, zI, zJ, zK, zL, List.length_map, List.length_append])) ?_; simp only [go_sem, zA, zB, zC, zD, zE, zF, zG, reduceCtorEq, zH, zI, zJ, zK, zL, List.length_map, List.length_append]; exact Gh.to [] (by repeat (first | exact trivial | refine ⟨rfl, ?_⟩ | refine ⟨by (simp only [go_sem, zA, zB, zC, zD, zE, zF, zG, reduceCtorEq, zH, zI, zJ, zK, zL, List.length_append, List.length_map, List.length_cons, List.length_nil, Nat.zero_add]) <;> rfl, ?_⟩)) (by repeat (first | exact trivial | refine ⟨rfl, ?_⟩ | refine ⟨by (simp only [go_sem, zA, zB, zC, zD, zE, zF, zG, reduceCtorEq, zH, zI, zJ, zK, zL, List.length_append, List.length_map, List.length_cons, List.length_nil, Nat.zero_add]) <;> rfl, ?_⟩)) rfl rfl rfl)
            | (exact Gh.to [] (by repeat (first | exact trivial | refine ⟨rfl, ?_⟩ | refine ⟨by (simp only [go_sem, zA, zB, zC, zD, zE, zF, zG, reduceCtorEq, zH, zI, zJ, zK, zL, List.length_append, List.length_map, List.length_cons, List.length_nil, Nat.zero_add]) <;> rfl, ?_⟩)) (by repeat (first | exact trivial | refine ⟨rfl, ?_⟩ | refine ⟨by (simp only [go_sem, zA, zB, zC, zD, zE, zF, zG, reduceCtorEq, zH, zI, zJ, zK, zL, List.length_append, List.length_map, List.length_cons, List.length_nil, Nat.zero_add]) <;> rfl, ?_⟩)) rfl rfl rfl))
          all_goals (refine ⟨hok, by simp only [putAt_len]; omega, by simp only [putAt_len]; omega⟩)
        ·
          repeat' (first
            | (simp only [go_sem, zA, zB, zC, zD, zE, zF, zG, reduceCtorEq, zH, zI, zJ, zK, zL, List.length_map, hbj, hb, hz, hyx, eqKeyT, keyEq]; all_goals fail_if_success guard_target =ₛ False)
            | (with_reducible first
              | refine seqVC_stepN rfl fun K hK => ?_
              | refine seqVC_stepG rfl (by with_unfolding_all rfl) fun K hK => ?_
              | refine seqVC_nil ?_
              | (refine hK _ _ _ ?_; clear hK K)
              | (refine hK _ _ ?_; clear hK K)
              | (refine hK _ ?_; clear hK K)
              | refine AWP.seq fun K hK => ?_
              | refine AWP.seqR (by kernel_rfl) fun K hK => ?_
              | refine parVC_stepN rfl fun K hK => ?_
              | refine parVC_stepG rfl (by with_unfolding_all rfl) fun K hK => ?_
              | refine parEVC_stepN rfl fun K hK => ?_
              | refine parEVC_stepG rfl (by with_unfolding_all rfl) fun K hK => ?_
              | refine genVC_stepN rfl fun K hK => ?_
              | refine genVC_stepG rfl (by with_unfolding_all rfl) fun K hK => ?_
              | refine parVC_nil ?_
              | refine parEVC_nil ?_
              | refine genVC_nil ?_
              | (refine AWP.cond (by with_unfolding_all rfl) (fun h => ?_) (fun h => ?_); all_goals (try simp only [Bool.not_eq_true', Bool.not_eq_false'] at h); (all_goals try first | (exact absurd h Bool.false_ne_true) | (exact absurd h.symm Bool.false_ne_true) | (exact absurd h (by decide))))
              | refine AWP.skip ?_
              | refine AWP.ret ?_
              | refine AWP.block ?_
              | refine AWP.exit ?_
              | (refine ⟨fun h => ?_, fun h => ?_⟩ <;> (try simp only [Bool.not_eq_true', Bool.not_eq_false'] at h) <;> try simp only [h])
              | refine ⟨_, hcc, ?_⟩
              | refine ⟨by omega, encKey x, hx', ?_⟩
              | refine ⟨by omega, encKey y, hy', ?_⟩
              | (refine AWP.segP (id := 17) 4 mixed (by kernel_rfl) fun K hK => ?_; simp only [List.take_succ_cons, List.take_zero, List.drop_succ_cons, List.drop_zero])
              | (refine AWP.segP (id := 18) 6 mixed (by kernel_rfl) fun K hK => ?_; simp only [List.take_succ_cons, List.take_zero, List.drop_succ_cons, List.drop_zero])
              | (refine AWP.segP (id := 19) 6 mixed (by kernel_rfl) fun K hK => ?_; simp only [List.take_succ_cons, List.take_zero, List.drop_succ_cons, List.drop_zero])
              | refine AWP.parR mixed (by kernel_rfl) fun K hK => ?_
              | refine ⟨(by kernel_rfl : depB _ _ _ = true), ?_⟩
              | refine Or.inl ?_)
            | (clear hK K))
          all_goals (refine fin0 ?_; simp only [hok0, hok, cond_true, zeroVt]; try rfl)
      ·
        repeat' (first
          | (simp only [go_sem, zA, zB, zC, zD, zE, zF, zG, reduceCtorEq, zH, zI, zJ, zK, zL, List.length_map, hbj, hz]; all_goals fail_if_success guard_target =ₛ False)
          | (with_reducible first
            | refine seqVC_stepN rfl fun K hK => ?_
            | refine seqVC_stepG rfl (by with_unfolding_all rfl) fun K hK => ?_
            | refine seqVC_nil ?_
            | (refine hK _ _ _ ?_; clear hK K)
            | (refine hK _ _ ?_; clear hK K)
            | (refine hK _ ?_; clear hK K)
            | refine AWP.seq fun K hK => ?_
            | refine AWP.seqR (by kernel_rfl) fun K hK => ?_
            | refine parVC_stepN rfl fun K hK => ?_
            | refine parVC_stepG rfl (by with_unfolding_all rfl) fun K hK => ?_
            | refine parEVC_stepN rfl fun K hK => ?_
            | refine parEVC_stepG rfl (by with_unfolding_all rfl) fun K hK => ?_
            | refine genVC_stepN rfl fun K hK => ?_
            | refine genVC_stepG rfl (by with_unfolding_all rfl) fun K hK => ?_
            | refine parVC_nil ?_
            | refine parEVC_nil ?_
            | refine genVC_nil ?_
            | (refine AWP.cond (by with_unfolding_all rfl) (fun h => ?_) (fun h => ?_); all_goals (try simp only [Bool.not_eq_true', Bool.not_eq_false'] at h); (all_goals try first | (exact absurd h Bool.false_ne_true) | (exact absurd h.symm Bool.false_ne_true) | (exact absurd h (by decide))))
            | refine AWP.skip ?_
            | refine AWP.ret ?_
            | refine AWP.block ?_
            | refine AWP.exit ?_
            | (refine ⟨fun h => ?_, fun h => ?_⟩ <;> (try simp only [Bool.not_eq_true', Bool.not_eq_false'] at h) <;> try simp only [h])
            | refine ⟨_, hcc, ?_⟩
            | refine ⟨by omega, encKey x, hx', ?_⟩
            | refine ⟨by omega, encKey y, hy', ?_⟩
            | (refine AWP.segP (id := 17) 4 mixed (by kernel_rfl) fun K hK => ?_; simp only [List.take_succ_cons, List.take_zero, List.drop_succ_cons, List.drop_zero])
            | (refine AWP.segP (id := 18) 6 mixed (by kernel_rfl) fun K hK => ?_; simp only [List.take_succ_cons, List.take_zero, List.drop_succ_cons, List.drop_zero])
            | (refine AWP.segP (id := 19) 6 mixed (by kernel_rfl) fun K hK => ?_; simp only [List.take_succ_cons, List.take_zero, List.drop_succ_cons, List.drop_zero])
            | refine AWP.parR mixed (by kernel_rfl) fun K hK => ?_
            | refine ⟨(by kernel_rfl : depB _ _ _ = true), ?_⟩
            | refine Or.inl ?_)
          | (clear hK K))
        all_goals (rw [wrap_succ hjl (by omega)])
        all_goals (refine ⟨j + 1, by omega, ⟨by omega, by omega⟩, Gh.to [] (by repeat (first | exact trivial | refine ⟨rfl, ?_⟩ | refine ⟨by (simp only [go_sem, zA, zB, zC, zD, zE, zF, zG, reduceCtorEq, zH, zI, zJ, zK, zL, List.length_append, List.length_map, List.length_cons, List.length_nil, Nat.zero_add]) <;> rfl, ?_⟩)) (by repeat (first | exact trivial | refine ⟨rfl, ?_⟩ | refine ⟨by (simp only [go_sem, zA, zB, zC, zD, zE, zF, zG, reduceCtorEq, zH, zI, zJ, zK, zL, List.length_append, List.length_map, List.length_cons, List.length_nil, Nat.zero_add]) <;> rfl, ?_⟩)) rfl rfl rfl⟩)
    · have hjs : j = aks.length := by omega
      subst hjs
      have hbj : decide ((aks.length : Int) < (aks.length : Int)) = false := by simp
      rw [tw_end, Nat.add_zero] at hp
      have hdx : decide (aks[kPos aks x]? = some x) = false := by rw [hp]; simp
      rw [hdx, hp] at hok
      simp only [cond_false] at hok
      repeat' (first
        | (simp only [go_sem, zA, zB, zC, zD, zE, zF, zG, reduceCtorEq, zH, zI, zJ, zK, zL, List.length_map, hbj, hb, Int.toNat_natCast, List.drop_zero, List.take_length, take_map', drop_map', key_end, val_put]; all_goals fail_if_success guard_target =ₛ False)
        | (with_reducible first
          | refine seqVC_stepN rfl fun K hK => ?_
          | refine seqVC_stepG rfl (by with_unfolding_all rfl) fun K hK => ?_
          | refine seqVC_nil ?_
          | (refine hK _ _ _ ?_; clear hK K)
          | (refine hK _ _ ?_; clear hK K)
          | (refine hK _ ?_; clear hK K)
          | refine AWP.seq fun K hK => ?_
          | refine AWP.seqR (by kernel_rfl) fun K hK => ?_
          | refine parVC_stepN rfl fun K hK => ?_
          | refine parVC_stepG rfl (by with_unfolding_all rfl) fun K hK => ?_
          | refine parEVC_stepN rfl fun K hK => ?_
          | refine parEVC_stepG rfl (by with_unfolding_all rfl) fun K hK => ?_
          | refine genVC_stepN rfl fun K hK => ?_
          | refine genVC_stepG rfl (by with_unfolding_all rfl) fun K hK => ?_
          | refine gen2VC_stepN rfl fun K hK => ?_
          | refine gen2VC_stepG rfl (by with_unfolding_all rfl) fun K hK => ?_
          | refine genMVC_stepN rfl fun K hK => ?_
          | refine genMVC_stepG rfl (by with_unfolding_all rfl) fun K hK => ?_
          | refine parVC_nil ?_
          | refine parEVC_nil ?_
          | refine genVC_nil ?_
          | refine gen2VC_nil ?_
          | refine genMVC_nil ?_
          | (refine AWP.cond (by with_unfolding_all rfl) (fun h => ?_) (fun h => ?_); all_goals (try simp only [Bool.not_eq_true', Bool.not_eq_false'] at h); (all_goals try first | (exact absurd h Bool.false_ne_true) | (exact absurd h.symm Bool.false_ne_true) | (exact absurd h (by decide))))
          | refine AWP.skip ?_
          | refine AWP.ret ?_
          | refine AWP.block ?_
          | refine AWP.exit ?_
          | (refine ⟨fun h => ?_, fun h => ?_⟩ <;> (try simp only [Bool.not_eq_true', Bool.not_eq_false'] at h) <;> try simp only [h])
          | (refine ⟨_, _, _, copies_n (vs.take aks.length) (by simp only [List.length_take]; omega), ?_⟩)
          | refine ⟨by omega, encKey x, hx', ?_⟩
          | refine ⟨by omega, encVal v, hv', ?_⟩
          | (refine ⟨(by first | omega | (simp only [List.length_append, List.length_map, List.length_take, List.length_drop, List.length_cons, List.length_nil, List.length_replicate]; omega) : _ ≤ _), ?_⟩)
          | refine ⟨by omega, by omega, ?_⟩
          | (refine AWP.genM (id := 17) [4,9] mixed (by kernel_rfl) fun K hK => ?_)
          | (refine AWP.genR2 (id := 18) [6,11,13] [80,7] [8] 13 [80] mixed (by kernel_rfl) fun K hK => ?_; simp only [Bx.outs, Bx.drop, cond_true, cond_false, Nat.reduceBEq, go_sem])
          | (refine AWP.genR2 (id := 19) [6,11,13] [85,7] [8] 13 [85] mixed (by kernel_rfl) fun K hK => ?_; simp only [Bx.outs, Bx.drop, cond_true, cond_false, Nat.reduceBEq, go_sem])
          | refine AWP.parR mixed (by kernel_rfl) fun K hK => ?_
          | refine ⟨(by kernel_rfl : depB _ _ _ = true), ?_⟩
          | refine Or.inl ?_)
        | (clear hK K))
      all_goals (rw [wrap_succ hlt hlen1])
      all_goals (refine ⟨(putAt aks.length x aks, putAt aks.length v vs), ?_, ?_⟩)
      all_goals (try first
        | (refine Gh.trans (Gh.freeze 97 rfl rfl (by simp only [go_sem, zA, zB, zC, zD, zE, zF, zG, reduceCtorEq, zH, zI, zJ, zK, zL, List.length_map, List.length_append]) (by simp only [go_sem, zA, zB, zC, zD, zE, zF, zG, reduceCtorEq, zH, zI, zJ, zK, zL, List.length_map, List.length_append])) ?_; simp only [go_sem, zA, zB, zC, zD, zE, zF, zG, reduceCtorEq, zH, zI, zJ, zK, zL, List.length_map, List.length_append]; refine Gh.trans (Gh.freeze 110 rfl rfl (by simp only [go_sem, zA, zB, zC, zD, zE, zF, zG, reduceCtorEq, zH, zI, zJ, zK, zL, List.length_map, List.length_append]) (by simp only [go_sem, zA, zB, zC, zD, zE, zF, zG, reduceCtorEq, zH, zI, zJ, zK, zL, List.length_map, List.length_append])) ?_; simp only [go_sem, zA, zB, zC, zD, zE, zF, zG, reduceCtorEq, zH, zI, zJ, zK, zL, List.length_map, List.length_append]; exact Gh.to [] (by repeat (first | exact trivial | refine ⟨rfl, ?_⟩ | refine ⟨by (simp only [go_sem, zA, zB, zC, zD, zE, zF, zG, reduceCtorEq, zH, zI, zJ, zK, zL, List.length_append, List.length_map, List.length_cons, List.length_nil, Nat.zero_add]) <;> rfl, ?_⟩)) (by repeat (first | exact trivial | refine ⟨rfl, ?_⟩ | refine ⟨by (simp only [go_sem, zA, zB, zC, zD, zE, zF, zG, reduceCtorEq, zH, zI, zJ, zK, zL, List.length_append, List.length_map, List.length_cons, List.length_nil, Nat.zero_add]) <;> rfl, ?_⟩)) rfl rfl rfl)
        | (exact Gh.to [] (by repeat (first | exact trivial | refine ⟨rfl, ?_⟩ | refine ⟨by (simp only [go_sem, zA, zB, zC, zD, zE, zF, zG, reduceCtorEq, zH, zI, zJ, zK, zL, List.length_append, List.length_map, List.length_cons, List.length_nil, Nat.zero_add]) <;> rfl, ?_⟩)) (by repeat (first | exact trivial | refine ⟨rfl, ?_⟩ | refine ⟨by (simp only [go_sem, zA, zB, zC, zD, zE, zF, zG, reduceCtorEq, zH, zI, zJ, zK, zL, List.length_append, List.length_map, List.length_cons, List.length_nil, Nat.zero_add]) <;> rfl, ?_⟩)) rfl rfl rfl))
      all_goals (refine ⟨hok, by simp only [putAt_len]; omega, by simp only [putAt_len]; omega⟩)
  · rintro ⟨aks, vs⟩ hb ⟨hok, _, _⟩
    simp only at hok
    rw [zip_end, mapGo] at hok
    simp only [go_sem, zA, zB, zC, zD, zE, zF, zG, reduceCtorEq, zH, zI, zJ, zK, zL]
    repeat' (first
      | (simp only [go_sem, zA, zB, zC, zD, zE, zF, zG, reduceCtorEq, zH, zI, zJ, zK, zL, List.length_map, hb]; all_goals fail_if_success guard_target =ₛ False)
      | (with_reducible first
        | refine seqVC_stepN rfl fun K hK => ?_
        | refine seqVC_stepG rfl (by with_unfolding_all rfl) fun K hK => ?_
        | refine seqVC_nil ?_
        | (refine hK _ _ _ ?_; clear hK K)
        | (refine hK _ _ ?_; clear hK K)
        | (refine hK _ ?_; clear hK K)
        | refine AWP.seq fun K hK => ?_
        | refine AWP.seqR (by kernel_rfl) fun K hK => ?_
        | refine parVC_stepN rfl fun K hK => ?_
        | refine parVC_stepG rfl (by with_unfolding_all rfl) fun K hK => ?_
        | refine parEVC_stepN rfl fun K hK => ?_
        | refine parEVC_stepG rfl (by with_unfolding_all rfl) fun K hK => ?_
        | refine genVC_stepN rfl fun K hK => ?_
        | refine genVC_stepG rfl (by with_unfolding_all rfl) fun K hK => ?_
        | refine parVC_nil ?_
        | refine parEVC_nil ?_
        | refine genVC_nil ?_
        | (refine AWP.cond (by with_unfolding_all rfl) (fun h => ?_) (fun h => ?_); all_goals (try simp only [Bool.not_eq_true', Bool.not_eq_false'] at h); (all_goals try first | (exact absurd h Bool.false_ne_true) | (exact absurd h.symm Bool.false_ne_true) | (exact absurd h (by decide))))
        | refine AWP.skip ?_
        | refine AWP.ret ?_
        | refine AWP.block ?_
        | refine AWP.exit ?_
        | (refine ⟨fun h => ?_, fun h => ?_⟩ <;> (try simp only [Bool.not_eq_true', Bool.not_eq_false'] at h) <;> try simp only [h])
        | (refine AWP.segP (id := 17) 4 mixed (by kernel_rfl) fun K hK => ?_; simp only [List.take_succ_cons, List.take_zero, List.drop_succ_cons, List.drop_zero])
        | (refine AWP.segP (id := 18) 6 mixed (by kernel_rfl) fun K hK => ?_; simp only [List.take_succ_cons, List.take_zero, List.drop_succ_cons, List.drop_zero])
        | (refine AWP.segP (id := 19) 6 mixed (by kernel_rfl) fun K hK => ?_; simp only [List.take_succ_cons, List.take_zero, List.drop_succ_cons, List.drop_zero])
        | refine AWP.parR mixed (by kernel_rfl) fun K hK => ?_
        | refine ⟨(by kernel_rfl : depB _ _ _ = true), ?_⟩
        | refine Or.inl ?_)
      | (clear hK K))
    all_goals (refine fin0 ?_; simp only [hok0, hok, cond_true, Vt, encVal_eq (mapVal aks vs)]; try rfl)
end Go.Proofs.Ytmpfdejckbceiaa
set_option linter.unusedSimpArgs false
set_option linter.unusedVariables false
set_option maxRecDepth 20000
set_option maxHeartbeats 4000000
namespace Go.Proofs.Ytmpfdejckbceiaa
open Go Go.Sx
open Nat renaming reduceBEq → zA, reduceBNe → zB, reduceAdd → zC, reduceSub → zD, reduceMul → zE, reduceLeDiff → zF, reduceLT → zG, reduceEqDiff → zH
open Int renaming reduceToNat → zI, reduceLE → zJ, reduceLT → zK, reduceEq → zL
/-- functions -/
def funVal (n : Int) (l : List Ent) : Val := ⟨9, n, [], [], [], l, []⟩
def fnV (n : Int) (l : List Ent) : Val × Int :=
  bif decide (n < 0) || decide (4 < n) then (zeroVal, 1) else (bif l.all (fun e => entB e n) then (funVal n (entriesV l), 0) else (zeroVal, 1))
theorem refFunction_c (n : Int) (l : List Ent) (hll : l.length ≤ 1000000) : PC Try.prog 74 [I .i64 n, .one (.dat (.sl 9 (l.map encEnt)))] (.tup [Vt (fnV n l).1, I .i64 (fnV n l).2]) := by
  have hen := entries_c l hll
  refine PCB.of_body Try.func74 rfl (by decide) Try.ntmps74 Try.results74 rfl rfl rfl ?_ rfl rfl
  unfold fnV
  cases hn : decide (n < 0)
  · cases hm : decide (4 < n)
    · simp only [Bool.or_false, cond_false]
      repeat' (first
        | (simp only [go_sem, zA, zB, zC, zD, zE, zF, zG, reduceCtorEq, zH, zI, zJ, zK, zL, hn, hm, List.length_map]; all_goals fail_if_success guard_target =ₛ False)
        | (with_reducible first
          | refine seqVC_stepN rfl fun K hK => ?_
          | refine seqVC_stepG rfl (by with_unfolding_all rfl) fun K hK => ?_
          | refine seqVC_nil ?_
          | (refine hK _ _ _ ?_; clear hK K)
          | (refine hK _ _ ?_; clear hK K)
          | (refine hK _ ?_; clear hK K)
          | refine AWP.seq fun K hK => ?_
          | refine AWP.seqR (by kernel_rfl) fun K hK => ?_
          | (refine AWP.cond (by with_unfolding_all rfl) (fun h => ?_) (fun h => ?_); all_goals (try simp only [Bool.not_eq_true', Bool.not_eq_false'] at h); (all_goals try first | (exact absurd h Bool.false_ne_true) | (exact absurd h.symm Bool.false_ne_true) | (exact absurd h (by decide))))
          | refine AWP.skip ?_
          | refine AWP.ret ?_
          | refine AWP.block ?_
          | refine AWP.exit ?_
          | (refine ⟨fun h => ?_, fun h => ?_⟩ <;> (try simp only [Bool.not_eq_true', Bool.not_eq_false'] at h) <;> try simp only [h])
          | refine Or.inl ?_)
        | (clear hK K))
      refine AWP.len 1 rfl fun hlen0 => ?_
      (try rw [List.length_map] at hlen0)
      refine AWP.range (S := Unit) (l) encEnt (fun k s => (6, I .i64 (k : Nat)) :: []) (fun k s => []) [0, 1, 4] [4] (fun k s => (l.all fun e => entB e n) = ((l.drop k).all fun e => entB e n)) (()) (by simp only [go_sem, zA, zB, zC, zD, zE, zF, zG, reduceCtorEq, zH, zI, zJ, zK, zL]; exact Gh.to [] (by repeat (first | exact trivial | refine ⟨rfl, ?_⟩ | refine ⟨by (simp only [go_sem, zA, zB, zC, zD, zE, zF, zG, reduceCtorEq, zH, zI, zJ, zK, zL, List.length_append, List.length_map, List.length_cons, List.length_nil, Nat.zero_add]) <;> rfl, ?_⟩)) (by repeat (first | exact trivial | refine ⟨rfl, ?_⟩ | refine ⟨by (simp only [go_sem, zA, zB, zC, zD, zE, zF, zG, reduceCtorEq, zH, zI, zJ, zK, zL, List.length_append, List.length_map, List.length_cons, List.length_nil, Nat.zero_add]) <;> rfl, ?_⟩)) rfl rfl rfl) ?_ ?_ ?_
      · rfl
      · intro k s x hlt hx hx' hb hok
        simp only [go_sem, zA, zB, zC, zD, zE, zF, zG, reduceCtorEq, zH, zI, zJ, zK, zL]
        rw [all_step hx] at hok
        rw [show entB x n = (decide ((x.1.length : Int) = n) && (!x.2.1 || isZeroB x.2.2)) from rfl] at hok
        have heq := refEqual_c x.2.2 zeroVal
        rw [zeroVal_lit, encVal_eq] at heq
        cases hl : decide ((x.1.length : Int) = n) <;> cases hf : x.2.1 <;> cases hz : decide (valC x.2.2 zeroVal = 0)
        all_goals (simp only [isZeroB, hl, hf, hz, Bool.and_true, Bool.and_false, Bool.true_and, Bool.false_and, Bool.or_true, Bool.or_false, Bool.true_or, Bool.false_or, Bool.not_true, Bool.not_false] at hok)
        all_goals
          repeat' (first
            | (simp only [go_sem, zA, zB, zC, zD, zE, zF, zG, reduceCtorEq, zH, zI, zJ, zK, zL, encEnt_eq x, List.length_map, hb, hz, hl, hf]; all_goals fail_if_success guard_target =ₛ False)
            | (with_reducible first
              | refine seqVC_stepN rfl fun K hK => ?_
              | refine seqVC_stepG rfl (by with_unfolding_all rfl) fun K hK => ?_
              | refine seqVC_nil ?_
              | (refine hK _ _ _ ?_; clear hK K)
              | (refine hK _ _ ?_; clear hK K)
              | (refine hK _ ?_; clear hK K)
              | refine AWP.seq fun K hK => ?_
              | refine AWP.seqR (by kernel_rfl) fun K hK => ?_
              | (refine AWP.cond (by with_unfolding_all rfl) (fun h => ?_) (fun h => ?_); all_goals (try simp only [Bool.not_eq_true', Bool.not_eq_false'] at h); (all_goals try first | (exact absurd h Bool.false_ne_true) | (exact absurd h.symm Bool.false_ne_true) | (exact absurd h (by decide))))
              | refine AWP.skip ?_
              | refine AWP.ret ?_
              | refine AWP.block ?_
              | refine AWP.exit ?_
              | (refine ⟨fun h => ?_, fun h => ?_⟩ <;> (try simp only [Bool.not_eq_true', Bool.not_eq_false'] at h) <;> try simp only [h])
              | refine ⟨_, heq, ?_⟩
              | refine ⟨by omega, encEnt x, hx', ?_⟩
              | refine Or.inl ?_)
            | (clear hK K))
        any_goals (first | exact fun _ h => (by cases h) | (refine fin0 ?_; simp only [hok, cond_false, zeroVt]; try rfl))
        all_goals (rw [wrap_succ hlt hlen0])
        all_goals (refine ⟨(), ?_, Gh.to [] (by repeat (first | exact trivial | refine ⟨rfl, ?_⟩ | refine ⟨by (simp only [go_sem, zA, zB, zC, zD, zE, zF, zG, reduceCtorEq, zH, zI, zJ, zK, zL, List.length_append, List.length_map, List.length_cons, List.length_nil, Nat.zero_add]) <;> rfl, ?_⟩)) (by repeat (first | exact trivial | refine ⟨rfl, ?_⟩ | refine ⟨by (simp only [go_sem, zA, zB, zC, zD, zE, zF, zG, reduceCtorEq, zH, zI, zJ, zK, zL, List.length_append, List.length_map, List.length_cons, List.length_nil, Nat.zero_add]) <;> rfl, ?_⟩)) rfl rfl rfl⟩)
        all_goals exact hok
      · intro s hb hok
        simp only [go_sem, zA, zB, zC, zD, zE, zF, zG, reduceCtorEq, zH, zI, zJ, zK, zL]
        rw [all_end] at hok
        repeat' (first
          | (simp only [go_sem, zA, zB, zC, zD, zE, zF, zG, reduceCtorEq, zH, zI, zJ, zK, zL, List.length_map, hb]; all_goals fail_if_success guard_target =ₛ False)
          | (with_reducible first
            | refine seqVC_stepN rfl fun K hK => ?_
            | refine seqVC_stepG rfl (by with_unfolding_all rfl) fun K hK => ?_
            | refine seqVC_nil ?_
            | (refine hK _ _ _ ?_; clear hK K)
            | (refine hK _ _ ?_; clear hK K)
            | (refine hK _ ?_; clear hK K)
            | refine AWP.seq fun K hK => ?_
            | refine AWP.seqR (by kernel_rfl) fun K hK => ?_
            | (refine AWP.cond (by with_unfolding_all rfl) (fun h => ?_) (fun h => ?_); all_goals (try simp only [Bool.not_eq_true', Bool.not_eq_false'] at h); (all_goals try first | (exact absurd h Bool.false_ne_true) | (exact absurd h.symm Bool.false_ne_true) | (exact absurd h (by decide))))
            | refine AWP.skip ?_
            | refine AWP.ret ?_
            | refine AWP.block ?_
            | refine AWP.exit ?_
            | (refine ⟨fun h => ?_, fun h => ?_⟩ <;> (try simp only [Bool.not_eq_true', Bool.not_eq_false'] at h) <;> try simp only [h])
            | refine ⟨_, hen, ?_⟩
            | refine Or.inl ?_)
          | (clear hK K))
        all_goals (refine fin0 ?_; simp only [hok, cond_true, Vt, encVal_eq (funVal n (entriesV l))]; try rfl)
    ·
      repeat' (first
        | (simp only [go_sem, zA, zB, zC, zD, zE, zF, zG, reduceCtorEq, zH, zI, zJ, zK, zL, hn, hm]; all_goals fail_if_success guard_target =ₛ False)
        | (with_reducible first
          | refine seqVC_stepN rfl fun K hK => ?_
          | refine seqVC_stepG rfl (by with_unfolding_all rfl) fun K hK => ?_
          | refine seqVC_nil ?_
          | (refine hK _ _ _ ?_; clear hK K)
          | (refine hK _ _ ?_; clear hK K)
          | (refine hK _ ?_; clear hK K)
          | refine AWP.seq fun K hK => ?_
          | refine AWP.seqR (by kernel_rfl) fun K hK => ?_
          | (refine AWP.cond (by with_unfolding_all rfl) (fun h => ?_) (fun h => ?_); all_goals (try simp only [Bool.not_eq_true', Bool.not_eq_false'] at h); (all_goals try first | (exact absurd h Bool.false_ne_true) | (exact absurd h.symm Bool.false_ne_true) | (exact absurd h (by decide))))
          | refine AWP.skip ?_
          | refine AWP.ret ?_
          | refine AWP.block ?_
          | refine AWP.exit ?_
          | (refine ⟨fun h => ?_, fun h => ?_⟩ <;> (try simp only [Bool.not_eq_true', Bool.not_eq_false'] at h) <;> try simp only [h])
          | refine Or.inl ?_)
        | (clear hK K))
      all_goals (first | exact fun _ h => (by cases h) | refine fin0 ?_)
      all_goals (simp only [Bool.or_true, Bool.or_false, cond_true, zeroVt]; try rfl)
  ·
    repeat' (first
      | (simp only [go_sem, zA, zB, zC, zD, zE, zF, zG, reduceCtorEq, zH, zI, zJ, zK, zL, hn]; all_goals fail_if_success guard_target =ₛ False)
      | (with_reducible first
        | refine seqVC_stepN rfl fun K hK => ?_
        | refine seqVC_stepG rfl (by with_unfolding_all rfl) fun K hK => ?_
        | refine seqVC_nil ?_
        | (refine hK _ _ _ ?_; clear hK K)
        | (refine hK _ _ ?_; clear hK K)
        | (refine hK _ ?_; clear hK K)
        | refine AWP.seq fun K hK => ?_
        | refine AWP.seqR (by kernel_rfl) fun K hK => ?_
        | (refine AWP.cond (by with_unfolding_all rfl) (fun h => ?_) (fun h => ?_); all_goals (try simp only [Bool.not_eq_true', Bool.not_eq_false'] at h); (all_goals try first | (exact absurd h Bool.false_ne_true) | (exact absurd h.symm Bool.false_ne_true) | (exact absurd h (by decide))))
        | refine AWP.skip ?_
        | refine AWP.ret ?_
        | refine AWP.block ?_
        | refine AWP.exit ?_
        | (refine ⟨fun h => ?_, fun h => ?_⟩ <;> (try simp only [Bool.not_eq_true', Bool.not_eq_false'] at h) <;> try simp only [h])
        | refine Or.inl ?_)
      | (clear hK K))
    all_goals (first | exact fun _ h => (by cases h) | refine fin0 ?_)
    all_goals (simp only [Bool.true_or, cond_true, zeroVt]; try rfl)
/-- things made one behind the other -/
def listM {α : Type} (f : Src → α × Src) : Nat → Src → List α × Src
  | 0, s => ([], s)
  | n + 1, s => ((f s).1 :: (listM f n (f s).2).1, (listM f n (f s).2).2)
theorem listM_step {α : Type} (f : Src → α × Src) (n : Nat) (s : Src) (acc : List α) : (acc ++ (listM f (n + 1) s).1, (listM f (n + 1) s).2) = ((acc ++ [(f s).1]) ++ (listM f n (f s).2).1, (listM f n (f s).2).2) := by
  simp [listM]
theorem listM_len {α : Type} (f : Src → α × Src) : ∀ (n : Nat) (s : Src), (listM f n s).1.length = n
  | 0, s => rfl
  | n + 1, s => by simp [listM, listM_len f n]
theorem listM_ok {α : Type} {f : Src → α × Src} (hf : ∀ s : Src, s.ok → (f s).2.ok) : ∀ (n : Nat) (s : Src), s.ok → (listM f n s).2.ok
  | 0, s, h => h
  | n + 1, s, h => by unfold listM; exact listM_ok hf n _ (hf s h)
theorem listM_mem {α : Type} {f : Src → α × Src} {p : α → Prop} (hf : ∀ s : Src, p (f s).1) : ∀ (n : Nat) (s : Src), ∀ x ∈ (listM f n s).1, p x
  | 0, s, x, h => by simp [listM] at h
  | n + 1, s, x, h => by
    simp only [listM, List.mem_cons] at h
    rcases h with rfl | h
    · exact hf s
    · exact listM_mem hf n _ x h
/-- the contract of Value at one height -/
def ValueC (f : Src → Val × Src) (h : Nat) : Prop := ∀ s : Src, s.ok → PCB Try.prog 15 [Sp pin, I .i64 h] [(pin, srcB s)] (Vt (f s).1) [(pin, srcB (f s).2)]
theorem ValueC.k {f : Src → Val × Src} {h : Nat} (H : ValueC f h) (k : Nat) (s : Src) (hs : s.ok) : PCBk Try.prog 15 [Sp k, I .i64 h] k (srcB s) (Vt (f s).1) (srcB (f s).2) := PCBk.mk k (H s hs)
def entryV (f : Src → Val × Src) (n : Nat) (s : Src) : Ent × Src :=
  bif decide (nextV (listM f n s).2 4 = 1) then (((listM f n s).1, true, zeroVal), nextS (listM f n s).2 4)
  else (((listM f n s).1, false, (f (nextS (listM f n s).2 4)).1), (f (nextS (listM f n s).2 4)).2)
theorem entry_ok {f : Src → Val × Src} (hf : ∀ s : Src, s.ok → (f s).2.ok) (n : Nat) {s : Src} (h : s.ok) : (entryV f n s).2.ok := by
  unfold entryV
  have h1 := listM_ok hf n s h
  cases decide (nextV (listM f n s).2 4 = 1)
  · exact hf _ (ok_next h1 4)
  · exact ok_next h1 4
abbrev entBox (n : Nat) : Res := .cells [.own 900 n, .dat (.bool false), .dat (.int .i64 0), .dat (.int .i64 0), .dat (.str []), .dat (.nil 7), .dat (.nil 2), .dat (.nil 9), .dat (.nil 1)]
theorem entry_c {f : Src → Val × Src} {h : Nat} (H : ValueC f h) (hf : ∀ s : Src, s.ok → (f s).2.ok) (n : Nat) (hn : n ≤ 1000) (s : Src) (hs : s.ok) :
    PCB Try.prog 73 [Sp pin, I .i64 n, I .i64 h] [(pin, srcB s)] (.st (encEnt (entryV f n s).1)) [(pin, srcB (entryV f n s).2)] := by
  refine PCB.of_body Try.func73 rfl (by decide) Try.ntmps73 Try.results73 rfl rfl rfl ?_ rfl rfl
  repeat' (first
    | (simp only [go_sem, zA, zB, zC, zD, zE, zF, zG, reduceCtorEq, zH, zI, zJ, zK, zL, pin]; all_goals fail_if_success guard_target =ₛ False)
    | (with_reducible first
      | refine seqVC_stepN rfl fun K hK => ?_
      | refine seqVC_nil ?_
      | (refine hK _ _ _ ?_; clear hK K)
      | (refine hK _ _ ?_; clear hK K)
      | (refine hK _ ?_; clear hK K)
      | refine AWP.seq fun K hK => ?_
      | refine AWP.seqR (by kernel_rfl) fun K hK => ?_
      | refine parVC_stepN rfl fun K hK => ?_
      | refine parEVC_stepN rfl fun K hK => ?_
      | refine genVC_stepN rfl fun K hK => ?_
      | refine parVC_nil ?_
      | refine parEVC_nil ?_
      | refine genVC_nil ?_
      | (refine AWP.cond (by with_unfolding_all rfl) (fun h => ?_) (fun h => ?_); all_goals (try simp only [Bool.not_eq_true', Bool.not_eq_false'] at h); (all_goals try first | (exact absurd h Bool.false_ne_true) | (exact absurd h.symm Bool.false_ne_true) | (exact absurd h (by decide))))
      | refine AWP.skip ?_
      | refine AWP.ret ?_
      | refine AWP.block ?_
      | refine AWP.exit ?_
      | (refine AWP.segP (id := 4) 6 mixed (by kernel_rfl) fun K hK => ?_; simp only [List.take_succ_cons, List.take_zero, List.drop_succ_cons, List.drop_zero])
      | refine AWP.parR mixed (by kernel_rfl) fun K hK => ?_
      | refine ⟨(by kernel_rfl : depB _ _ _ = true), ?_⟩
      | refine Or.inl ?_)
    | (clear hK K))
  refine AWP.gh (Gh.nilcell 7 0 900 rfl rfl rfl (by simp only [go_sem, zA, zB, zC, zD, zE, zF, zG, reduceCtorEq, zH, zI, zJ, zK, zL]) (by simp only [go_sem, zA, zB, zC, zD, zE, zF, zG, reduceCtorEq, zH, zI, zJ, zK, zL])) ?_
  refine AWP.loopF (X := Nat × Src × List Val) (fun x => [(0, Sp 1000000), (1, I .i64 x.1)]) (fun x => [(1000000, srcB x.2.1), (7, entBox x.2.2.length), (900, .row 7 (x.2.2.map encVal))]) [2, 6, 7] [6] (fun x => x.1 + x.2.2.length ≤ 1000 ∧ x.2.1.ok ∧ listM f n s = (x.2.2 ++ (listM f x.1 x.2.1).1, (listM f x.1 x.2.1).2)) (fun x => x.1) ((n, s, [])) (by simp only [go_sem, zA, zB, zC, zD, zE, zF, zG, reduceCtorEq, zH, zI, zJ, zK, zL]; exact Gh.to [] (by repeat (first | exact trivial | refine ⟨rfl, ?_⟩ | refine ⟨by (simp only [go_sem, zA, zB, zC, zD, zE, zF, zG, reduceCtorEq, zH, zI, zJ, zK, zL, List.length_append, List.length_map, List.length_cons, List.length_nil, Nat.zero_add]) <;> rfl, ?_⟩)) (by repeat (first | exact trivial | refine ⟨rfl, ?_⟩ | refine ⟨by (simp only [go_sem, zA, zB, zC, zD, zE, zF, zG, reduceCtorEq, zH, zI, zJ, zK, zL, List.length_append, List.length_map, List.length_cons, List.length_nil, Nat.zero_add]) <;> rfl, ?_⟩)) rfl rfl rfl) ?_ ?_
  · exact ⟨by simp; exact hn, hs, by simp⟩
  rintro ⟨m, t, acc⟩ ⟨hl, ht, hp⟩
  simp only at hl ht hp
  simp only [go_sem, zA, zB, zC, zD, zE, zF, zG, reduceCtorEq, zH, zI, zJ, zK, zL]
  cases m with
  | succ m =>
    rw [listM_step] at hp
    have hw2 : IntKind.i64.wrap (((m + 1 : Nat) : Int) - 1) = (m : Int) := wrap_pred_nat (by omega)
    repeat' (first
      | (simp only [go_sem, zA, zB, zC, zD, zE, zF, zG, reduceCtorEq, zH, zI, zJ, zK, zL, pin, List.length_map, dec_pos, hw2, val_snoc]; all_goals fail_if_success guard_target =ₛ False)
      | (with_reducible first
        | refine seqVC_stepN rfl fun K hK => ?_
        | refine seqVC_nil ?_
        | (refine hK _ _ _ ?_; clear hK K)
        | (refine hK _ _ ?_; clear hK K)
        | (refine hK _ ?_; clear hK K)
        | refine AWP.seq fun K hK => ?_
        | refine AWP.seqR (by kernel_rfl) fun K hK => ?_
        | refine parVC_stepN rfl fun K hK => ?_
        | refine parEVC_stepN rfl fun K hK => ?_
        | refine genVC_stepN rfl fun K hK => ?_
        | refine gen2VC_stepN rfl fun K hK => ?_
        | refine parVC_nil ?_
        | refine parEVC_nil ?_
        | refine genVC_nil ?_
        | refine gen2VC_nil ?_
        | (refine AWP.cond (by with_unfolding_all rfl) (fun h => ?_) (fun h => ?_); all_goals (try simp only [Bool.not_eq_true', Bool.not_eq_false'] at h); (all_goals try first | (exact absurd h Bool.false_ne_true) | (exact absurd h.symm Bool.false_ne_true) | (exact absurd h (by decide))))
        | refine AWP.skip ?_
        | refine AWP.ret ?_
        | refine AWP.block ?_
        | refine AWP.exit ?_
        | (refine ⟨(by first | omega | (simp only [List.length_append, List.length_map, List.length_take, List.length_drop, List.length_cons, List.length_nil, List.length_replicate]; omega) : _ ≤ _), ?_⟩)
        | refine ⟨by omega, by omega, ?_⟩)
      | (refine ⟨1000000, _, _, _, H.k 1000000 t ht, rfl, ?_⟩)
      | (with_reducible first
        | (refine AWP.genR2 (id := 4) [4,6,8] [1000000,7,900] [1] 8 [1000000,900] mixed (by kernel_rfl) fun K hK => ?_; simp only [Bx.outs, Bx.drop, cond_true, cond_false, Nat.reduceBEq, go_sem])
        | refine AWP.parR mixed (by kernel_rfl) fun K hK => ?_
        | refine ⟨(by kernel_rfl : depB _ _ _ = true), ?_⟩
        | refine Or.inl ?_)
      | (clear hK K))
    all_goals (refine ⟨(m, (f t).2, acc ++ [(f t).1]), by simp only; omega, ⟨by simp; omega, hf t ht, hp⟩, Gh.to [(900, 18)] (by repeat (first | exact trivial | refine ⟨rfl, ?_⟩ | refine ⟨by (simp only [go_sem, zA, zB, zC, zD, zE, zF, zG, reduceCtorEq, zH, zI, zJ, zK, zL, List.length_append, List.length_map, List.length_cons, List.length_nil, Nat.zero_add]) <;> rfl, ?_⟩)) (by repeat (first | exact trivial | refine ⟨rfl, ?_⟩ | refine ⟨by (simp only [go_sem, zA, zB, zC, zD, zE, zF, zG, reduceCtorEq, zH, zI, zJ, zK, zL, List.length_append, List.length_map, List.length_cons, List.length_nil, Nat.zero_add]) <;> rfl, ?_⟩)) rfl rfl rfl⟩)
  | zero =>
    rw [listM, List.append_nil] at hp
    have h0 : decide ((0 : Int) < ((0 : Nat) : Int)) = false := by simp
    refine AWP.gh (Gh.freeze 900 rfl rfl (by simp only [go_sem, zA, zB, zC, zD, zE, zF, zG, reduceCtorEq, zH, zI, zJ, zK, zL, List.length_map]) (by simp only [go_sem, zA, zB, zC, zD, zE, zF, zG, reduceCtorEq, zH, zI, zJ, zK, zL, List.length_map])) ?_
    simp only [go_sem, zA, zB, zC, zD, zE, zF, zG, reduceCtorEq, zH, zI, zJ, zK, zL, List.length_map]
    repeat' (first
      | (simp only [go_sem, zA, zB, zC, zD, zE, zF, zG, reduceCtorEq, zH, zI, zJ, zK, zL, pin, h0]; all_goals fail_if_success guard_target =ₛ False)
      | (with_reducible first
        | refine seqVC_stepN rfl fun K hK => ?_
        | refine seqVC_nil ?_
        | (refine hK _ _ _ ?_; clear hK K)
        | (refine hK _ _ ?_; clear hK K)
        | (refine hK _ ?_; clear hK K)
        | refine AWP.seq fun K hK => ?_
        | refine AWP.seqR (by kernel_rfl) fun K hK => ?_
        | refine parVC_stepN rfl fun K hK => ?_
        | refine parEVC_stepN rfl fun K hK => ?_
        | refine genVC_stepN rfl fun K hK => ?_
        | refine parVC_nil ?_
        | refine parEVC_nil ?_
        | refine genVC_nil ?_
        | (refine AWP.cond (by with_unfolding_all rfl) (fun h => ?_) (fun h => ?_); all_goals (try simp only [Bool.not_eq_true', Bool.not_eq_false'] at h); (all_goals try first | (exact absurd h Bool.false_ne_true) | (exact absurd h.symm Bool.false_ne_true) | (exact absurd h (by decide))))
        | refine AWP.skip ?_
        | refine AWP.ret ?_
        | refine AWP.block ?_
        | refine AWP.exit ?_)
      | (refine ⟨1000000, _, _, _, next_k 1000000 t ht 4 (by omega), rfl, ?_⟩)
      | (refine ⟨1000000, _, _, _, H.k 1000000 _ (ok_next ht 4), rfl, ?_⟩)
      | (with_reducible first
        | (refine AWP.segP (id := 4) 6 mixed (by kernel_rfl) fun K hK => ?_; simp only [List.take_succ_cons, List.take_zero, List.drop_succ_cons, List.drop_zero])
        | refine AWP.parR mixed (by kernel_rfl) fun K hK => ?_
        | refine ⟨(by kernel_rfl : depB _ _ _ = true), ?_⟩
        | refine Or.inl ?_)
      | (clear hK K))
    all_goals (simp only [entryV, hp, *, cond_true, cond_false])
    all_goals (first | refine ⟨by first | rfl | (simp only [encEnt_eq, encVal_eq]; done) | (simp only [encEnt_eq, encVal_eq]; rfl), fun x hx => ?_⟩ | refine ⟨trivial, fun x hx => ?_⟩)
    all_goals (simp only [List.mem_singleton] at hx; subst hx; simp [pin])
end Go.Proofs.Ytmpfdejckbceiaa
set_option linter.unusedSimpArgs false
set_option linter.unusedVariables false
set_option maxRecDepth 20000
set_option maxHeartbeats 4000000
namespace Go.Proofs.Ytmpfdejckbceiaa
open Go Go.Sx
open Nat renaming reduceBEq → zA, reduceBNe → zB, reduceAdd → zC, reduceSub → zD, reduceMul → zE, reduceLeDiff → zF, reduceLT → zG, reduceEqDiff → zH
open Int renaming reduceToNat → zI, reduceLE → zJ, reduceLT → zK, reduceEq → zL
/-- values -/
def lab (r : Val × Src) : Val × Src := ({ r.1 with labels := (labelsV r.2).1 }, (labelsV r.2).2)
def pairM (f : Src → Val × Src) : Nat → Src → (List KeyD × List Val) × Src
  | 0, s => (([], []), s)
  | n + 1, s => (((keyV s).1 :: (pairM f n (f (keyV s).2).2).1.1, (f (keyV s).2).1 :: (pairM f n (f (keyV s).2).2).1.2), (pairM f n (f (keyV s).2).2).2)
theorem pairM_step (f : Src → Val × Src) (n : Nat) (s : Src) (a : List KeyD) (b : List Val) :
    ((a ++ (pairM f (n + 1) s).1.1, b ++ (pairM f (n + 1) s).1.2), (pairM f (n + 1) s).2) = (((a ++ [(keyV s).1]) ++ (pairM f n (f (keyV s).2).2).1.1, (b ++ [(f (keyV s).2).1]) ++ (pairM f n (f (keyV s).2).2).1.2), (pairM f n (f (keyV s).2).2).2) := by
  simp [pairM]
theorem pairM_ok {f : Src → Val × Src} (hf : ∀ s : Src, s.ok → (f s).2.ok) : ∀ (n : Nat) (s : Src), s.ok → (pairM f n s).2.ok
  | 0, s, h => h
  | n + 1, s, h => by unfold pairM; exact pairM_ok hf n _ (hf _ (ok_key h))
theorem pairM_len (f : Src → Val × Src) : ∀ (n : Nat) (s : Src), (pairM f n s).1.1.length = n ∧ (pairM f n s).1.2.length = n
  | 0, s => ⟨rfl, rfl⟩
  | n + 1, s => by simp [pairM, pairM_len f n]
/-- the tail of a list -/
def tailV (f0 : Src → Val × Src) (big : Bool) (s : Src) : Val × Src :=
  bif big then (bif decide (nextV s 2 = 1) then (consVal (f0 (nextS s 2)).1 nilVal, (f0 (nextS s 2)).2) else (nilVal, nextS s 2)) else (nilVal, s)
def valueK (f1 f0 : Src → Val × Src) (big : Bool) (k : Int) (s : Src) : Val × Src :=
  bif decide (k = 1) then (tupVal (listM f1 (nextV s 4).toNat (nextS s 4)).1, (listM f1 (nextV s 4).toNat (nextS s 4)).2) else
  bif decide (k = 2) then (consVal (f1 (lab (tailV f0 big s)).2).1 (lab (tailV f0 big s)).1, (f1 (lab (tailV f0 big s)).2).2) else
  bif decide (k = 3) then
    (bif decide ((mapV (pairM f1 (nextV s 3).toNat (nextS s 3)).1.1 (pairM f1 (nextV s 3).toNat (nextS s 3)).1.2).2 = 0) then ((mapV (pairM f1 (nextV s 3).toNat (nextS s 3)).1.1 (pairM f1 (nextV s 3).toNat (nextS s 3)).1.2).1, (pairM f1 (nextV s 3).toNat (nextS s 3)).2)
     else leafV (pairM f1 (nextV s 3).toNat (nextS s 3)).2) else
  bif decide (k = 4) then
    (bif decide ((fnV (nextV s 3) (listM (entryV f1 (nextV s 3).toNat) (nextV (nextS s 3) 3).toNat (nextS (nextS s 3) 3)).1).2 = 0) then ((fnV (nextV s 3) (listM (entryV f1 (nextV s 3).toNat) (nextV (nextS s 3) 3).toNat (nextS (nextS s 3) 3)).1).1, (listM (entryV f1 (nextV s 3).toNat) (nextV (nextS s 3) 3).toNat (nextS (nextS s 3) 3)).2)
     else leafV (listM (entryV f1 (nextV s 3).toNat) (nextV (nextS s 3) 3).toNat (nextS (nextS s 3) 3)).2) else
  leafV s
def valueF : Nat → Src → Val × Src
  | 0 => leafV
  | 1 => leafV
  | h + 2 => fun s => valueK (fun s => lab (valueF (h + 1) s)) (fun s => lab (valueF h s)) (decide (0 < h)) (nextV s 6) (nextS s 6)
def fullV (h : Nat) (s : Src) : Val × Src := lab (valueF h s)
theorem ok_lab {r : Val × Src} (h : r.2.ok) : (lab r).2.ok := ok_labels h
theorem ok_tail {f0 : Src → Val × Src} (h0 : ∀ s : Src, s.ok → (f0 s).2.ok) (big : Bool) {s : Src} (h : s.ok) : (tailV f0 big s).2.ok := by
  unfold tailV
  cases big <;> cases decide (nextV s 2 = 1) <;> first | exact h | exact ok_next h 2 | exact h0 _ (ok_next h 2)
theorem ok_valueK {f1 f0 : Src → Val × Src} (h1 : ∀ s : Src, s.ok → (f1 s).2.ok) (h0 : ∀ s : Src, s.ok → (f0 s).2.ok) (big : Bool) (k : Int) {s : Src} (h : s.ok) : (valueK f1 f0 big k s).2.ok := by
  have n4 := ok_next h 4
  have n3 := ok_next h 3
  have n33 := ok_next n3 3
  unfold valueK
  cases decide (k = 1) <;> simp only [cond_true, cond_false]
  · cases decide (k = 2) <;> simp only [cond_true, cond_false]
    · cases decide (k = 3) <;> simp only [cond_true, cond_false]
      · cases decide (k = 4) <;> simp only [cond_true, cond_false]
        · exact ok_leaf h
        · have hx := listM_ok (f := entryV f1 (nextV s 3).toNat) (fun t ht => entry_ok h1 _ ht) (nextV (nextS s 3) 3).toNat _ n33
          generalize decide ((fnV _ _).2 = 0) = b
          cases b
          · exact ok_leaf hx
          · exact hx
      · have hx := pairM_ok h1 (nextV s 3).toNat _ n3
        generalize decide ((mapV _ _).2 = 0) = b
        cases b
        · exact ok_leaf hx
        · exact hx
    · exact h1 _ (ok_lab (ok_tail h0 big h))
  · exact listM_ok h1 _ _ n4
theorem ok_value : ∀ (h : Nat) (s : Src), s.ok → (valueF h s).2.ok
  | 0, s, hs => ok_leaf hs
  | 1, s, hs => ok_leaf hs
  | h + 2, s, hs => ok_valueK (fun s hs => ok_lab (ok_value (h + 1) s hs)) (fun s hs => ok_lab (ok_value h s hs)) _ _ (ok_next hs 6)
theorem ok_full (h : Nat) (s : Src) (hs : s.ok) : (fullV h s).2.ok := ok_lab (ok_value h s hs)
/-- the contract of value at one height -/
def ValC (f : Src → Val × Src) (h : Nat) : Prop := ∀ s : Src, s.ok → PCB Try.prog 44 [Sp pin, I .i64 h] [(pin, srcB s)] (Vt (f s).1) [(pin, srcB (f s).2)]
theorem ValC.k {f : Src → Val × Src} {h : Nat} (H : ValC f h) (k : Nat) (s : Src) (hs : s.ok) : PCBk Try.prog 44 [Sp k, I .i64 h] k (srcB s) (Vt (f s).1) (srcB (f s).2) := PCBk.mk k (H s hs)
theorem full_c {f : Src → Val × Src} {h : Nat} (H : ValC f h) (hf : ∀ s : Src, s.ok → (f s).2.ok) : ValueC (fun s => lab (f s)) h := by
  intro s hs
  refine PCB.of_body Try.func15 rfl (by decide) Try.ntmps15 Try.results15 rfl rfl rfl ?_ rfl rfl
  repeat' (first
    | (simp only [go_sem, zA, zB, zC, zD, zE, zF, zG, reduceCtorEq, zH, zI, zJ, zK, zL, pin, encVal_eq]; all_goals fail_if_success guard_target =ₛ False)
    | (with_reducible first
      | refine seqVC_stepN rfl fun K hK => ?_
      | refine seqVC_nil ?_
      | (refine hK _ _ _ ?_; clear hK K)
      | (refine hK _ _ ?_; clear hK K)
      | (refine hK _ ?_; clear hK K)
      | refine AWP.seq fun K hK => ?_
      | refine AWP.seqR (by kernel_rfl) fun K hK => ?_
      | (refine AWP.cond (by with_unfolding_all rfl) (fun h => ?_) (fun h => ?_); all_goals (try simp only [Bool.not_eq_true', Bool.not_eq_false'] at h); (all_goals try first | (exact absurd h Bool.false_ne_true) | (exact absurd h.symm Bool.false_ne_true) | (exact absurd h (by decide))))
      | refine AWP.skip ?_
      | refine AWP.ret ?_
      | refine AWP.block ?_
      | refine AWP.exit ?_)
    | (refine ⟨1000000, _, _, _, H.k 1000000 s hs, rfl, ?_⟩)
    | (refine ⟨1000000, _, _, _, labels_k 1000000 _ (hf s hs), rfl, ?_⟩)
    | (with_reducible first
      | refine Or.inl ?_)
    | (clear hK K))
  all_goals (refine ⟨?_, fun x hx => ?_⟩)
  any_goals (simp only [List.mem_singleton] at hx; subst hx; simp [pin, lab])
  all_goals (simp only [lab, Vt, encVal_eq]; try rfl)
theorem value_leaf (h : Nat) (hh : h ≤ 1) : ValC leafV h := by
  intro s hs
  have hb : decide ((h : Int) ≤ 1) = true := by simp; omega
  refine PCB.of_body Try.func44 rfl (by decide) Try.ntmps44 Try.results44 rfl rfl rfl ?_ rfl rfl
  repeat' (first
    | (simp only [go_sem, zA, zB, zC, zD, zE, zF, zG, reduceCtorEq, zH, zI, zJ, zK, zL, pin, hb]; all_goals fail_if_success guard_target =ₛ False)
    | (with_reducible first
      | refine seqVC_stepN rfl fun K hK => ?_
      | refine seqVC_stepG rfl (by with_unfolding_all rfl) fun K hK => ?_
      | refine seqVC_nil ?_
      | (refine hK _ _ _ ?_; clear hK K)
      | (refine hK _ _ ?_; clear hK K)
      | (refine hK _ ?_; clear hK K)
      | refine AWP.seq fun K hK => ?_
      | refine AWP.seqR (by kernel_rfl) fun K hK => ?_
      | refine parVC_stepN rfl fun K hK => ?_
      | refine parVC_stepG rfl (by with_unfolding_all rfl) fun K hK => ?_
      | refine parEVC_stepN rfl fun K hK => ?_
      | refine parEVC_stepG rfl (by with_unfolding_all rfl) fun K hK => ?_
      | refine genVC_stepN rfl fun K hK => ?_
      | refine genVC_stepG rfl (by with_unfolding_all rfl) fun K hK => ?_
      | refine parVC_nil ?_
      | refine parEVC_nil ?_
      | refine genVC_nil ?_
      | (refine AWP.cond (by with_unfolding_all rfl) (fun h => ?_) (fun h => ?_); all_goals (try simp only [Bool.not_eq_true', Bool.not_eq_false'] at h); (all_goals try first | (exact absurd h Bool.false_ne_true) | (exact absurd h.symm Bool.false_ne_true) | (exact absurd h (by decide))))
      | refine AWP.skip ?_
      | refine AWP.ret ?_
      | refine AWP.block ?_
      | refine AWP.exit ?_
      | (refine ⟨fun h => ?_, fun h => ?_⟩ <;> (try simp only [Bool.not_eq_true', Bool.not_eq_false'] at h) <;> try simp only [h]))
    | (refine ⟨1000000, _, _, _, leaf_k 1000000 s hs, rfl, ?_⟩)
    | (with_reducible first
      | (refine AWP.segP (id := 16) 6 mixed (by kernel_rfl) fun K hK => ?_; simp only [List.take_succ_cons, List.take_zero, List.drop_succ_cons, List.drop_zero])
      | refine AWP.parR mixed (by kernel_rfl) fun K hK => ?_
      | refine ⟨(by kernel_rfl : depB _ _ _ = true), ?_⟩
      | refine Or.inl ?_)
    | (clear hK K))
  all_goals (first | exact fun x hx => hx | (refine ⟨rfl, fun x hx => ?_⟩; simp only [List.mem_singleton] at hx; subst hx; simp [pin]) | (intro x hx; simp only [List.mem_singleton] at hx; subst hx; simp [pin]))
section
variable {f1 f0 : Src → Val × Src} {h : Nat}
abbrev ValK (f1 f0 : Src → Val × Src) (h : Nat) (k : Int) : Prop := ∀ s : Src, s.ok → nextV s 6 = k → PCB Try.prog 44 [Sp pin, I .i64 (h + 2 : Nat)] [(pin, srcB s)] (Vt (valueK f1 f0 (decide (0 < h)) k (nextS s 6)).1) [(pin, srcB (valueK f1 f0 (decide (0 < h)) k (nextS s 6)).2)]
theorem value_5 (k : Int) (hk5 : k = 0 ∨ k = 5) (hh : h ≤ 1000) : ValK f1 f0 h k := by
  intro s hs hk
  have hb : decide (((h + 2 : Nat) : Int) ≤ 1) = false := by simp; omega
  have hs1 := ok_next hs 6
  rcases hk5 with rfl | rfl
  all_goals
    refine PCB.of_body Try.func44 rfl (by decide) Try.ntmps44 Try.results44 rfl rfl rfl ?_ rfl rfl
    repeat' (first
      | (simp only [go_sem, zA, zB, zC, zD, zE, zF, zG, reduceCtorEq, zH, zI, zJ, zK, zL, pin, hb, hk]; all_goals fail_if_success guard_target =ₛ False)
      | (with_reducible first
        | refine seqVC_stepN rfl fun K hK => ?_
        | refine seqVC_stepG rfl (by with_unfolding_all rfl) fun K hK => ?_
        | refine seqVC_nil ?_
        | (refine hK _ _ _ ?_; clear hK K)
        | (refine hK _ _ ?_; clear hK K)
        | (refine hK _ ?_; clear hK K)
        | refine AWP.seq fun K hK => ?_
        | refine AWP.seqR (by kernel_rfl) fun K hK => ?_
        | refine parVC_stepN rfl fun K hK => ?_
        | refine parVC_stepG rfl (by with_unfolding_all rfl) fun K hK => ?_
        | refine parEVC_stepN rfl fun K hK => ?_
        | refine parEVC_stepG rfl (by with_unfolding_all rfl) fun K hK => ?_
        | refine genVC_stepN rfl fun K hK => ?_
        | refine genVC_stepG rfl (by with_unfolding_all rfl) fun K hK => ?_
        | refine parVC_nil ?_
        | refine parEVC_nil ?_
        | refine genVC_nil ?_
        | (refine AWP.cond (by with_unfolding_all rfl) (fun h => ?_) (fun h => ?_); all_goals (try simp only [Bool.not_eq_true', Bool.not_eq_false'] at h); (all_goals try first | (exact absurd h Bool.false_ne_true) | (exact absurd h.symm Bool.false_ne_true) | (exact absurd h (by decide))))
        | refine AWP.skip ?_
        | refine AWP.ret ?_
        | refine AWP.block ?_
        | refine AWP.exit ?_
        | (refine ⟨fun h => ?_, fun h => ?_⟩ <;> (try simp only [Bool.not_eq_true', Bool.not_eq_false'] at h) <;> try simp only [h]))
      | (refine ⟨1000000, _, _, _, next_k 1000000 s hs 6 (by omega), rfl, ?_⟩)
      | (refine ⟨1000000, _, _, _, leaf_k 1000000 _ hs1, rfl, ?_⟩)
      | (with_reducible first
        | (refine AWP.segP (id := 16) 6 mixed (by kernel_rfl) fun K hK => ?_; simp only [List.take_succ_cons, List.take_zero, List.drop_succ_cons, List.drop_zero])
        | refine AWP.parR mixed (by kernel_rfl) fun K hK => ?_
        | refine ⟨(by kernel_rfl : depB _ _ _ = true), ?_⟩
        | refine Or.inl ?_)
      | (clear hK K))
  all_goals (first | exact fun x hx => hx | (refine ⟨rfl, fun x hx => ?_⟩; simp only [List.mem_singleton] at hx; subst hx; simp [pin, valueK]) | (intro x hx; simp only [List.mem_singleton] at hx; subst hx; simp [pin, valueK]))
theorem value_1 (H1 : ValueC f1 (h + 1)) (hf1 : ∀ s : Src, s.ok → (f1 s).2.ok) (hh : h ≤ 1000) : ValK f1 f0 h 1 := by
  intro s hs hk
  have hb : decide (((h + 2 : Nat) : Int) ≤ 1) = false := by simp; omega
  have hs1 := ok_next hs 6
  have hv := nextV_in (nextS s 6) (n := 4) (by omega)
  have hnn : nextV (nextS s 6) 4 = (((nextV (nextS s 6) 4).toNat : Nat) : Int) := by omega
  have hw : IntKind.i64.wrap (((h + 2 : Nat) : Int) - 1) = ((h + 1 : Nat) : Int) := by rw [w64 (by omega)]; omega
  rw [show valueK f1 f0 (decide (0 < h)) 1 (nextS s 6) = (tupVal (listM f1 (nextV (nextS s 6) 4).toNat (nextS (nextS s 6) 4)).1, (listM f1 (nextV (nextS s 6) 4).toNat (nextS (nextS s 6) 4)).2) from rfl]
  refine PCB.of_body Try.func44 rfl (by decide) Try.ntmps44 Try.results44 rfl rfl rfl ?_ rfl rfl
  repeat' (first
    | (simp only [go_sem, zA, zB, zC, zD, zE, zF, zG, reduceCtorEq, zH, zI, zJ, zK, zL, pin, hb, hk]; all_goals fail_if_success guard_target =ₛ False)
    | (with_reducible first
      | refine seqVC_stepN rfl fun K hK => ?_
      | refine seqVC_stepG rfl (by with_unfolding_all rfl) fun K hK => ?_
      | refine seqVC_nil ?_
      | (refine hK _ _ _ ?_; clear hK K)
      | (refine hK _ _ ?_; clear hK K)
      | (refine hK _ ?_; clear hK K)
      | refine AWP.seq fun K hK => ?_
      | refine AWP.seqR (by kernel_rfl) fun K hK => ?_
      | refine parVC_stepN rfl fun K hK => ?_
      | refine parVC_stepG rfl (by with_unfolding_all rfl) fun K hK => ?_
      | refine parEVC_stepN rfl fun K hK => ?_
      | refine parEVC_stepG rfl (by with_unfolding_all rfl) fun K hK => ?_
      | refine genVC_stepN rfl fun K hK => ?_
      | refine genVC_stepG rfl (by with_unfolding_all rfl) fun K hK => ?_
      | refine parVC_nil ?_
      | refine parEVC_nil ?_
      | refine genVC_nil ?_
      | (refine AWP.cond (by with_unfolding_all rfl) (fun h => ?_) (fun h => ?_); all_goals (try simp only [Bool.not_eq_true', Bool.not_eq_false'] at h); (all_goals try first | (exact absurd h Bool.false_ne_true) | (exact absurd h.symm Bool.false_ne_true) | (exact absurd h (by decide))))
      | refine AWP.skip ?_
      | refine AWP.ret ?_
      | refine AWP.block ?_
      | refine AWP.exit ?_
      | (refine ⟨fun h => ?_, fun h => ?_⟩ <;> (try simp only [Bool.not_eq_true', Bool.not_eq_false'] at h) <;> try simp only [h]))
    | (refine ⟨1000000, _, _, _, next_k 1000000 s hs 6 (by omega), rfl, ?_⟩)
    | (refine ⟨1000000, _, _, _, next_k 1000000 _ hs1 4 (by omega), rfl, ?_⟩)
    | (with_reducible first
      | (refine AWP.segP (id := 16) 6 mixed (by kernel_rfl) fun K hK => ?_; simp only [List.take_succ_cons, List.take_zero, List.drop_succ_cons, List.drop_zero])
      | refine AWP.parR mixed (by kernel_rfl) fun K hK => ?_
      | refine ⟨(by kernel_rfl : depB _ _ _ = true), ?_⟩
      | refine Or.inl ?_)
    | (clear hK K))
  refine AWP.gh (Gh.nilrow 5 900 rfl rfl rfl rfl) ?_
  rw [hnn]
  refine AWP.loopF (X := Nat × Src × List Val) (fun x => [(0, Sp 1000000), (5, .one (.own 900 x.2.2.length)), (6, I .i64 x.1)]) (fun x => [(1000000, srcB x.2.1), (900, .row 7 (x.2.2.map encVal))]) [1, 4] [4] (fun x => x.1 + x.2.2.length ≤ 1000 ∧ x.2.1.ok ∧ listM f1 (nextV (nextS s 6) 4).toNat (nextS (nextS s 6) 4) = (x.2.2 ++ (listM f1 x.1 x.2.1).1, (listM f1 x.1 x.2.1).2)) (fun x => x.1) (((nextV (nextS s 6) 4).toNat, nextS (nextS s 6) 4, [])) (by simp only [go_sem, zA, zB, zC, zD, zE, zF, zG, reduceCtorEq, zH, zI, zJ, zK, zL]; exact Gh.to [] (by repeat (first | exact trivial | refine ⟨rfl, ?_⟩ | refine ⟨by (simp only [go_sem, zA, zB, zC, zD, zE, zF, zG, reduceCtorEq, zH, zI, zJ, zK, zL, List.length_append, List.length_map, List.length_cons, List.length_nil, Nat.zero_add]) <;> rfl, ?_⟩)) (by repeat (first | exact trivial | refine ⟨rfl, ?_⟩ | refine ⟨by (simp only [go_sem, zA, zB, zC, zD, zE, zF, zG, reduceCtorEq, zH, zI, zJ, zK, zL, List.length_append, List.length_map, List.length_cons, List.length_nil, Nat.zero_add]) <;> rfl, ?_⟩)) rfl rfl rfl) ?_ ?_
  · exact ⟨by simp; omega, ok_next hs1 4, by simp⟩
  rintro ⟨m, t, acc⟩ ⟨hl, ht, hp⟩
  simp only at hl ht hp
  simp only [go_sem, zA, zB, zC, zD, zE, zF, zG, reduceCtorEq, zH, zI, zJ, zK, zL]
  cases m with
  | succ m =>
    rw [listM_step] at hp
    have hw2 : IntKind.i64.wrap (((m + 1 : Nat) : Int) - 1) = (m : Int) := wrap_pred_nat (by omega)
    repeat' (first
      | (simp only [go_sem, zA, zB, zC, zD, zE, zF, zG, reduceCtorEq, zH, zI, zJ, zK, zL, pin, List.length_map, dec_pos, hw, hw2, val_snoc]; all_goals fail_if_success guard_target =ₛ False)
      | (with_reducible first
        | refine seqVC_stepN rfl fun K hK => ?_
        | refine seqVC_stepG rfl (by with_unfolding_all rfl) fun K hK => ?_
        | refine seqVC_nil ?_
        | (refine hK _ _ _ ?_; clear hK K)
        | (refine hK _ _ ?_; clear hK K)
        | (refine hK _ ?_; clear hK K)
        | refine AWP.seq fun K hK => ?_
        | refine AWP.seqR (by kernel_rfl) fun K hK => ?_
        | refine parVC_stepN rfl fun K hK => ?_
        | refine parVC_stepG rfl (by with_unfolding_all rfl) fun K hK => ?_
        | refine parEVC_stepN rfl fun K hK => ?_
        | refine parEVC_stepG rfl (by with_unfolding_all rfl) fun K hK => ?_
        | refine genVC_stepN rfl fun K hK => ?_
        | refine genVC_stepG rfl (by with_unfolding_all rfl) fun K hK => ?_
        | refine parVC_nil ?_
        | refine parEVC_nil ?_
        | refine genVC_nil ?_
        | (refine AWP.cond (by with_unfolding_all rfl) (fun h => ?_) (fun h => ?_); all_goals (try simp only [Bool.not_eq_true', Bool.not_eq_false'] at h); (all_goals try first | (exact absurd h Bool.false_ne_true) | (exact absurd h.symm Bool.false_ne_true) | (exact absurd h (by decide))))
        | refine AWP.skip ?_
        | refine AWP.ret ?_
        | refine AWP.block ?_
        | refine AWP.exit ?_
        | (refine ⟨fun h => ?_, fun h => ?_⟩ <;> (try simp only [Bool.not_eq_true', Bool.not_eq_false'] at h) <;> try simp only [h])
        | (refine ⟨(by first | omega | (simp only [List.length_append, List.length_map, List.length_take, List.length_drop, List.length_cons, List.length_nil, List.length_replicate]; omega) : _ ≤ _), ?_⟩)
        | refine ⟨by omega, by omega, ?_⟩)
      | (refine ⟨1000000, _, _, _, H1.k 1000000 t ht, rfl, ?_⟩)
      | (with_reducible first
        | (refine AWP.segP (id := 16) 6 mixed (by kernel_rfl) fun K hK => ?_; simp only [List.take_succ_cons, List.take_zero, List.drop_succ_cons, List.drop_zero])
        | refine AWP.parR mixed (by kernel_rfl) fun K hK => ?_
        | refine ⟨(by kernel_rfl : depB _ _ _ = true), ?_⟩
        | refine Or.inl ?_)
      | (clear hK K))
    all_goals (refine ⟨(m, (f1 t).2, acc ++ [(f1 t).1]), by simp only; omega, ⟨by simp; omega, hf1 t ht, hp⟩, Gh.to [(900, 38)] (by repeat (first | exact trivial | refine ⟨rfl, ?_⟩ | refine ⟨by (simp only [go_sem, zA, zB, zC, zD, zE, zF, zG, reduceCtorEq, zH, zI, zJ, zK, zL, List.length_append, List.length_map, List.length_cons, List.length_nil, Nat.zero_add]) <;> rfl, ?_⟩)) (by repeat (first | exact trivial | refine ⟨rfl, ?_⟩ | refine ⟨by (simp only [go_sem, zA, zB, zC, zD, zE, zF, zG, reduceCtorEq, zH, zI, zJ, zK, zL, List.length_append, List.length_map, List.length_cons, List.length_nil, Nat.zero_add]) <;> rfl, ?_⟩)) rfl rfl rfl⟩)
  | zero =>
    rw [listM, List.append_nil] at hp
    have h0 : decide ((0 : Int) < ((0 : Nat) : Int)) = false := by simp
    have hlen : acc.length ≤ 100000000 := by omega
    repeat' (first
      | (simp only [go_sem, zA, zB, zC, zD, zE, zF, zG, reduceCtorEq, zH, zI, zJ, zK, zL, pin, h0, List.length_map]; all_goals fail_if_success guard_target =ₛ False)
      | (with_reducible first
        | refine seqVC_stepN rfl fun K hK => ?_
        | refine seqVC_stepG rfl (by with_unfolding_all rfl) fun K hK => ?_
        | refine seqVC_nil ?_
        | (refine hK _ _ _ ?_; clear hK K)
        | (refine hK _ _ ?_; clear hK K)
        | (refine hK _ ?_; clear hK K)
        | refine AWP.seq fun K hK => ?_
        | refine AWP.seqR (by kernel_rfl) fun K hK => ?_
        | refine parVC_stepN rfl fun K hK => ?_
        | refine parVC_stepG rfl (by with_unfolding_all rfl) fun K hK => ?_
        | refine parEVC_stepN rfl fun K hK => ?_
        | refine parEVC_stepG rfl (by with_unfolding_all rfl) fun K hK => ?_
        | refine genVC_stepN rfl fun K hK => ?_
        | refine genVC_stepG rfl (by with_unfolding_all rfl) fun K hK => ?_
        | refine parVC_nil ?_
        | refine parEVC_nil ?_
        | refine genVC_nil ?_
        | (refine AWP.cond (by with_unfolding_all rfl) (fun h => ?_) (fun h => ?_); all_goals (try simp only [Bool.not_eq_true', Bool.not_eq_false'] at h); (all_goals try first | (exact absurd h Bool.false_ne_true) | (exact absurd h.symm Bool.false_ne_true) | (exact absurd h (by decide))))
        | refine AWP.skip ?_
        | refine AWP.ret ?_
        | refine AWP.block ?_
        | refine AWP.exit ?_
        | (refine ⟨fun h => ?_, fun h => ?_⟩ <;> (try simp only [Bool.not_eq_true', Bool.not_eq_false'] at h) <;> try simp only [h])
        | refine ⟨_, refTuple_c acc hlen, ?_⟩
        | (refine AWP.segP (id := 16) 6 mixed (by kernel_rfl) fun K hK => ?_; simp only [List.take_succ_cons, List.take_zero, List.drop_succ_cons, List.drop_zero])
        | refine AWP.parR mixed (by kernel_rfl) fun K hK => ?_
        | refine ⟨(by kernel_rfl : depB _ _ _ = true), ?_⟩
        | refine Or.inl ?_)
      | (clear hK K))
    all_goals (simp only [hp])
    all_goals (first | refine ⟨rfl, fun x hx => ?_⟩ | refine ⟨trivial, fun x hx => ?_⟩ | refine fun x hx => ?_)
    all_goals (simp only [List.mem_singleton] at hx; subst hx; simp [pin])
end
end Go.Proofs.Ytmpfdejckbceiaa
set_option linter.unusedSimpArgs false
set_option linter.unusedVariables false
set_option maxRecDepth 20000
set_option maxHeartbeats 4000000
namespace Go.Proofs.Ytmpfdejckbceiaa
open Go Go.Sx
open Nat renaming reduceBEq → zA, reduceBNe → zB, reduceAdd → zC, reduceSub → zD, reduceMul → zE, reduceLeDiff → zF, reduceLT → zG, reduceEqDiff → zH
open Int renaming reduceToNat → zI, reduceLE → zJ, reduceLT → zK, reduceEq → zL
variable {f1 f0 : Src → Val × Src} {h : Nat}
theorem nil_lit : encVal nilVal = [.int .i64 5, .int .i64 0, .str [], .sl 7 [], .sl 2 [], .sl 9 [], .sl 1 []] := by rw [encVal_eq]; rfl
theorem cons_lit (a b : Val) : encVal (consVal a b) = [.int .i64 7, .int .i64 0, .str [], .sl 7 [encVal a, encVal b], .sl 2 [], .sl 9 [], .sl 1 []] := by rw [encVal_eq]; rfl
theorem nil_lab (ls : List (List UInt8)) : Vt { nilVal with labels := ls } = .st [.int .i64 5, .int .i64 0, .str [], .sl 7 [], .sl 2 [], .sl 9 [], .sl 1 (ls.map encStr)] := by rw [Vt, encVal_eq]; rfl
theorem cons_lab (a : Val) (ls : List (List UInt8)) : Vt { consVal a nilVal with labels := ls } = .st [.int .i64 7, .int .i64 0, .str [], .sl 7 [encVal a, [.int .i64 5, .int .i64 0, .str [], .sl 7 [], .sl 2 [], .sl 9 [], .sl 1 []]], .sl 2 [], .sl 9 [], .sl 1 (ls.map encStr)] := by
  rw [Vt, encVal_eq]; simp only [consVal, List.map_cons, List.map_nil, nil_lit]
theorem value_2 (H1 : ValueC f1 (h + 1)) (H0 : ValueC f0 h) (hf1 : ∀ s : Src, s.ok → (f1 s).2.ok) (hf0 : ∀ s : Src, s.ok → (f0 s).2.ok) (hh : h ≤ 1000) : ValK f1 f0 h 2 := by
  intro s hs hk
  have hb : decide (((h + 2 : Nat) : Int) ≤ 1) = false := by simp; omega
  have hs1 := ok_next hs 6
  have hw : IntKind.i64.wrap (((h + 2 : Nat) : Int) - 1) = ((h + 1 : Nat) : Int) := by rw [w64 (by omega)]; omega
  have hw0 : IntKind.i64.wrap (((h + 2 : Nat) : Int) - 2) = ((h : Nat) : Int) := by rw [w64 (by omega)]; omega
  have hbig : decide ((2 : Int) < ((h + 2 : Nat) : Int)) = decide (0 < h) := by rw [← Bool.coe_iff_coe]; simp only [decide_eq_true_eq]; omega
  cases hB : decide (0 < h) with
  | false =>
    rw [hB] at hbig
    rw [show valueK f1 f0 false 2 (nextS s 6) = (consVal (f1 (labelsV (nextS s 6)).2).1 { nilVal with labels := (labelsV (nextS s 6)).1 }, (f1 (labelsV (nextS s 6)).2).2) from rfl]
    have hc := refCons_c (f1 (labelsV (nextS s 6)).2).1 { nilVal with labels := (labelsV (nextS s 6)).1 }
    rw [nil_lab] at hc
    refine PCB.of_body Try.func44 rfl (by decide) Try.ntmps44 Try.results44 rfl rfl rfl ?_ rfl rfl
    repeat' (first
      | (simp only [go_sem, zA, zB, zC, zD, zE, zF, zG, reduceCtorEq, zH, zI, zJ, zK, zL, pin, hb, hk, hbig, nil_lit, hw]; all_goals fail_if_success guard_target =ₛ False)
      | (with_reducible first
        | refine seqVC_stepN rfl fun K hK => ?_
        | refine seqVC_stepG rfl (by with_unfolding_all rfl) fun K hK => ?_
        | refine seqVC_nil ?_
        | (refine hK _ _ _ ?_; clear hK K)
        | (refine hK _ _ ?_; clear hK K)
        | (refine hK _ ?_; clear hK K)
        | refine AWP.seq fun K hK => ?_
        | refine AWP.seqR (by kernel_rfl) fun K hK => ?_
        | refine parVC_stepN rfl fun K hK => ?_
        | refine parVC_stepG rfl (by with_unfolding_all rfl) fun K hK => ?_
        | refine parEVC_stepN rfl fun K hK => ?_
        | refine parEVC_stepG rfl (by with_unfolding_all rfl) fun K hK => ?_
        | refine genVC_stepN rfl fun K hK => ?_
        | refine genVC_stepG rfl (by with_unfolding_all rfl) fun K hK => ?_
        | refine parVC_nil ?_
        | refine parEVC_nil ?_
        | refine genVC_nil ?_
        | (refine AWP.cond (by with_unfolding_all rfl) (fun h => ?_) (fun h => ?_); all_goals (try simp only [Bool.not_eq_true', Bool.not_eq_false'] at h); (all_goals try first | (exact absurd h Bool.false_ne_true) | (exact absurd h.symm Bool.false_ne_true) | (exact absurd h (by decide))))
        | refine AWP.skip ?_
        | refine AWP.ret ?_
        | refine AWP.block ?_
        | refine AWP.exit ?_
        | (refine ⟨fun h => ?_, fun h => ?_⟩ <;> (try simp only [Bool.not_eq_true', Bool.not_eq_false'] at h) <;> try simp only [h])
        | refine ⟨_, refNil_c, ?_⟩
        | refine ⟨_, hc, ?_⟩)
      | (refine ⟨1000000, _, _, _, next_k 1000000 s hs 6 (by omega), rfl, ?_⟩)
      | (refine ⟨1000000, _, _, _, labels_k 1000000 _ hs1, rfl, ?_⟩)
      | (refine ⟨1000000, _, _, _, H1.k 1000000 _ (ok_labels hs1), rfl, ?_⟩)
      | (with_reducible first
        | (refine AWP.genR (id := 16) [3,6] [1000000,4] mixed (by kernel_rfl) fun K hK => ?_; simp only [Bx.outs, Bx.drop, cond_true, cond_false, Nat.reduceBEq, go_sem])
        | refine AWP.parR mixed (by kernel_rfl) fun K hK => ?_
        | refine ⟨(by kernel_rfl : depB _ _ _ = true), ?_⟩
        | refine Or.inl ?_)
      | (clear hK K))
    all_goals (first | refine ⟨rfl, fun x hx => ?_⟩ | refine ⟨trivial, fun x hx => ?_⟩ | refine fun x hx => ?_)
    all_goals (simp only [List.mem_singleton] at hx; subst hx; simp [pin])
  | true =>
    rw [hB] at hbig
    have hs2 := ok_next hs1 2
    cases hN : decide (nextV (nextS s 6) 2 = 1) with
    | false =>
      rw [show valueK f1 f0 true 2 (nextS s 6) = (consVal (f1 (labelsV (nextS (nextS s 6) 2)).2).1 { nilVal with labels := (labelsV (nextS (nextS s 6) 2)).1 }, (f1 (labelsV (nextS (nextS s 6) 2)).2).2) from by unfold valueK tailV lab; rw [hN]; rfl]
      have hc := refCons_c (f1 (labelsV (nextS (nextS s 6) 2)).2).1 { nilVal with labels := (labelsV (nextS (nextS s 6) 2)).1 }
      rw [nil_lab] at hc
      refine PCB.of_body Try.func44 rfl (by decide) Try.ntmps44 Try.results44 rfl rfl rfl ?_ rfl rfl
      repeat' (first
        | (simp only [go_sem, zA, zB, zC, zD, zE, zF, zG, reduceCtorEq, zH, zI, zJ, zK, zL, pin, hb, hk, hbig, hN, nil_lit, hw]; all_goals fail_if_success guard_target =ₛ False)
        | (with_reducible first
          | refine seqVC_stepN rfl fun K hK => ?_
          | refine seqVC_stepG rfl (by with_unfolding_all rfl) fun K hK => ?_
          | refine seqVC_nil ?_
          | (refine hK _ _ _ ?_; clear hK K)
          | (refine hK _ _ ?_; clear hK K)
          | (refine hK _ ?_; clear hK K)
          | refine AWP.seq fun K hK => ?_
          | refine AWP.seqR (by kernel_rfl) fun K hK => ?_
          | refine parVC_stepN rfl fun K hK => ?_
          | refine parVC_stepG rfl (by with_unfolding_all rfl) fun K hK => ?_
          | refine parEVC_stepN rfl fun K hK => ?_
          | refine parEVC_stepG rfl (by with_unfolding_all rfl) fun K hK => ?_
          | refine genVC_stepN rfl fun K hK => ?_
          | refine genVC_stepG rfl (by with_unfolding_all rfl) fun K hK => ?_
          | refine parVC_nil ?_
          | refine parEVC_nil ?_
          | refine genVC_nil ?_
          | (refine AWP.cond (by with_unfolding_all rfl) (fun h => ?_) (fun h => ?_); all_goals (try simp only [Bool.not_eq_true', Bool.not_eq_false'] at h); (all_goals try first | (exact absurd h Bool.false_ne_true) | (exact absurd h.symm Bool.false_ne_true) | (exact absurd h (by decide))))
          | refine AWP.skip ?_
          | refine AWP.ret ?_
          | refine AWP.block ?_
          | refine AWP.exit ?_
          | (refine ⟨fun h => ?_, fun h => ?_⟩ <;> (try simp only [Bool.not_eq_true', Bool.not_eq_false'] at h) <;> try simp only [h])
          | refine ⟨_, refNil_c, ?_⟩
          | refine ⟨_, hc, ?_⟩)
        | (refine ⟨1000000, _, _, _, next_k 1000000 s hs 6 (by omega), rfl, ?_⟩)
        | (refine ⟨1000000, _, _, _, next_k 1000000 _ hs1 2 (by omega), rfl, ?_⟩)
        | (refine ⟨1000000, _, _, _, labels_k 1000000 _ hs2, rfl, ?_⟩)
        | (refine ⟨1000000, _, _, _, H1.k 1000000 _ (ok_labels hs2), rfl, ?_⟩)
        | (with_reducible first
          | (refine AWP.genR (id := 16) [3,6] [1000000,4] mixed (by kernel_rfl) fun K hK => ?_; simp only [Bx.outs, Bx.drop, cond_true, cond_false, Nat.reduceBEq, go_sem])
          | refine AWP.parR mixed (by kernel_rfl) fun K hK => ?_
          | refine ⟨(by kernel_rfl : depB _ _ _ = true), ?_⟩
          | refine Or.inl ?_)
        | (clear hK K))
      all_goals (first | refine ⟨rfl, fun x hx => ?_⟩ | refine ⟨trivial, fun x hx => ?_⟩ | refine fun x hx => ?_)
      all_goals (simp only [List.mem_singleton] at hx; subst hx; simp [pin])
    | true =>
      have hs3 := hf0 _ hs2
      rw [show valueK f1 f0 true 2 (nextS s 6) = (consVal (f1 (labelsV (f0 (nextS (nextS s 6) 2)).2).2).1 { consVal (f0 (nextS (nextS s 6) 2)).1 nilVal with labels := (labelsV (f0 (nextS (nextS s 6) 2)).2).1 }, (f1 (labelsV (f0 (nextS (nextS s 6) 2)).2).2).2) from by unfold valueK tailV lab; rw [hN]; rfl]
      have hc := refCons_c (f1 (labelsV (f0 (nextS (nextS s 6) 2)).2).2).1 { consVal (f0 (nextS (nextS s 6) 2)).1 nilVal with labels := (labelsV (f0 (nextS (nextS s 6) 2)).2).1 }
      rw [cons_lab] at hc
      have hc0 := refCons_c (f0 (nextS (nextS s 6) 2)).1 nilVal
      rw [Vt, Vt, Vt, nil_lit] at hc0
      refine PCB.of_body Try.func44 rfl (by decide) Try.ntmps44 Try.results44 rfl rfl rfl ?_ rfl rfl
      repeat' (first
        | (simp only [go_sem, zA, zB, zC, zD, zE, zF, zG, reduceCtorEq, zH, zI, zJ, zK, zL, pin, hb, hk, hbig, hN, nil_lit, cons_lit (f0 (nextS (nextS s 6) 2)).1 nilVal, hw, hw0]; all_goals fail_if_success guard_target =ₛ False)
        | (with_reducible first
          | refine seqVC_stepN rfl fun K hK => ?_
          | refine seqVC_stepG rfl (by with_unfolding_all rfl) fun K hK => ?_
          | refine seqVC_nil ?_
          | (refine hK _ _ _ ?_; clear hK K)
          | (refine hK _ _ ?_; clear hK K)
          | (refine hK _ ?_; clear hK K)
          | refine AWP.seq fun K hK => ?_
          | refine AWP.seqR (by kernel_rfl) fun K hK => ?_
          | refine parVC_stepN rfl fun K hK => ?_
          | refine parVC_stepG rfl (by with_unfolding_all rfl) fun K hK => ?_
          | refine parEVC_stepN rfl fun K hK => ?_
          | refine parEVC_stepG rfl (by with_unfolding_all rfl) fun K hK => ?_
          | refine genVC_stepN rfl fun K hK => ?_
          | refine genVC_stepG rfl (by with_unfolding_all rfl) fun K hK => ?_
          | refine parVC_nil ?_
          | refine parEVC_nil ?_
          | refine genVC_nil ?_
          | (refine AWP.cond (by with_unfolding_all rfl) (fun h => ?_) (fun h => ?_); all_goals (try simp only [Bool.not_eq_true', Bool.not_eq_false'] at h); (all_goals try first | (exact absurd h Bool.false_ne_true) | (exact absurd h.symm Bool.false_ne_true) | (exact absurd h (by decide))))
          | refine AWP.skip ?_
          | refine AWP.ret ?_
          | refine AWP.block ?_
          | refine AWP.exit ?_
          | (refine ⟨fun h => ?_, fun h => ?_⟩ <;> (try simp only [Bool.not_eq_true', Bool.not_eq_false'] at h) <;> try simp only [h])
          | refine ⟨_, refNil_c, ?_⟩
          | refine ⟨_, hc, ?_⟩
          | refine ⟨_, hc0, ?_⟩)
        | (refine ⟨1000000, _, _, _, next_k 1000000 s hs 6 (by omega), rfl, ?_⟩)
        | (refine ⟨1000000, _, _, _, next_k 1000000 _ hs1 2 (by omega), rfl, ?_⟩)
        | (refine ⟨1000000, _, _, _, H0.k 1000000 _ hs2, rfl, ?_⟩)
        | (refine ⟨1000000, _, _, _, labels_k 1000000 _ hs3, rfl, ?_⟩)
        | (refine ⟨1000000, _, _, _, H1.k 1000000 _ (ok_labels hs3), rfl, ?_⟩)
        | (with_reducible first
          | (refine AWP.genR (id := 16) [3,6] [1000000,4] mixed (by kernel_rfl) fun K hK => ?_; simp only [Bx.outs, Bx.drop, cond_true, cond_false, Nat.reduceBEq, go_sem])
          | refine AWP.parR mixed (by kernel_rfl) fun K hK => ?_
          | refine ⟨(by kernel_rfl : depB _ _ _ = true), ?_⟩
          | refine Or.inl ?_)
        | (clear hK K))
      all_goals (first | refine ⟨rfl, fun x hx => ?_⟩ | refine ⟨trivial, fun x hx => ?_⟩ | refine fun x hx => ?_)
      all_goals (simp only [List.mem_singleton] at hx; subst hx; simp [pin])
theorem value_3 (H1 : ValueC f1 (h + 1)) (hf1 : ∀ s : Src, s.ok → (f1 s).2.ok) (hh : h ≤ 1000) : ValK f1 f0 h 3 := by
  intro s hs hk
  have hb : decide (((h + 2 : Nat) : Int) ≤ 1) = false := by simp; omega
  have hs1 := ok_next hs 6
  have hw : IntKind.i64.wrap (((h + 2 : Nat) : Int) - 1) = ((h + 1 : Nat) : Int) := by rw [w64 (by omega)]; omega
  have hv := nextV_in (nextS s 6) (n := 3) (by omega)
  obtain ⟨n, hn⟩ := Int.eq_ofNat_of_zero_le hv.1
  rw [show valueK f1 f0 (decide (0 < h)) 3 (nextS s 6) = (bif decide ((mapV (pairM f1 n (nextS (nextS s 6) 3)).1.1 (pairM f1 n (nextS (nextS s 6) 3)).1.2).2 = 0) then ((mapV (pairM f1 n (nextS (nextS s 6) 3)).1.1 (pairM f1 n (nextS (nextS s 6) 3)).1.2).1, (pairM f1 n (nextS (nextS s 6) 3)).2) else leafV (pairM f1 n (nextS (nextS s 6) 3)).2) from by unfold valueK; rw [hn]; rfl]
  refine PCB.of_body Try.func44 rfl (by decide) Try.ntmps44 Try.results44 rfl rfl rfl ?_ rfl rfl
  repeat' (first
    | (simp only [go_sem, zA, zB, zC, zD, zE, zF, zG, reduceCtorEq, zH, zI, zJ, zK, zL, pin, hb, hk, hn]; all_goals fail_if_success guard_target =ₛ False)
    | (with_reducible first
      | refine seqVC_stepN rfl fun K hK => ?_
      | refine seqVC_stepG rfl (by with_unfolding_all rfl) fun K hK => ?_
      | refine seqVC_nil ?_
      | (refine hK _ _ _ ?_; clear hK K)
      | (refine hK _ _ ?_; clear hK K)
      | (refine hK _ ?_; clear hK K)
      | refine AWP.seq fun K hK => ?_
      | refine AWP.seqR (by kernel_rfl) fun K hK => ?_
      | refine parVC_stepN rfl fun K hK => ?_
      | refine parVC_stepG rfl (by with_unfolding_all rfl) fun K hK => ?_
      | refine parEVC_stepN rfl fun K hK => ?_
      | refine parEVC_stepG rfl (by with_unfolding_all rfl) fun K hK => ?_
      | refine genVC_stepN rfl fun K hK => ?_
      | refine genVC_stepG rfl (by with_unfolding_all rfl) fun K hK => ?_
      | refine parVC_nil ?_
      | refine parEVC_nil ?_
      | refine genVC_nil ?_
      | (refine AWP.cond (by with_unfolding_all rfl) (fun h => ?_) (fun h => ?_); all_goals (try simp only [Bool.not_eq_true', Bool.not_eq_false'] at h); (all_goals try first | (exact absurd h Bool.false_ne_true) | (exact absurd h.symm Bool.false_ne_true) | (exact absurd h (by decide))))
      | refine AWP.skip ?_
      | refine AWP.ret ?_
      | refine AWP.block ?_
      | refine AWP.exit ?_
      | (refine ⟨fun h => ?_, fun h => ?_⟩ <;> (try simp only [Bool.not_eq_true', Bool.not_eq_false'] at h) <;> try simp only [h]))
    | (refine ⟨1000000, _, _, _, next_k 1000000 s hs 6 (by omega), rfl, ?_⟩)
    | (refine ⟨1000000, _, _, _, next_k 1000000 _ hs1 3 (by omega), rfl, ?_⟩)
    | (with_reducible first
      | (refine AWP.segP (id := 16) 6 mixed (by kernel_rfl) fun K hK => ?_; simp only [List.take_succ_cons, List.take_zero, List.drop_succ_cons, List.drop_zero])
      | refine AWP.parR mixed (by kernel_rfl) fun K hK => ?_
      | refine ⟨(by kernel_rfl : depB _ _ _ = true), ?_⟩
      | refine Or.inl ?_)
    | (clear hK K))
  refine AWP.gh (Gh.nilrow 8 901 rfl rfl rfl rfl) ?_
  refine AWP.gh (Gh.nilrow 9 902 rfl rfl rfl rfl) ?_
  refine AWP.loopF (X := Nat × Src × List KeyD × List Val) (fun x => [(0, Sp 1000000), (8, .one (.own 901 x.2.2.1.length)), (9, .one (.own 902 x.2.2.2.length)), (10, I .i64 x.1)]) (fun x => [(1000000, srcB x.2.1), (901, .row 2 (x.2.2.1.map encKey)), (902, .row 7 (x.2.2.2.map encVal))]) [1, 4] [4] (fun x => x.1 + x.2.2.1.length ≤ 1000 ∧ x.2.2.1.length = x.2.2.2.length ∧ x.2.1.ok ∧ pairM f1 n (nextS (nextS s 6) 3) = ((x.2.2.1 ++ (pairM f1 x.1 x.2.1).1.1, x.2.2.2 ++ (pairM f1 x.1 x.2.1).1.2), (pairM f1 x.1 x.2.1).2)) (fun x => x.1) ((n, nextS (nextS s 6) 3, [], [])) (by simp only [go_sem, zA, zB, zC, zD, zE, zF, zG, reduceCtorEq, zH, zI, zJ, zK, zL]; exact Gh.to [] (by repeat (first | exact trivial | refine ⟨rfl, ?_⟩ | refine ⟨by (simp only [go_sem, zA, zB, zC, zD, zE, zF, zG, reduceCtorEq, zH, zI, zJ, zK, zL, List.length_append, List.length_map, List.length_cons, List.length_nil, Nat.zero_add]) <;> rfl, ?_⟩)) (by repeat (first | exact trivial | refine ⟨rfl, ?_⟩ | refine ⟨by (simp only [go_sem, zA, zB, zC, zD, zE, zF, zG, reduceCtorEq, zH, zI, zJ, zK, zL, List.length_append, List.length_map, List.length_cons, List.length_nil, Nat.zero_add]) <;> rfl, ?_⟩)) rfl rfl rfl) ?_ ?_
  · exact ⟨by simp; omega, rfl, ok_next hs1 3, by simp⟩
  rintro ⟨m, t, ak, av⟩ ⟨hl, hkv, ht, hp⟩
  simp only at hl hkv ht hp
  simp only [go_sem, zA, zB, zC, zD, zE, zF, zG, reduceCtorEq, zH, zI, zJ, zK, zL]
  cases m with
  | succ m =>
    rw [pairM_step] at hp
    have hw2 : IntKind.i64.wrap (((m + 1 : Nat) : Int) - 1) = (m : Int) := wrap_pred_nat (by omega)
    repeat' (first
      | (simp only [go_sem, zA, zB, zC, zD, zE, zF, zG, reduceCtorEq, zH, zI, zJ, zK, zL, pin, List.length_map, dec_pos, hw, hw2, val_snoc, key_snoc]; all_goals fail_if_success guard_target =ₛ False)
      | (with_reducible first
        | refine seqVC_stepN rfl fun K hK => ?_
        | refine seqVC_stepG rfl (by with_unfolding_all rfl) fun K hK => ?_
        | refine seqVC_nil ?_
        | (refine hK _ _ _ ?_; clear hK K)
        | (refine hK _ _ ?_; clear hK K)
        | (refine hK _ ?_; clear hK K)
        | refine AWP.seq fun K hK => ?_
        | refine AWP.seqR (by kernel_rfl) fun K hK => ?_
        | refine parVC_stepN rfl fun K hK => ?_
        | refine parVC_stepG rfl (by with_unfolding_all rfl) fun K hK => ?_
        | refine parEVC_stepN rfl fun K hK => ?_
        | refine parEVC_stepG rfl (by with_unfolding_all rfl) fun K hK => ?_
        | refine genVC_stepN rfl fun K hK => ?_
        | refine genVC_stepG rfl (by with_unfolding_all rfl) fun K hK => ?_
        | refine parVC_nil ?_
        | refine parEVC_nil ?_
        | refine genVC_nil ?_
        | (refine AWP.cond (by with_unfolding_all rfl) (fun h => ?_) (fun h => ?_); all_goals (try simp only [Bool.not_eq_true', Bool.not_eq_false'] at h); (all_goals try first | (exact absurd h Bool.false_ne_true) | (exact absurd h.symm Bool.false_ne_true) | (exact absurd h (by decide))))
        | refine AWP.skip ?_
        | refine AWP.ret ?_
        | refine AWP.block ?_
        | refine AWP.exit ?_
        | (refine ⟨fun h => ?_, fun h => ?_⟩ <;> (try simp only [Bool.not_eq_true', Bool.not_eq_false'] at h) <;> try simp only [h])
        | (refine ⟨(by first | omega | (simp only [List.length_append, List.length_map, List.length_take, List.length_drop, List.length_cons, List.length_nil, List.length_replicate]; omega) : _ ≤ _), ?_⟩)
        | refine ⟨by omega, by omega, ?_⟩)
      | (refine ⟨1000000, _, _, _, key_k 1000000 t ht, rfl, ?_⟩)
      | (refine ⟨1000000, _, _, _, H1.k 1000000 _ (ok_key ht), rfl, ?_⟩)
      | (with_reducible first
        | (refine AWP.segP (id := 16) 6 mixed (by kernel_rfl) fun K hK => ?_; simp only [List.take_succ_cons, List.take_zero, List.drop_succ_cons, List.drop_zero])
        | refine AWP.parR mixed (by kernel_rfl) fun K hK => ?_
        | refine ⟨(by kernel_rfl : depB _ _ _ = true), ?_⟩
        | refine Or.inl ?_)
      | (clear hK K))
    all_goals (refine ⟨(m, (f1 (keyV t).2).2, ak ++ [(keyV t).1], av ++ [(f1 (keyV t).2).1]), by simp only; omega, ⟨by simp; omega, by simp; omega, hf1 _ (ok_key ht), hp⟩, Gh.to [(901, 78), (902, 85)] (by repeat (first | exact trivial | refine ⟨rfl, ?_⟩ | refine ⟨by (simp only [go_sem, zA, zB, zC, zD, zE, zF, zG, reduceCtorEq, zH, zI, zJ, zK, zL, List.length_append, List.length_map, List.length_cons, List.length_nil, Nat.zero_add]) <;> rfl, ?_⟩)) (by repeat (first | exact trivial | refine ⟨rfl, ?_⟩ | refine ⟨by (simp only [go_sem, zA, zB, zC, zD, zE, zF, zG, reduceCtorEq, zH, zI, zJ, zK, zL, List.length_append, List.length_map, List.length_cons, List.length_nil, Nat.zero_add]) <;> rfl, ?_⟩)) rfl rfl rfl⟩)
  | zero =>
    rw [pairM, List.append_nil, List.append_nil] at hp
    have h0 : decide ((0 : Int) < ((0 : Nat) : Int)) = false := by simp
    have hlen : ak.length ≤ 1000000 := by omega
    cases hm : decide ((mapV ak av).2 = 0)
    all_goals
      repeat' (first
        | (simp only [go_sem, zA, zB, zC, zD, zE, zF, zG, reduceCtorEq, zH, zI, zJ, zK, zL, pin, h0, hm, List.length_map]; all_goals fail_if_success guard_target =ₛ False)
        | (with_reducible first
          | refine seqVC_stepN rfl fun K hK => ?_
          | refine seqVC_stepG rfl (by with_unfolding_all rfl) fun K hK => ?_
          | refine seqVC_nil ?_
          | (refine hK _ _ _ ?_; clear hK K)
          | (refine hK _ _ ?_; clear hK K)
          | (refine hK _ ?_; clear hK K)
          | refine AWP.seq fun K hK => ?_
          | refine AWP.seqR (by kernel_rfl) fun K hK => ?_
          | refine parVC_stepN rfl fun K hK => ?_
          | refine parVC_stepG rfl (by with_unfolding_all rfl) fun K hK => ?_
          | refine parEVC_stepN rfl fun K hK => ?_
          | refine parEVC_stepG rfl (by with_unfolding_all rfl) fun K hK => ?_
          | refine genVC_stepN rfl fun K hK => ?_
          | refine genVC_stepG rfl (by with_unfolding_all rfl) fun K hK => ?_
          | refine parVC_nil ?_
          | refine parEVC_nil ?_
          | refine genVC_nil ?_
          | (refine AWP.cond (by with_unfolding_all rfl) (fun h => ?_) (fun h => ?_); all_goals (try simp only [Bool.not_eq_true', Bool.not_eq_false'] at h); (all_goals try first | (exact absurd h Bool.false_ne_true) | (exact absurd h.symm Bool.false_ne_true) | (exact absurd h (by decide))))
          | refine AWP.skip ?_
          | refine AWP.ret ?_
          | refine AWP.block ?_
          | refine AWP.exit ?_
          | (refine ⟨fun h => ?_, fun h => ?_⟩ <;> (try simp only [Bool.not_eq_true', Bool.not_eq_false'] at h) <;> try simp only [h])
          | refine ⟨_, refMap_c ak av hlen, ?_⟩)
        | (refine ⟨1000000, _, _, _, leaf_k 1000000 t ht, rfl, ?_⟩)
        | (with_reducible first
          | (refine AWP.segP (id := 16) 6 mixed (by kernel_rfl) fun K hK => ?_; simp only [List.take_succ_cons, List.take_zero, List.drop_succ_cons, List.drop_zero])
          | refine AWP.parR mixed (by kernel_rfl) fun K hK => ?_
          | refine ⟨(by kernel_rfl : depB _ _ _ = true), ?_⟩
          | refine Or.inl ?_)
        | (clear hK K))
    all_goals (simp only [hp, hm, cond_true, cond_false])
    all_goals (first | refine ⟨rfl, fun x hx => ?_⟩ | refine ⟨trivial, fun x hx => ?_⟩ | refine fun x hx => ?_)
    all_goals (simp only [List.mem_singleton] at hx; subst hx; simp [pin])
theorem ent_snoc (l : List Ent) (x : Ent) : l.map encEnt ++ [encEnt x] = (l ++ [x]).map encEnt := by simp
theorem entry_k (H : ValueC f1 h) (hf : ∀ s : Src, s.ok → (f1 s).2.ok) (n : Nat) (hn : n ≤ 1000) (k : Nat) (s : Src) (hs : s.ok) : PCBk Try.prog 73 [Sp k, I .i64 n, I .i64 h] k (srcB s) (.st (encEnt (entryV f1 n s).1)) (srcB (entryV f1 n s).2) := PCBk.mk k (entry_c H hf n hn s hs)
theorem value_4 (H1 : ValueC f1 (h + 1)) (hf1 : ∀ s : Src, s.ok → (f1 s).2.ok) (hh : h ≤ 1000) : ValK f1 f0 h 4 := by
  intro s hs hk
  have hb : decide (((h + 2 : Nat) : Int) ≤ 1) = false := by simp; omega
  have hs1 := ok_next hs 6
  have hw : IntKind.i64.wrap (((h + 2 : Nat) : Int) - 1) = ((h + 1 : Nat) : Int) := by rw [w64 (by omega)]; omega
  have hv := nextV_in (nextS s 6) (n := 3) (by omega)
  have hv2 := nextV_in (nextS (nextS s 6) 3) (n := 3) (by omega)
  obtain ⟨n, hn⟩ := Int.eq_ofNat_of_zero_le hv.1
  obtain ⟨c, hc⟩ := Int.eq_ofNat_of_zero_le hv2.1
  rw [show valueK f1 f0 (decide (0 < h)) 4 (nextS s 6) = (bif decide ((fnV n (listM (entryV f1 n) c (nextS (nextS (nextS s 6) 3) 3)).1).2 = 0) then ((fnV n (listM (entryV f1 n) c (nextS (nextS (nextS s 6) 3) 3)).1).1, (listM (entryV f1 n) c (nextS (nextS (nextS s 6) 3) 3)).2) else leafV (listM (entryV f1 n) c (nextS (nextS (nextS s 6) 3) 3)).2) from by unfold valueK; rw [hn, hc]; rfl]
  have hn3 : n ≤ 1000 := by omega
  refine PCB.of_body Try.func44 rfl (by decide) Try.ntmps44 Try.results44 rfl rfl rfl ?_ rfl rfl
  repeat' (first
    | (simp only [go_sem, zA, zB, zC, zD, zE, zF, zG, reduceCtorEq, zH, zI, zJ, zK, zL, pin, hb, hk, hn, hc]; all_goals fail_if_success guard_target =ₛ False)
    | (with_reducible first
      | refine seqVC_stepN rfl fun K hK => ?_
      | refine seqVC_stepG rfl (by with_unfolding_all rfl) fun K hK => ?_
      | refine seqVC_nil ?_
      | (refine hK _ _ _ ?_; clear hK K)
      | (refine hK _ _ ?_; clear hK K)
      | (refine hK _ ?_; clear hK K)
      | refine AWP.seq fun K hK => ?_
      | refine AWP.seqR (by kernel_rfl) fun K hK => ?_
      | refine parVC_stepN rfl fun K hK => ?_
      | refine parVC_stepG rfl (by with_unfolding_all rfl) fun K hK => ?_
      | refine parEVC_stepN rfl fun K hK => ?_
      | refine parEVC_stepG rfl (by with_unfolding_all rfl) fun K hK => ?_
      | refine genVC_stepN rfl fun K hK => ?_
      | refine genVC_stepG rfl (by with_unfolding_all rfl) fun K hK => ?_
      | refine parVC_nil ?_
      | refine parEVC_nil ?_
      | refine genVC_nil ?_
      | (refine AWP.cond (by with_unfolding_all rfl) (fun h => ?_) (fun h => ?_); all_goals (try simp only [Bool.not_eq_true', Bool.not_eq_false'] at h); (all_goals try first | (exact absurd h Bool.false_ne_true) | (exact absurd h.symm Bool.false_ne_true) | (exact absurd h (by decide))))
      | refine AWP.skip ?_
      | refine AWP.ret ?_
      | refine AWP.block ?_
      | refine AWP.exit ?_
      | (refine ⟨fun h => ?_, fun h => ?_⟩ <;> (try simp only [Bool.not_eq_true', Bool.not_eq_false'] at h) <;> try simp only [h]))
    | (refine ⟨1000000, _, _, _, next_k 1000000 s hs 6 (by omega), rfl, ?_⟩)
    | (refine ⟨1000000, _, _, _, next_k 1000000 _ hs1 3 (by omega), rfl, ?_⟩)
    | (refine ⟨1000000, _, _, _, next_k 1000000 _ (ok_next hs1 3) 3 (by omega), rfl, ?_⟩)
    | (with_reducible first
      | (refine AWP.segP (id := 16) 6 mixed (by kernel_rfl) fun K hK => ?_; simp only [List.take_succ_cons, List.take_zero, List.drop_succ_cons, List.drop_zero])
      | refine AWP.parR mixed (by kernel_rfl) fun K hK => ?_
      | refine ⟨(by kernel_rfl : depB _ _ _ = true), ?_⟩
      | refine Or.inl ?_)
    | (clear hK K))
  refine AWP.gh (Gh.nilrow 14 903 rfl rfl rfl rfl) ?_
  refine AWP.loopF (X := Nat × Src × List Ent) (fun x => [(0, Sp 1000000), (14, .one (.own 903 x.2.2.length)), (15, I .i64 x.1)]) (fun x => [(1000000, srcB x.2.1), (903, .row 9 (x.2.2.map encEnt))]) [1, 4, 13] [4] (fun x => x.1 + x.2.2.length ≤ 1000 ∧ x.2.1.ok ∧ listM (entryV f1 n) c (nextS (nextS (nextS s 6) 3) 3) = (x.2.2 ++ (listM (entryV f1 n) x.1 x.2.1).1, (listM (entryV f1 n) x.1 x.2.1).2)) (fun x => x.1) ((c, nextS (nextS (nextS s 6) 3) 3, [])) (by simp only [go_sem, zA, zB, zC, zD, zE, zF, zG, reduceCtorEq, zH, zI, zJ, zK, zL]; exact Gh.to [] (by repeat (first | exact trivial | refine ⟨rfl, ?_⟩ | refine ⟨by (simp only [go_sem, zA, zB, zC, zD, zE, zF, zG, reduceCtorEq, zH, zI, zJ, zK, zL, List.length_append, List.length_map, List.length_cons, List.length_nil, Nat.zero_add]) <;> rfl, ?_⟩)) (by repeat (first | exact trivial | refine ⟨rfl, ?_⟩ | refine ⟨by (simp only [go_sem, zA, zB, zC, zD, zE, zF, zG, reduceCtorEq, zH, zI, zJ, zK, zL, List.length_append, List.length_map, List.length_cons, List.length_nil, Nat.zero_add]) <;> rfl, ?_⟩)) rfl rfl rfl) ?_ ?_
  · exact ⟨by simp; omega, ok_next (ok_next hs1 3) 3, by simp⟩
  rintro ⟨m, t, acc⟩ ⟨hl, ht, hp⟩
  simp only at hl ht hp
  simp only [go_sem, zA, zB, zC, zD, zE, zF, zG, reduceCtorEq, zH, zI, zJ, zK, zL]
  cases m with
  | succ m =>
    rw [listM_step] at hp
    have hw2 : IntKind.i64.wrap (((m + 1 : Nat) : Int) - 1) = (m : Int) := wrap_pred_nat (by omega)
    repeat' (first
      | (simp only [go_sem, zA, zB, zC, zD, zE, zF, zG, reduceCtorEq, zH, zI, zJ, zK, zL, pin, List.length_map, dec_pos, hw, hw2, ent_snoc]; all_goals fail_if_success guard_target =ₛ False)
      | (with_reducible first
        | refine seqVC_stepN rfl fun K hK => ?_
        | refine seqVC_stepG rfl (by with_unfolding_all rfl) fun K hK => ?_
        | refine seqVC_nil ?_
        | (refine hK _ _ _ ?_; clear hK K)
        | (refine hK _ _ ?_; clear hK K)
        | (refine hK _ ?_; clear hK K)
        | refine AWP.seq fun K hK => ?_
        | refine AWP.seqR (by kernel_rfl) fun K hK => ?_
        | refine parVC_stepN rfl fun K hK => ?_
        | refine parVC_stepG rfl (by with_unfolding_all rfl) fun K hK => ?_
        | refine parEVC_stepN rfl fun K hK => ?_
        | refine parEVC_stepG rfl (by with_unfolding_all rfl) fun K hK => ?_
        | refine genVC_stepN rfl fun K hK => ?_
        | refine genVC_stepG rfl (by with_unfolding_all rfl) fun K hK => ?_
        | refine parVC_nil ?_
        | refine parEVC_nil ?_
        | refine genVC_nil ?_
        | (refine AWP.cond (by with_unfolding_all rfl) (fun h => ?_) (fun h => ?_); all_goals (try simp only [Bool.not_eq_true', Bool.not_eq_false'] at h); (all_goals try first | (exact absurd h Bool.false_ne_true) | (exact absurd h.symm Bool.false_ne_true) | (exact absurd h (by decide))))
        | refine AWP.skip ?_
        | refine AWP.ret ?_
        | refine AWP.block ?_
        | refine AWP.exit ?_
        | (refine ⟨fun h => ?_, fun h => ?_⟩ <;> (try simp only [Bool.not_eq_true', Bool.not_eq_false'] at h) <;> try simp only [h])
        | (refine ⟨(by first | omega | (simp only [List.length_append, List.length_map, List.length_take, List.length_drop, List.length_cons, List.length_nil, List.length_replicate]; omega) : _ ≤ _), ?_⟩)
        | refine ⟨by omega, by omega, ?_⟩)
      | (refine ⟨1000000, _, _, _, entry_k H1 hf1 n hn3 1000000 t ht, rfl, ?_⟩)
      | (with_reducible first
        | (refine AWP.segP (id := 16) 6 mixed (by kernel_rfl) fun K hK => ?_; simp only [List.take_succ_cons, List.take_zero, List.drop_succ_cons, List.drop_zero])
        | refine AWP.parR mixed (by kernel_rfl) fun K hK => ?_
        | refine ⟨(by kernel_rfl : depB _ _ _ = true), ?_⟩
        | refine Or.inl ?_)
      | (clear hK K))
    all_goals (refine ⟨(m, (entryV f1 n t).2, acc ++ [(entryV f1 n t).1]), by simp only; omega, ⟨by simp; omega, entry_ok hf1 n ht, hp⟩, Gh.to [(903, 112)] (by repeat (first | exact trivial | refine ⟨rfl, ?_⟩ | refine ⟨by (simp only [go_sem, zA, zB, zC, zD, zE, zF, zG, reduceCtorEq, zH, zI, zJ, zK, zL, List.length_append, List.length_map, List.length_cons, List.length_nil, Nat.zero_add]) <;> rfl, ?_⟩)) (by repeat (first | exact trivial | refine ⟨rfl, ?_⟩ | refine ⟨by (simp only [go_sem, zA, zB, zC, zD, zE, zF, zG, reduceCtorEq, zH, zI, zJ, zK, zL, List.length_append, List.length_map, List.length_cons, List.length_nil, Nat.zero_add]) <;> rfl, ?_⟩)) rfl rfl rfl⟩)
  | zero =>
    rw [listM, List.append_nil] at hp
    have h0 : decide ((0 : Int) < ((0 : Nat) : Int)) = false := by simp
    have hlen : acc.length ≤ 1000000 := by omega
    cases hm : decide ((fnV n acc).2 = 0)
    all_goals
      repeat' (first
        | (simp only [go_sem, zA, zB, zC, zD, zE, zF, zG, reduceCtorEq, zH, zI, zJ, zK, zL, pin, h0, hm, List.length_map]; all_goals fail_if_success guard_target =ₛ False)
        | (with_reducible first
          | refine seqVC_stepN rfl fun K hK => ?_
          | refine seqVC_stepG rfl (by with_unfolding_all rfl) fun K hK => ?_
          | refine seqVC_nil ?_
          | (refine hK _ _ _ ?_; clear hK K)
          | (refine hK _ _ ?_; clear hK K)
          | (refine hK _ ?_; clear hK K)
          | refine AWP.seq fun K hK => ?_
          | refine AWP.seqR (by kernel_rfl) fun K hK => ?_
          | refine parVC_stepN rfl fun K hK => ?_
          | refine parVC_stepG rfl (by with_unfolding_all rfl) fun K hK => ?_
          | refine parEVC_stepN rfl fun K hK => ?_
          | refine parEVC_stepG rfl (by with_unfolding_all rfl) fun K hK => ?_
          | refine genVC_stepN rfl fun K hK => ?_
          | refine genVC_stepG rfl (by with_unfolding_all rfl) fun K hK => ?_
          | refine parVC_nil ?_
          | refine parEVC_nil ?_
          | refine genVC_nil ?_
          | (refine AWP.cond (by with_unfolding_all rfl) (fun h => ?_) (fun h => ?_); all_goals (try simp only [Bool.not_eq_true', Bool.not_eq_false'] at h); (all_goals try first | (exact absurd h Bool.false_ne_true) | (exact absurd h.symm Bool.false_ne_true) | (exact absurd h (by decide))))
          | refine AWP.skip ?_
          | refine AWP.ret ?_
          | refine AWP.block ?_
          | refine AWP.exit ?_
          | (refine ⟨fun h => ?_, fun h => ?_⟩ <;> (try simp only [Bool.not_eq_true', Bool.not_eq_false'] at h) <;> try simp only [h])
          | refine ⟨_, refFunction_c n acc hlen, ?_⟩)
        | (refine ⟨1000000, _, _, _, leaf_k 1000000 t ht, rfl, ?_⟩)
        | (with_reducible first
          | (refine AWP.segP (id := 16) 6 mixed (by kernel_rfl) fun K hK => ?_; simp only [List.take_succ_cons, List.take_zero, List.drop_succ_cons, List.drop_zero])
          | refine AWP.parR mixed (by kernel_rfl) fun K hK => ?_
          | refine ⟨(by kernel_rfl : depB _ _ _ = true), ?_⟩
          | refine Or.inl ?_)
        | (clear hK K))
    all_goals (simp only [hp, hm, cond_true, cond_false])
    all_goals (first | refine ⟨rfl, fun x hx => ?_⟩ | refine ⟨trivial, fun x hx => ?_⟩ | refine fun x hx => ?_)
    all_goals (simp only [List.mem_singleton] at hx; subst hx; simp [pin])
theorem value_K (H1 : ValueC f1 (h + 1)) (H0 : ValueC f0 h) (hf1 : ∀ s : Src, s.ok → (f1 s).2.ok) (hf0 : ∀ s : Src, s.ok → (f0 s).2.ok) (hh : h ≤ 1000) : ValC (fun s => valueK f1 f0 (decide (0 < h)) (nextV s 6) (nextS s 6)) (h + 2) := by
  intro s hs
  have hv := nextV_in s (n := 6) (by omega)
  have hk : nextV s 6 = 0 ∨ nextV s 6 = 1 ∨ nextV s 6 = 2 ∨ nextV s 6 = 3 ∨ nextV s 6 = 4 ∨ nextV s 6 = 5 := by omega
  simp only
  rcases hk with hk | hk | hk | hk | hk | hk <;> rw [hk]
  · exact value_5 0 (.inl rfl) hh s hs hk
  · exact value_1 H1 hf1 hh s hs hk
  · exact value_2 H1 H0 hf1 hf0 hh s hs hk
  · exact value_3 H1 hf1 hh s hs hk
  · exact value_4 H1 hf1 hh s hs hk
  · exact value_5 5 (.inr rfl) hh s hs hk
theorem value_c : ∀ h : Nat, h ≤ 1000 → ValC (valueF h) h
  | 0, _ => value_leaf 0 (by omega)
  | 1, _ => value_leaf 1 (by omega)
  | h + 2, hh => value_K (full_c (value_c (h + 1) (by omega)) (ok_value (h + 1))) (full_c (value_c h (by omega)) (ok_value h)) (fun s hs => ok_full (h + 1) s hs) (fun s hs => ok_full h s hs) (by omega)
/-- the contract of Value -/
theorem sourceValue_c (h : Nat) (hh : h ≤ 1000) : ValueC (fullV h) h := full_c (value_c h hh) (ok_value h)
end Go.Proofs.Ytmpfdejckbceiaa
set_option linter.unusedVariables false
set_option linter.unusedSimpArgs false
namespace Go.Sx
variable {P : Program} {n : Nat} {σ : AS} {Q : Exit → AS → Prop}
theorem genMS_sound {κ : Kap} {M0 : Mem} {l : List Oper} {B0 : Bx} {t : Nat → T} {mk : Nat → Option (Nat × Res)} {env0 : Env} {Q' : Exit → Act → World → Prop}
    (hback : Back l) (hpairs : Pairs l) (hap : Apart mk B0) (hro : RowsOnly mk) (hlen : ∀ i p, mk i = some p → i < l.length)
    {L : Nat} {oL : Oper} {B' : Bx} (hL : l.length = L + 1) (hoL : l[L]? = some oL) (hdL : dstOk n oL = true) (hgL : oL.guard = none) (hdep : ∀ i, i < L → depB l L i = true) (hopL : OpE P oL (envA l t (fun _ => true) env0 L) (bxX mk B0 (fun _ => true) L) (t L) B')
    (hs : ∀ i o, i < L → l[i]? = some o → OSpecM P n l B0 o (envA l t (fun _ => true) env0 i) (t i) (mk i))
    (hfr : ∀ g k p, mk g = some p → g < k → k < l.length → (t k).fresh p.1 = true ∨ depB l k g = true)
    (hQ : ∀ a w, St κ M0 n ⟨envA l t (fun _ => true) env0 l.length, B'⟩ a w → Q' .normal a w) :
    ∀ (fuel : Nat) (listed : Array Bool) (a : Act) (w : World), cnt l listed = fuel → (MidM κ M0 n l t mk B0 env0 listed a w ∧ listed.getD L false = false) →
      wpAny P .any l.toArray Q' fuel listed a w := by
  have fin : ∀ (fuel : Nat) (listed : Array Bool) (a : Act) (w : World), listed.size = l.length → (∀ i, i < l.length → listed.getD i false = true) → St κ M0 n ⟨envA l t (fun _ => true) env0 l.length, B'⟩ a w → wpAny P .any l.toArray Q' fuel listed a w := by
    intro fuel listed a w hsz hall hst
    cases fuel with
    | zero => exact ⟨ready_none hsz hall, hQ a w hst⟩
    | succ fuel =>
      refine ⟨fun _ => hQ a w hst, fun i hi => ?_⟩
      exfalso
      rw [ready_none hsz hall] at hi
      cases hi
  intro fuel
  induction fuel with
  | zero =>
    intro listed a w hfuel ⟨hm, hxL⟩
    have hall := cnt_zero hfuel L (by omega)
    rw [hxL] at hall; cases hall
  | succ fuel ih =>
    intro listed a w hfuel ⟨hm, hxL⟩
    refine ⟨fun hr => (by have := ready_least hback hm.size hr L (by omega); rw [hxL] at this; cases this), fun i hi => ?_⟩
    obtain ⟨h0, oi, hoi, hall⟩ := mem_ready.1 hi
    have hil : i < l.length := by have := (Array.getElem?_eq_some_iff.1 hoi).1; simpa using this
    have hoi' : l[i]? = some oi := by simpa using hoi
    have hisz : i < listed.size := by rw [hm.size]; exact hil
    have hxi : listed.getD i false = false := by simp [hisz] at h0 ⊢; exact h0
    obtain ⟨M, ν, h1, h2, h3, h4, h7, h8⟩ := hm.st
    have hd : dstOk n oi = true := by
      by_cases hiL : i < L
      · exact (hs i oi hiL hoi').1
      · have : i = L := by omega
        subst this
        rw [hoL] at hoi'; cases hoi'; exact hdL
    have look : ∀ d, d ∈ oi.looksAt l.toArray → (envA l t (xs listed) env0 l.length).lookup d = (envA l t (fun _ => true) env0 i).lookup d := by
      intro d hdm
      rw [envA_skip l t (xs listed) env0 d i l.length (by omega) ?_, envA_same l t (xs listed) (fun _ => true) env0 d i ?_]
      · intro j o hj ho hod
        rcases hpairs j i o oi hj ho hoi' with ⟨e', he', hb', hon⟩ | hap
        · exact hon ▸ hall e' he' hb'
        · exact absurd hdm ((Oper.apart_spec hap).1 d hod)
      · intro j o hj hjl ho hod
        by_cases hji : i = j
        · subst hji; exact hxi
        · cases hxj : xs listed j with
          | false => rfl
          | true =>
            rcases hpairs i j oi o (by omega) hoi' ho with ⟨e', he', hb', hon⟩ | hap
            · have := hm.closed j o ho hxj e' he' hb'
              rw [hon, hxi] at this; cases this
            · exact absurd hdm ((Oper.apart_spec hap).2.2 d hod)
    have hclosed : Closed l (listed.setIfInBounds i true) := by
      intro j oj hj hx e' he' hb'
      by_cases hji : i = j
      · subst hji
        rw [hoi'] at hj; cases hj
        exact getD_set_true (hall e' he' hb')
      · rw [getD_set_ne false hji] at hx
        exact getD_set_true (hm.closed j oj hj hx e' he' hb')
    have hcount : cnt l (listed.setIfInBounds i true) = fuel := by
      have := cnt_set hm.size hil hxi; omega
    have after : ∀ (M' : Mem) (ν' : Nu) (v : Value) (w' : World), M.ext κ M' → EnvOk M ν' a.tmps (envA l t (xs listed) env0 l.length) → (t i).rep M' ν' v → Sat κ M' ν' (bxX mk B0 (xs (listed.setIfInBounds i true)) l.length) w' → (∀ k, pin ≤ k → ν' k = κ.nu k) →
        MidM κ M0 n l t mk B0 env0 (listed.setIfInBounds i true) (a.put oi.dst v) w' := by
      intro M' ν' v w' hle h4 hr hsat hpin
      refine ⟨by simpa using hm.size, hclosed, M', ν', h1.trans hle, by rw [Act.put_size]; exact h2, by rw [Act.put_defers']; exact h3, ?_, hsat, hpin⟩
      have hput := EnvOk.put (df := a.defers) (h4.mono hle.1) (dst := oi.dst) (v := v) (t := t i) (fun d he => by rw [h2]; exact dstOk_spec hd d he) hr
      intro k u hu
      refine hput k u ?_
      rw [putE_lookup]
      by_cases hk : oi.dst = some k
      · rw [if_pos hk]
        have e1 := envA_skip l t (xs (listed.setIfInBounds i true)) env0 k (i + 1) l.length (by omega) (fun j o hj hjl ho hod => by
          cases hxj : xs (listed.setIfInBounds i true) j with
          | false => rfl
          | true =>
            have hne : i ≠ j := by omega
            have hxj' : listed.getD j false = true := by rw [← getD_set_ne false hne]; exact hxj
            rcases hpairs i j oi o (by omega) hoi' ho with ⟨e', he', hb', hon⟩ | hap
            · have := hm.closed j o ho hxj' e' he' hb'
              rw [hon, hxi] at this; cases this
            · exact absurd hod ((Oper.apart_spec hap).2.1 k hk))
        rw [e1] at hu
        have hself : xs (listed.setIfInBounds i true) i = true := by simp [xs, hisz]
        rw [envA, hself] at hu
        simp only [cond_true, putE_lookup, hoi', Option.bind_some, hk, if_true] at hu
        exact hu
      · rw [if_neg hk]
        have e2 := envA_same l t (xs (listed.setIfInBounds i true)) (xs listed) env0 k l.length (fun j o hj ho hod => by
          have hne : i ≠ j := fun h => by subst h; rw [hoi'] at ho; cases ho; exact hk hod
          exact getD_set_ne false hne)
        rw [← e2]; exact hu
    have hon : EnvOn M ν a (envA l t (fun _ => true) env0 i) oi := by
      intro d u hdo hu
      refine h4 d u ?_
      rw [look d (looksAt_op hdo)]; exact hu
    have hgd : ∀ g want d u, oi.guard = some (g, want) → (l[g]?).bind (·.dst) = some d → (envA l t (fun _ => true) env0 i).lookup d = some u → u.rep M ν (a.tmps.getD d undef) := by
      intro g want d u hg hgd hu
      refine h4 d u ?_
      rw [look d (looksAt_guard hg hgd)]; exact hu
    by_cases hiL : i = L
    · subst hiL
      rw [hoL] at hoi'; cases hoi'
      have hlist : ∀ j, j < i → listed.getD j false = true := fun j hj => dep_of (hdep j hj) hoL hm.closed (fun e' he' hb' => hall e' he' hb')
      unfold wpOp
      rw [hoi]
      simp only []
      rw [if_pos (by simp [Region.wanted, hgL])]
      left
      have hbx : ∀ x ∈ bxX mk B0 (fun _ => true) i, x ∈ bxX mk B0 (xs listed) l.length := by
        intro x hx
        rcases mem_bxX.1 hx with h | ⟨j, hj, _, hk⟩
        · exact mem_bxX.2 (.inl h)
        · exact mem_bxX.2 (.inr ⟨j, by omega, hlist j hj, hk⟩)
      refine Oper.wp_mono_Q (Oper.wp_mono ?_ (hopL κ M ν a w hon (h7.drop hbx (nodup_bxX hap (nodup_B0 h7.nodup) _))))
      rintro a' w' ⟨v, M', rfl, hle, hr, hsat⟩
      have hall' : ∀ j, j < l.length → (listed.setIfInBounds i true).getD j false = true := by
        intro j hj
        by_cases hji : j = i
        · subst hji; simp [hisz]
        · exact getD_set_true (hlist j (by omega))
      refine fin _ _ _ _ (by simpa using hm.size) hall' ⟨M', ν, h1.trans hle, by rw [Act.put_size]; exact h2, by rw [Act.put_defers']; exact h3, ?_, hsat, h8⟩
      have hput := EnvOk.put (df := a.defers) (h4.mono hle.1) (dst := oL.dst) (v := v) (t := t i) (fun d he => by rw [h2]; exact dstOk_spec hd d he) hr
      intro k u hu
      refine hput k u ?_
      rw [putE_lookup]
      have e0 : envA l t (fun _ => true) env0 l.length = putE (envA l t (fun _ => true) env0 i) oL.dst (t i) := by
        rw [hL, envA]
        simp only [cond_true, hoL, Option.bind_some]
        try (cases oL.dst <;> rfl)
      have hup : (putE (envA l t (fun _ => true) env0 i) oL.dst (t i)).lookup k = some u := by rw [← e0]; exact hu
      rw [putE_lookup] at hup
      by_cases hk : oL.dst = some k
      · rw [if_pos hk] at hup ⊢; exact hup
      · rw [if_neg hk] at hup ⊢
        have e1 : envA l t (xs listed) env0 l.length = envA l t (xs listed) env0 i := by
          rw [hL, envA]
          have : xs listed i = false := hxL
          rw [this]; rfl
        rw [e1, envA_same l t (xs listed) (fun _ => true) env0 k i (fun j o hj _ _ => hlist j hj)]
        exact hup
    have hiL' : i < L := by omega
    have hspec := (hs i oi hiL' hoi').2
    have hxL' : (listed.setIfInBounds i true).getD L false = false := by rw [getD_set_ne false (by omega)]; exact hxL
    have hself : xs (listed.setIfInBounds i true) i = true := by simp [xs, hisz]
    have hold : ∀ j, i ≠ j → xs (listed.setIfInBounds i true) j = xs listed j := fun j hj => getD_set_ne false hj
    have nod : ((bxX mk B0 (xs (listed.setIfInBounds i true)) l.length).map (·.1)).Nodup := nodup_bxX hap (nodup_B0 h7.nodup) _
    have same : mk i = none → ∀ x ∈ bxX mk B0 (xs (listed.setIfInBounds i true)) l.length, x ∈ bxX mk B0 (xs listed) l.length := by
      intro hk x hx
      rcases mem_bxX.1 hx with h | ⟨j, hj, hX, hkj⟩
      · exact mem_bxX.2 (.inl h)
      · have hne : i ≠ j := fun e => by subst e; rw [hk] at hkj; cases hkj
        exact mem_bxX.2 (.inr ⟨j, hj, by rw [← hold j hne]; exact hX, hkj⟩)
    unfold wpOp
    rw [hoi]
    simp only []
    rcases hspec with ⟨hg, ⟨hjn, hop⟩ | ⟨k, r, hjn, hkp, hfk, hfB0, hop⟩⟩ | ⟨hg, ht, hjn⟩
    · rw [if_pos (wanted_of hg hgd)]
      left
      refine Oper.wp_mono_Q (Oper.wp_mono ?_ (hop κ M ν a w _ (fun x hx => mem_bxX.2 (.inl hx)) hon h7))
      rintro a' w' ⟨v, M', rfl, hle, hr, hsat⟩
      exact ih _ _ _ hcount ⟨after M' ν v w' hle h4 hr (hsat.drop (same hjn) nod) h8, hxL'⟩
    · rw [if_pos (wanted_of hg hgd)]
      left
      have hfB : Bx.fresh k (bxX mk B0 (xs listed) l.length) = true := by
        refine bx_fresh_of fun x hx => ?_
        rcases mem_bxX.1 hx with h | ⟨j, hj, hX, hkj⟩
        · exact Bx.fresh_spec (j := x.1) (r := x.2) hfB0 h
        · have hne : j ≠ i := fun e => by subst e; unfold xs at hX; rw [hxi] at hX; cases hX
          refine ⟨hap.1 j i x _ hkj hjn hne, fun cs e => ?_⟩
          exact hro j x hkj k cs e
      refine Oper.wp_mono_Q (Oper.wp_mono ?_ (hop _ (fun x hx => mem_bxX.2 (.inl hx)) hfB κ M ν a w hon h7))
      rintro a' w' ⟨v, M', ν', rfl, hle, hν, hr, hsat⟩
      obtain ⟨hf0, hft⟩ := fresh_envA i hfk
      have hfresh : Env.fresh k (envA l t (xs listed) env0 l.length) = true := by
        refine envA_fresh' hf0 l.length (fun q hq hx hdq => ?_)
        rcases Nat.lt_trichotomy q i with h | h | h
        · exact hft q h hdq
        · subst h; unfold xs at hx; rw [hxi] at hx; cases hx
        · rcases hfr i q _ hjn h hq with h' | h'
          · exact h'
          · exfalso
            have := dep_of h' (List.getElem?_eq_getElem hq) hm.closed (fun e' he' hb' => hm.closed q l[q] (List.getElem?_eq_getElem hq) hx e' he' hb')
            rw [hxi] at this; cases this
      refine ih _ _ _ hcount ⟨after M' ν' v w' hle (h4.fresh hfresh hν) hr (hsat.drop ?_ nod) (fun q hq => by rw [hν q (by omega)]; exact h8 q hq), hxL'⟩
      intro x hx
      rcases mem_bxX.1 hx with h | ⟨j, hj, hX, hkj⟩
      · exact List.mem_cons_of_mem _ (mem_bxX.2 (.inl h))
      · by_cases hne : i = j
        · subst hne; rw [hjn] at hkj; cases hkj; exact List.mem_cons_self
        · exact List.mem_cons_of_mem _ (mem_bxX.2 (.inr ⟨j, hj, by rw [← hold j hne]; exact hX, hkj⟩))
    · rw [unwanted_of hg hgd]
      simp only [Bool.false_eq_true, if_false]
      refine ih _ _ _ hcount ⟨after M ν undef w (Mem.ext.refl κ M) h4 (by rw [ht]; simp [undefT, T.rep, Cell.rep, C.rep]) (h7.drop (same hjn) nod) h8, hxL'⟩


def lastVC (P : Program) : List Oper → Env → Bx → (Env → Bx → Prop) → Prop
  | [o], env, B, K => (match o.op with
    | .store t x y => vStore P t (ev P env 0 x) (ev P env t y) B (fun B' => K (putE env o.dst undefT) B')
    | _ => False)
  | _, _, _, _ => False
def genMSOk (n : Nat) (l : List Oper) (m : Nat) : Bool := genMOk n l && (l.length == m + 1 && ((List.range m).all (fun i => depB l m i) && (match l[m]? with | some o => o.guard.isNone | none => false)))
/-- THE RULE: es: the operations that make rows or boxes; the last operation, that waits for all others, stores -/
theorem AWP.genMS {id : Nat} {l : List Oper} {env : Env} {B : Bx} (es : List Nat) (m : Nat) (hm : P.follows .mixedOrders = true) (hl : genMSOk n l m = true)
    (h : ∀ K : Env → Bx → Prop, (∀ e b, Q .normal ⟨e, b⟩ → K e b) → genVCM P l es B 0 [] (l.take m) env B fun env B => lastVC P (l.drop m) env B K) : AWP P n (.region id l.toArray true) ⟨env, B⟩ Q := by
  simp only [genMSOk, genMOk, Bool.and_eq_true, beq_iff_eq] at hl
  obtain ⟨⟨hlex, hds⟩, hlen1, hdep, hgd⟩ := hl
  have hlt : m < l.length := by omega
  obtain ⟨oL, hoL⟩ : ∃ o, l[m]? = some o := ⟨l[m], by simp [hlt]⟩
  have hsplit : l = l.take m ++ [oL] := by
    conv => lhs; rw [← List.take_append_drop m l]
    congr 1
    rw [List.drop_eq_getElem_cons hlt, List.drop_eq_nil_of_le (by omega)]
    have := List.getElem?_eq_getElem hlt
    rw [hoL] at this
    rw [Option.some.inj this]
  have hdrop : l.drop m = [oL] := by
    rw [List.drop_eq_getElem_cons hlt, List.drop_eq_nil_of_le (by omega)]
    have := List.getElem?_eq_getElem hlt
    rw [hoL] at this
    rw [Option.some.inj this]
  have htl : (l.take m).length = m := by simp; omega
  have hds' : dstsOk n (l.take m) = true ∧ dstOk n oL = true := by
    unfold dstsOk at *
    rw [hsplit] at hds
    rw [List.all_append, Bool.and_eq_true] at hds
    refine ⟨hds.1, ?_⟩
    have := hds.2
    simp only [List.all_cons, List.all_nil, Bool.and_true, Bool.and_eq_true] at this
    exact this.1
  rw [hoL] at hgd
  have hgL : oL.guard = none := by simpa using hgd
  intro κ M0 a w hs
  obtain ⟨hback, hpairs, _⟩ := lex_pairs hlex
  obtain ⟨t, mk, hsp, hlen, hro, hfb, hdis, _, hjj, hK⟩ := genM_trace l es B _ (l.take m) 0 [] env B hds'.1 (fun x hx => hx) (h (fun e b => Q .normal ⟨e, b⟩) (fun _ _ k => k))
  rw [htl] at hlen hjj hK
  rw [hdrop] at hK
  have henv : ∀ (t' : Nat → T), (∀ i, i < m → t' i = t i) → ∀ i, i ≤ m → envA l t' (fun _ => true) env i = envA (l.take m) t (fun _ => true) env i := by
    intro t' ht i
    induction i with
    | zero => intro _; rfl
    | succ i ih =>
      intro hi
      rw [envA, envA, ih (by omega), ht i (by omega), List.getElem?_take_of_lt (by omega)]
  obtain ⟨B', hop, hKB⟩ : ∃ B', OpE P oL (envA (l.take m) t (fun _ => true) env m) (bxX mk B (fun _ => true) m) undefT B' ∧ Q .normal ⟨putE (envA (l.take m) t (fun _ => true) env m) oL.dst undefT, B'⟩ := by
    simp only [lastVC] at hK
    split at hK
    · rename_i ho
      exact vStore_sound ho hK
    · exact hK.elim
  refine wp_region_any hm ?_
  have hsz : l.toArray.size = l.length := by simp
  rw [hsz]
  have hrep : ∀ j, (Array.replicate l.length false).getD j false = false := fun j => rep_getD _ j
  have hxs : ∀ j, xs (Array.replicate l.length false) j = false := fun j => rep_getD _ j
  let t' : Nat → T := fun i => if i < m then t i else undefT
  have ht' : ∀ i, i < m → t' i = t i := fun i hi => by simp [t', hi]
  have htm : t' m = undefT := by simp [t']
  have hmkm : ∀ i, m ≤ i → mk i = none := by
    intro i hi
    cases hk : mk i with
    | none => rfl
    | some p => have := hlen i p hk; omega
  have hend : envA l t' (fun _ => true) env l.length = putE (envA (l.take m) t (fun _ => true) env m) oL.dst undefT := by
    rw [hlen1, envA]
    simp only [cond_true, hoL, Option.bind_some, htm, henv t' ht' m (Nat.le_refl _)]
  refine genMS_sound (κ := κ) (M0 := M0) (t := t') (mk := mk) (B0 := B) (env0 := env) (L := m) (oL := oL) (B' := B') hback hpairs ⟨hdis, fun i p hp x hx => (Bx.fresh_spec (j := x.1) (r := x.2) (hfb i p hp) hx).1⟩ hro (fun i p hp => by have := hlen i p hp; omega) hlen1 hoL hds'.2 hgL (fun i hi => List.all_eq_true.1 hdep i (List.mem_range.2 hi)) ?_ ?_ ?_ (fun a w s => ?_) l.length _ a _ ?_ ?_
  · rw [htm, henv t' ht' m (Nat.le_refl _)]; exact hop
  · intro i o hi ho
    rw [henv t' ht' i (by omega), ht' i hi]
    exact hsp i o (by rw [List.getElem?_take_of_lt hi]; exact ho)
  · intro g k p hg hgk hk
    by_cases hkm : k < m
    · rw [ht' k hkm]
      have := hjj g k p hg hgk hkm; simpa using this
    · left
      have : t' k = undefT := by simp [t', hkm]
      rw [this]; rfl
  · rw [hend] at s
    exact ⟨_, s, hKB⟩
  · unfold cnt
    have hfil : (List.range l.length).filter (fun i => !(Array.replicate l.length false).getD i false) = List.range l.length := by
      rw [List.filter_eq_self]
      intro x _
      simp only [hrep x, Bool.not_false]
    rw [hfil, List.length_range]
  · have hst := mid_start (σ := ⟨env, B⟩) (l := l) (t := t') (b := fun _ => B) (e := fun _ => false) rfl hs
    obtain ⟨M, ν, _, h1, h2, h3, h4, _, _, h7, h8⟩ := hst.st
    have hbx : ∀ q, bxX mk B (xs (Array.replicate l.length false)) q = B := by
      intro q
      induction q with
      | zero => rfl
      | succ q ih => unfold bxX; rw [hxs q]; simp only [ih]
    exact ⟨⟨hst.size, hst.closed, M, ν, h1, h2, h3, h4, by rw [hbx]; exact h7, h8⟩, hrep m⟩
attribute [go_sem] lastVC
end Go.Sx
