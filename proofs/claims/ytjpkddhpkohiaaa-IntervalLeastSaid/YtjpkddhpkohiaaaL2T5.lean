/- A part of the proof: lemmas about the walk of the program and about plain integers and lists. No conditions beyond those that each lemma states. -/
import Derived.Test.YtjpkddhpkohiaaaL2T4
import Derived.Test.YtjpkddhpkohiaaaL2Lay
import Derived.Test.YtjpkddhpkohiaaaSxSort
set_option linter.unusedSimpArgs false
set_option linter.unusedVariables false
set_option maxRecDepth 20000
set_option maxHeartbeats 400000
namespace Go.Proofs.Ytjpkddhpkohiaaa
open Go Go.Sx Go.Ivl

def cmpLo (x y : Rg) : Int := cmpI x.lo y.lo
theorem ltLo (x y : Rg) : ltOf cmpLo x y = decide (x.lo < y.lo) := by
  unfold ltOf cmpLo cmpI
  by_cases h1 : x.lo < y.lo
  · simp [h1]
  · by_cases h2 : y.lo < x.lo <;> simp [h1, h2]
theorem swoLo : Go.Sort.SWO (ltOf cmpLo) where
  irrefl x := by rw [ltLo]; simp
  trans x y z h1 h2 := by rw [ltLo] at *; simp at *; omega
  ntrans x y z h1 h2 := by rw [ltLo] at *; simp at *; omega
instance : Inhabited Rg := ⟨⟨0, 0⟩⟩
theorem sorts (l : List Rg) (h : l.length < 4611686018427387904) : ∃ s : List Rg, s.Perm l ∧ s.Pairwise (fun x y => x.lo ≤ y.lo) ∧
    PCB Try.prog 26 [.one (.own pin l.length), .one (.dat (.fn 27))] [(pin, .row 2 (l.map encR))] (.tup []) [(pin, .row 2 (s.map encR))] := by
  obtain ⟨s, h1, h2, h3⟩ := sortFunc_c Try.sortIv (k := 2) Try.isAgg35 Try.sizeOf35 encR (fun _ => rfl) (fun _ => rfl) (fun x v hv => by simp [encR, valC] at hv; rcases hv with rfl | rfl <;> rfl) cmpLo swoLo 27 (fun x y => byLo_c x y) l h
  refine ⟨s, h1, h2.imp fun {x y} hxy => ?_, h3⟩
  rw [ltLo] at hxy
  simpa using hxy

theorem set_last (i : List Rg) (q x : Rg) : ((i ++ [q]).map encR).set i.length (encR x) = (i ++ [x]).map encR := by
  rw [List.map_append, List.set_append_right _ _ (by simp)]; simp

theorem mergeStep_t {i : List Rg} {q d : Rg} (h : q.hi = 9223372036854775807 ∨ d.lo ≤ q.hi + 1) : mergeStep (i ++ [q]) d = i ++ [⟨q.lo, if d.hi > q.hi then d.hi else q.hi⟩] := by
  unfold mergeStep
  rw [List.getLast?_concat]
  simp only [h, if_true, List.dropLast_concat]
  congr 3
  split <;> omega
theorem mergeStep_f {i : List Rg} {q d : Rg} (h : q.hi ≠ 9223372036854775807) (h2 : ¬ d.lo ≤ q.hi + 1) : mergeStep (i ++ [q]) d = i ++ [q] ++ [d] := by
  unfold mergeStep
  rw [List.getLast?_concat]
  simp only [h, h2, or_self, if_false]
theorem in_last {i : List Rg} {q d : Rg} (h : ∀ r ∈ i ++ [q], In6 r) (hd : In6 d) : ∀ r ∈ i ++ [(⟨q.lo, if d.hi > q.hi then d.hi else q.hi⟩ : Rg)], In6 r := by
  intro r hr
  rcases List.mem_append.1 hr with hr | hr
  · exact h r (List.mem_append_left _ hr)
  · simp only [List.mem_singleton] at hr
    have := h q (by simp)
    unfold In6 at *
    rw [hr]; refine ⟨this.1, ?_⟩
    simp only; split
    · exact hd.2
    · exact this.2
theorem normalize_c (l : List Rg) (hl : ∀ r ∈ l, In6 r) (hsz : l.length ≤ 100000) : PC Try.prog 13 [Sl l] (Sl (nf l)) := by
  refine PCB.of_body Try.func13 rfl (by decide) Try.ntmps13 Try.results13 rfl rfl rfl ?_ rfl rfl
  refine AWP.ghQ ?_
  have hlen : l.length ≤ 9223372036854775807 := by omega
  repeat' (first
    | (with_reducible refine seqVC_stepN rfl fun K hK => ?_; (try simp only [go_sem, Nat.reduceBEq, Nat.reduceBNe, Nat.reduceAdd, Nat.reduceSub, Nat.reduceMul, Nat.reduceLeDiff, Nat.reduceLT, reduceCtorEq, Nat.reduceEqDiff, Int.reduceToNat, Int.reduceLE, Int.reduceLT, Int.reduceEq, List.length_map]); all_goals fail_if_success guard_target =ₛ False)
    | (with_reducible refine seqVC_stepG rfl (by with_unfolding_all rfl) fun K hK => ?_; (try simp only [go_sem, Nat.reduceBEq, Nat.reduceBNe, Nat.reduceAdd, Nat.reduceSub, Nat.reduceMul, Nat.reduceLeDiff, Nat.reduceLT, reduceCtorEq, Nat.reduceEqDiff, Int.reduceToNat, Int.reduceLE, Int.reduceLT, Int.reduceEq, List.length_map]); all_goals fail_if_success guard_target =ₛ False)
    | with_reducible refine seqVC_nil ?_
    | (with_reducible refine hK _ _ ?_; clear hK K)
    | (with_reducible refine hK _ ?_; clear hK K)
    | with_reducible refine AWP.seq fun K hK => ?_
    | (with_reducible refine AWP.seqR (by kernel_rfl) fun K hK => ?_)
    | (with_reducible refine parVC_stepN rfl fun K hK => ?_; (try simp only [go_sem, Nat.reduceBEq, Nat.reduceBNe, Nat.reduceAdd, Nat.reduceSub, Nat.reduceMul, Nat.reduceLeDiff, Nat.reduceLT, reduceCtorEq, Nat.reduceEqDiff, Int.reduceToNat, Int.reduceLE, Int.reduceLT, Int.reduceEq, List.length_map]); all_goals fail_if_success guard_target =ₛ False)
    | (with_reducible refine parVC_stepG rfl (by with_unfolding_all rfl) fun K hK => ?_; (try simp only [go_sem, Nat.reduceBEq, Nat.reduceBNe, Nat.reduceAdd, Nat.reduceSub, Nat.reduceMul, Nat.reduceLeDiff, Nat.reduceLT, reduceCtorEq, Nat.reduceEqDiff, Int.reduceToNat, Int.reduceLE, Int.reduceLT, Int.reduceEq, List.length_map]); all_goals fail_if_success guard_target =ₛ False)
    | with_reducible refine parVC_nil ?_
    | (with_reducible refine parEVC_stepN rfl fun K hK => ?_; (try simp only [go_sem, Nat.reduceBEq, Nat.reduceBNe, Nat.reduceAdd, Nat.reduceSub, Nat.reduceMul, Nat.reduceLeDiff, Nat.reduceLT, reduceCtorEq, Nat.reduceEqDiff, Int.reduceToNat, Int.reduceLE, Int.reduceLT, Int.reduceEq, List.length_map]); all_goals fail_if_success guard_target =ₛ False)
    | (with_reducible refine parEVC_stepG rfl (by with_unfolding_all rfl) fun K hK => ?_; (try simp only [go_sem, Nat.reduceBEq, Nat.reduceBNe, Nat.reduceAdd, Nat.reduceSub, Nat.reduceMul, Nat.reduceLeDiff, Nat.reduceLT, reduceCtorEq, Nat.reduceEqDiff, Int.reduceToNat, Int.reduceLE, Int.reduceLT, Int.reduceEq, List.length_map]); all_goals fail_if_success guard_target =ₛ False)
    | with_reducible refine parEVC_nil ?_
    | (with_reducible refine AWP.cond (by with_unfolding_all rfl) (fun h => ?_) (fun h => ?_); all_goals (try simp only [Bool.not_eq_true', Bool.not_eq_false'] at h); (all_goals try first | (exact absurd h Bool.false_ne_true) | (exact absurd h.symm Bool.false_ne_true) | (exact absurd h (by decide))))
    | with_reducible refine AWP.skip ?_
    | with_reducible refine AWP.ret ?_
    | with_reducible refine AWP.block ?_
    | with_reducible refine AWP.exit ?_
    | (with_reducible refine ⟨fun h => ?_, fun h => ?_⟩ <;> (try simp only [Bool.not_eq_true', Bool.not_eq_false'] at h) <;> simp only [h, go_sem, Nat.reduceBEq, Nat.reduceBNe, Nat.reduceAdd, Nat.reduceSub, Nat.reduceMul, Nat.reduceLeDiff, Nat.reduceLT, reduceCtorEq, Nat.reduceEqDiff, Int.reduceToNat, Int.reduceLE, Int.reduceLT, Int.reduceEq, List.length_map])
    | (with_reducible refine AWP.segP (id := 15) 12 mixed (by kernel_rfl) fun K hK => ?_; simp only [List.take_succ_cons, List.take_zero, List.drop_succ_cons, List.drop_zero])
    | (with_reducible refine AWP.parR mixed (by kernel_rfl) fun K hK => ?_)
    | (simp only [go_sem, Nat.reduceBEq, Nat.reduceBNe, Nat.reduceAdd, Nat.reduceSub, Nat.reduceMul, Nat.reduceLeDiff, Nat.reduceLT, reduceCtorEq, Nat.reduceEqDiff, Int.reduceToNat, Int.reduceLE, Int.reduceLT, Int.reduceEq, List.length_map])
    | (clear hK K))
  refine AWP.gh (Gh.nilrow 3 900 rfl rfl rfl rfl) ?_
  refine AWP.loopS (X := Nat × List Rg) (fun x => [(12, I .i64 x.1), (11, I .i64 l.length), (10, Sl l), (3, Ow 900 x.2)]) (fun x => [Rw 900 x.2])
    (fun x => x.1 ≤ l.length ∧ (l.filter fun r => decide (r.lo ≤ r.hi)) = x.2 ++ ((l.drop x.1).filter fun r => decide (r.lo ≤ r.hi)) ∧ x.2.length ≤ x.1) (fun x => l.length - x.1) (0, []) (Gh.to [] (by repeat (first | exact trivial | refine ⟨rfl, ?_⟩)) (by repeat (first | exact trivial | refine ⟨rfl, ?_⟩)) rfl rfl rfl) ⟨Nat.zero_le _, rfl, Nat.le_refl _⟩ ?_
  rintro ⟨k, out⟩ ⟨hk, hp, ho⟩
  simp only at hk hp ho
  by_cases hlt : k < l.length
  · obtain ⟨d, hd, hd', hb, hdrop⟩ := at_lt (enc := encR) hlt
    rw [hdrop, List.filter_cons] at hp
    cases hle : decide (d.lo ≤ d.hi)
    ·
      repeat' (first
        | (with_reducible refine seqVC_stepN rfl fun K hK => ?_; (try simp only [go_sem, Nat.reduceBEq, Nat.reduceBNe, Nat.reduceAdd, Nat.reduceSub, Nat.reduceMul, Nat.reduceLeDiff, Nat.reduceLT, reduceCtorEq, Nat.reduceEqDiff, Int.reduceToNat, Int.reduceLE, Int.reduceLT, Int.reduceEq, List.length_map, hb, hle]); all_goals fail_if_success guard_target =ₛ False)
        | (with_reducible refine seqVC_stepG rfl (by with_unfolding_all rfl) fun K hK => ?_; (try simp only [go_sem, Nat.reduceBEq, Nat.reduceBNe, Nat.reduceAdd, Nat.reduceSub, Nat.reduceMul, Nat.reduceLeDiff, Nat.reduceLT, reduceCtorEq, Nat.reduceEqDiff, Int.reduceToNat, Int.reduceLE, Int.reduceLT, Int.reduceEq, List.length_map, hb, hle]); all_goals fail_if_success guard_target =ₛ False)
        | with_reducible refine seqVC_nil ?_
        | (with_reducible refine hK _ _ ?_; clear hK K)
        | (with_reducible refine hK _ ?_; clear hK K)
        | with_reducible refine AWP.seq fun K hK => ?_
        | (with_reducible refine AWP.seqR (by kernel_rfl) fun K hK => ?_)
        | (with_reducible refine parVC_stepN rfl fun K hK => ?_; (try simp only [go_sem, Nat.reduceBEq, Nat.reduceBNe, Nat.reduceAdd, Nat.reduceSub, Nat.reduceMul, Nat.reduceLeDiff, Nat.reduceLT, reduceCtorEq, Nat.reduceEqDiff, Int.reduceToNat, Int.reduceLE, Int.reduceLT, Int.reduceEq, List.length_map, hb, hle]); all_goals fail_if_success guard_target =ₛ False)
        | (with_reducible refine parVC_stepG rfl (by with_unfolding_all rfl) fun K hK => ?_; (try simp only [go_sem, Nat.reduceBEq, Nat.reduceBNe, Nat.reduceAdd, Nat.reduceSub, Nat.reduceMul, Nat.reduceLeDiff, Nat.reduceLT, reduceCtorEq, Nat.reduceEqDiff, Int.reduceToNat, Int.reduceLE, Int.reduceLT, Int.reduceEq, List.length_map, hb, hle]); all_goals fail_if_success guard_target =ₛ False)
        | with_reducible refine parVC_nil ?_
        | (with_reducible refine parEVC_stepN rfl fun K hK => ?_; (try simp only [go_sem, Nat.reduceBEq, Nat.reduceBNe, Nat.reduceAdd, Nat.reduceSub, Nat.reduceMul, Nat.reduceLeDiff, Nat.reduceLT, reduceCtorEq, Nat.reduceEqDiff, Int.reduceToNat, Int.reduceLE, Int.reduceLT, Int.reduceEq, List.length_map, hb, hle]); all_goals fail_if_success guard_target =ₛ False)
        | (with_reducible refine parEVC_stepG rfl (by with_unfolding_all rfl) fun K hK => ?_; (try simp only [go_sem, Nat.reduceBEq, Nat.reduceBNe, Nat.reduceAdd, Nat.reduceSub, Nat.reduceMul, Nat.reduceLeDiff, Nat.reduceLT, reduceCtorEq, Nat.reduceEqDiff, Int.reduceToNat, Int.reduceLE, Int.reduceLT, Int.reduceEq, List.length_map, hb, hle]); all_goals fail_if_success guard_target =ₛ False)
        | with_reducible refine parEVC_nil ?_
        | (with_reducible refine AWP.cond (by with_unfolding_all rfl) (fun h => ?_) (fun h => ?_); all_goals (try simp only [Bool.not_eq_true', Bool.not_eq_false'] at h); (all_goals try first | (exact absurd h Bool.false_ne_true) | (exact absurd h.symm Bool.false_ne_true) | (exact absurd h (by decide))))
        | with_reducible refine AWP.skip ?_
        | with_reducible refine AWP.ret ?_
        | with_reducible refine AWP.block ?_
        | with_reducible refine AWP.exit ?_
        | (with_reducible refine ⟨fun h => ?_, fun h => ?_⟩ <;> (try simp only [Bool.not_eq_true', Bool.not_eq_false'] at h) <;> simp only [h, go_sem, Nat.reduceBEq, Nat.reduceBNe, Nat.reduceAdd, Nat.reduceSub, Nat.reduceMul, Nat.reduceLeDiff, Nat.reduceLT, reduceCtorEq, Nat.reduceEqDiff, Int.reduceToNat, Int.reduceLE, Int.reduceLT, Int.reduceEq, List.length_map, hb, hle])
        | (with_reducible refine ⟨by omega, encR d, hd', ?_⟩)
        | (with_reducible refine AWP.segP (id := 15) 12 mixed (by kernel_rfl) fun K hK => ?_; simp only [List.take_succ_cons, List.take_zero, List.drop_succ_cons, List.drop_zero])
        | (with_reducible refine AWP.parR mixed (by kernel_rfl) fun K hK => ?_)
        | (simp only [go_sem, Nat.reduceBEq, Nat.reduceBNe, Nat.reduceAdd, Nat.reduceSub, Nat.reduceMul, Nat.reduceLeDiff, Nat.reduceLT, reduceCtorEq, Nat.reduceEqDiff, Int.reduceToNat, Int.reduceLE, Int.reduceLT, Int.reduceEq, List.length_map, hb, hle])
        | (clear hK K))
      rw [wrap_succ hlt hlen]
      refine ⟨(k + 1, out), by simp only; omega, ⟨by simp only; omega, by simpa [hle] using hp, by simp only; omega⟩, Gh.to [] (by repeat (first | exact trivial | refine ⟨rfl, ?_⟩)) (by repeat (first | exact trivial | refine ⟨rfl, ?_⟩)) rfl rfl rfl⟩
    ·
      repeat' (first
        | (with_reducible refine seqVC_stepN rfl fun K hK => ?_; (try simp only [go_sem, Nat.reduceBEq, Nat.reduceBNe, Nat.reduceAdd, Nat.reduceSub, Nat.reduceMul, Nat.reduceLeDiff, Nat.reduceLT, reduceCtorEq, Nat.reduceEqDiff, Int.reduceToNat, Int.reduceLE, Int.reduceLT, Int.reduceEq, List.length_map, hb, hle, map_snoc]); all_goals fail_if_success guard_target =ₛ False)
        | (with_reducible refine seqVC_stepG rfl (by with_unfolding_all rfl) fun K hK => ?_; (try simp only [go_sem, Nat.reduceBEq, Nat.reduceBNe, Nat.reduceAdd, Nat.reduceSub, Nat.reduceMul, Nat.reduceLeDiff, Nat.reduceLT, reduceCtorEq, Nat.reduceEqDiff, Int.reduceToNat, Int.reduceLE, Int.reduceLT, Int.reduceEq, List.length_map, hb, hle, map_snoc]); all_goals fail_if_success guard_target =ₛ False)
        | with_reducible refine seqVC_nil ?_
        | (with_reducible refine hK _ _ ?_; clear hK K)
        | (with_reducible refine hK _ ?_; clear hK K)
        | with_reducible refine AWP.seq fun K hK => ?_
        | (with_reducible refine AWP.seqR (by kernel_rfl) fun K hK => ?_)
        | (with_reducible refine parVC_stepN rfl fun K hK => ?_; (try simp only [go_sem, Nat.reduceBEq, Nat.reduceBNe, Nat.reduceAdd, Nat.reduceSub, Nat.reduceMul, Nat.reduceLeDiff, Nat.reduceLT, reduceCtorEq, Nat.reduceEqDiff, Int.reduceToNat, Int.reduceLE, Int.reduceLT, Int.reduceEq, List.length_map, hb, hle, map_snoc]); all_goals fail_if_success guard_target =ₛ False)
        | (with_reducible refine parVC_stepG rfl (by with_unfolding_all rfl) fun K hK => ?_; (try simp only [go_sem, Nat.reduceBEq, Nat.reduceBNe, Nat.reduceAdd, Nat.reduceSub, Nat.reduceMul, Nat.reduceLeDiff, Nat.reduceLT, reduceCtorEq, Nat.reduceEqDiff, Int.reduceToNat, Int.reduceLE, Int.reduceLT, Int.reduceEq, List.length_map, hb, hle, map_snoc]); all_goals fail_if_success guard_target =ₛ False)
        | with_reducible refine parVC_nil ?_
        | (with_reducible refine parEVC_stepN rfl fun K hK => ?_; (try simp only [go_sem, Nat.reduceBEq, Nat.reduceBNe, Nat.reduceAdd, Nat.reduceSub, Nat.reduceMul, Nat.reduceLeDiff, Nat.reduceLT, reduceCtorEq, Nat.reduceEqDiff, Int.reduceToNat, Int.reduceLE, Int.reduceLT, Int.reduceEq, List.length_map, hb, hle, map_snoc]); all_goals fail_if_success guard_target =ₛ False)
        | (with_reducible refine parEVC_stepG rfl (by with_unfolding_all rfl) fun K hK => ?_; (try simp only [go_sem, Nat.reduceBEq, Nat.reduceBNe, Nat.reduceAdd, Nat.reduceSub, Nat.reduceMul, Nat.reduceLeDiff, Nat.reduceLT, reduceCtorEq, Nat.reduceEqDiff, Int.reduceToNat, Int.reduceLE, Int.reduceLT, Int.reduceEq, List.length_map, hb, hle, map_snoc]); all_goals fail_if_success guard_target =ₛ False)
        | with_reducible refine parEVC_nil ?_
        | (with_reducible refine AWP.cond (by with_unfolding_all rfl) (fun h => ?_) (fun h => ?_); all_goals (try simp only [Bool.not_eq_true', Bool.not_eq_false'] at h); (all_goals try first | (exact absurd h Bool.false_ne_true) | (exact absurd h.symm Bool.false_ne_true) | (exact absurd h (by decide))))
        | with_reducible refine AWP.skip ?_
        | with_reducible refine AWP.ret ?_
        | with_reducible refine AWP.block ?_
        | with_reducible refine AWP.exit ?_
        | (with_reducible refine ⟨fun h => ?_, fun h => ?_⟩ <;> (try simp only [Bool.not_eq_true', Bool.not_eq_false'] at h) <;> simp only [h, go_sem, Nat.reduceBEq, Nat.reduceBNe, Nat.reduceAdd, Nat.reduceSub, Nat.reduceMul, Nat.reduceLeDiff, Nat.reduceLT, reduceCtorEq, Nat.reduceEqDiff, Int.reduceToNat, Int.reduceLE, Int.reduceLT, Int.reduceEq, List.length_map, hb, hle, map_snoc])
        | (with_reducible refine ⟨by omega, encR d, hd', ?_⟩)
        | (with_reducible refine ⟨by omega, ?_⟩)
        | (with_reducible refine AWP.segP (id := 15) 12 mixed (by kernel_rfl) fun K hK => ?_; simp only [List.take_succ_cons, List.take_zero, List.drop_succ_cons, List.drop_zero])
        | (with_reducible refine AWP.parR mixed (by kernel_rfl) fun K hK => ?_)
        | (simp only [go_sem, Nat.reduceBEq, Nat.reduceBNe, Nat.reduceAdd, Nat.reduceSub, Nat.reduceMul, Nat.reduceLeDiff, Nat.reduceLT, reduceCtorEq, Nat.reduceEqDiff, Int.reduceToNat, Int.reduceLE, Int.reduceLT, Int.reduceEq, List.length_map, hb, hle, map_snoc])
        | (clear hK K))
      rw [wrap_succ hlt hlen]
      refine ⟨(k + 1, out ++ [d]), by simp only; omega, ⟨by simp only; omega, by simpa [hle] using hp, by simp; omega⟩, Gh.to [(900, 24)] (by repeat (first | exact trivial | refine ⟨rfl, ?_⟩)) (by repeat (first | exact trivial | refine ⟨rfl, ?_⟩)) rfl rfl rfl⟩
  · obtain ⟨hb, hdrop⟩ := at_ge hlt
    rw [hdrop, List.filter_nil, List.append_nil] at hp
    obtain ⟨s, hperm, hpw, hsort⟩ := sorts out (by omega)
    have hsl : out.length = s.length := hperm.length_eq.symm
    repeat' (first
      | (with_reducible refine seqVC_stepN rfl fun K hK => ?_; (try simp only [go_sem, Nat.reduceBEq, Nat.reduceBNe, Nat.reduceAdd, Nat.reduceSub, Nat.reduceMul, Nat.reduceLeDiff, Nat.reduceLT, reduceCtorEq, Nat.reduceEqDiff, Int.reduceToNat, Int.reduceLE, Int.reduceLT, Int.reduceEq, List.length_map, hb]); all_goals fail_if_success guard_target =ₛ False)
      | (with_reducible refine seqVC_stepG rfl (by with_unfolding_all rfl) fun K hK => ?_; (try simp only [go_sem, Nat.reduceBEq, Nat.reduceBNe, Nat.reduceAdd, Nat.reduceSub, Nat.reduceMul, Nat.reduceLeDiff, Nat.reduceLT, reduceCtorEq, Nat.reduceEqDiff, Int.reduceToNat, Int.reduceLE, Int.reduceLT, Int.reduceEq, List.length_map, hb]); all_goals fail_if_success guard_target =ₛ False)
      | with_reducible refine seqVC_nil ?_
      | (with_reducible refine hK _ _ ?_; clear hK K)
      | (with_reducible refine hK _ ?_; clear hK K)
      | with_reducible refine AWP.seq fun K hK => ?_
      | (with_reducible refine AWP.seqR (by kernel_rfl) fun K hK => ?_)
      | (with_reducible refine parVC_stepN rfl fun K hK => ?_; (try simp only [go_sem, Nat.reduceBEq, Nat.reduceBNe, Nat.reduceAdd, Nat.reduceSub, Nat.reduceMul, Nat.reduceLeDiff, Nat.reduceLT, reduceCtorEq, Nat.reduceEqDiff, Int.reduceToNat, Int.reduceLE, Int.reduceLT, Int.reduceEq, List.length_map, hb]); all_goals fail_if_success guard_target =ₛ False)
      | (with_reducible refine parVC_stepG rfl (by with_unfolding_all rfl) fun K hK => ?_; (try simp only [go_sem, Nat.reduceBEq, Nat.reduceBNe, Nat.reduceAdd, Nat.reduceSub, Nat.reduceMul, Nat.reduceLeDiff, Nat.reduceLT, reduceCtorEq, Nat.reduceEqDiff, Int.reduceToNat, Int.reduceLE, Int.reduceLT, Int.reduceEq, List.length_map, hb]); all_goals fail_if_success guard_target =ₛ False)
      | with_reducible refine parVC_nil ?_
      | (with_reducible refine parEVC_stepN rfl fun K hK => ?_; (try simp only [go_sem, Nat.reduceBEq, Nat.reduceBNe, Nat.reduceAdd, Nat.reduceSub, Nat.reduceMul, Nat.reduceLeDiff, Nat.reduceLT, reduceCtorEq, Nat.reduceEqDiff, Int.reduceToNat, Int.reduceLE, Int.reduceLT, Int.reduceEq, List.length_map, hb]); all_goals fail_if_success guard_target =ₛ False)
      | (with_reducible refine parEVC_stepG rfl (by with_unfolding_all rfl) fun K hK => ?_; (try simp only [go_sem, Nat.reduceBEq, Nat.reduceBNe, Nat.reduceAdd, Nat.reduceSub, Nat.reduceMul, Nat.reduceLeDiff, Nat.reduceLT, reduceCtorEq, Nat.reduceEqDiff, Int.reduceToNat, Int.reduceLE, Int.reduceLT, Int.reduceEq, List.length_map, hb]); all_goals fail_if_success guard_target =ₛ False)
      | with_reducible refine parEVC_nil ?_
      | (with_reducible refine AWP.cond (by with_unfolding_all rfl) (fun h => ?_) (fun h => ?_); all_goals (try simp only [Bool.not_eq_true', Bool.not_eq_false'] at h); (all_goals try first | (exact absurd h Bool.false_ne_true) | (exact absurd h.symm Bool.false_ne_true) | (exact absurd h (by decide))))
      | with_reducible refine AWP.skip ?_
      | with_reducible refine AWP.ret ?_
      | with_reducible refine AWP.block ?_
      | with_reducible refine AWP.exit ?_
      | (with_reducible refine ⟨fun h => ?_, fun h => ?_⟩ <;> (try simp only [Bool.not_eq_true', Bool.not_eq_false'] at h) <;> simp only [h, go_sem, Nat.reduceBEq, Nat.reduceBNe, Nat.reduceAdd, Nat.reduceSub, Nat.reduceMul, Nat.reduceLeDiff, Nat.reduceLT, reduceCtorEq, Nat.reduceEqDiff, Int.reduceToNat, Int.reduceLE, Int.reduceLT, Int.reduceEq, List.length_map, hb])
      | (apply Or.inr; refine ⟨900, _, _, _, PCBk.sorts 900 hsort, rfl, ?_⟩; simp only [go_sem, Nat.reduceBEq, Nat.reduceBNe, Nat.reduceAdd, Nat.reduceSub, Nat.reduceMul, Nat.reduceLeDiff, Nat.reduceLT, reduceCtorEq, Nat.reduceEqDiff, Int.reduceToNat, Int.reduceLE, Int.reduceLT, Int.reduceEq])
      | (with_reducible refine AWP.segP (id := 15) 12 mixed (by kernel_rfl) fun K hK => ?_; simp only [List.take_succ_cons, List.take_zero, List.drop_succ_cons, List.drop_zero])
      | (with_reducible refine AWP.parR mixed (by kernel_rfl) fun K hK => ?_)
      | (simp only [go_sem, Nat.reduceBEq, Nat.reduceBNe, Nat.reduceAdd, Nat.reduceSub, Nat.reduceMul, Nat.reduceLeDiff, Nat.reduceLT, reduceCtorEq, Nat.reduceEqDiff, Int.reduceToNat, Int.reduceLE, Int.reduceLT, Int.reduceEq, List.length_map, hb])
      | (clear hK K))
    refine AWP.gh (Gh.keep [28, 29, 30, 6]) ?_
    simp only [go_sem, Nat.reduceBEq, Nat.reduceBNe, Nat.reduceAdd, Nat.reduceSub, Nat.reduceMul, Nat.reduceLeDiff, Nat.reduceLT, reduceCtorEq, Nat.reduceEqDiff, Int.reduceToNat, Int.reduceLE, Int.reduceLT, Int.reduceEq, hsl]
    refine AWP.gh (Gh.freeze 900 rfl rfl (by simp only [go_sem, Nat.reduceBEq, Nat.reduceBNe, Nat.reduceAdd, Nat.reduceSub, Nat.reduceMul, Nat.reduceLeDiff, Nat.reduceLT, reduceCtorEq, Nat.reduceEqDiff, Int.reduceToNat, Int.reduceLE, Int.reduceLT, Int.reduceEq, List.length_map, hsl]) (by simp only [go_sem, Nat.reduceBEq, Nat.reduceBNe, Nat.reduceAdd, Nat.reduceSub, Nat.reduceMul, Nat.reduceLeDiff, Nat.reduceLT, reduceCtorEq, Nat.reduceEqDiff, Int.reduceToNat, Int.reduceLE, Int.reduceLT, Int.reduceEq, List.length_map, hsl])) ?_
    simp only [go_sem, Nat.reduceBEq, Nat.reduceBNe, Nat.reduceAdd, Nat.reduceSub, Nat.reduceMul, Nat.reduceLeDiff, Nat.reduceLT, reduceCtorEq, Nat.reduceEqDiff, Int.reduceToNat, Int.reduceLE, Int.reduceLT, Int.reduceEq, List.length_map, hsl]
    refine AWP.gh (Gh.nilrow 6 901 rfl rfl rfl rfl) ?_
    have hs6 : ∀ r ∈ s, In6 r ∧ r.lo ≤ r.hi := fun r hr => by
      have := hperm.mem_iff.1 hr
      rw [← hp] at this
      simp only [List.mem_filter, decide_eq_true_eq] at this
      exact ⟨hl r this.1, this.2⟩
    have hfin : s.foldl mergeStep [] = nf l := merge_nf hl (by rw [hp]; exact hperm) hpw
    refine AWP.loopS (X := Nat × List Rg) (fun x => [(30, I .i64 x.1), (29, I .i64 s.length), (28, Sl s), (6, Ow 901 x.2)]) (fun x => [Rw 901 x.2])
      (fun x => x.1 ≤ s.length ∧ nf l = (s.drop x.1).foldl mergeStep x.2 ∧ x.2.length ≤ x.1 ∧ ∀ r ∈ x.2, In6 r) (fun x => s.length - x.1) (0, []) (Gh.to [] (by repeat (first | exact trivial | refine ⟨rfl, ?_⟩)) (by repeat (first | exact trivial | refine ⟨rfl, ?_⟩)) rfl rfl rfl) ⟨Nat.zero_le _, hfin.symm, Nat.le_refl _, by simp⟩ ?_
    rintro ⟨m, o⟩ ⟨hm, hq, hol, ho6⟩
    simp only at hm hq hol ho6
    by_cases hlm : m < s.length
    · obtain ⟨d, hd, hd', hb2, hdx⟩ := at_lt (enc := encR) hlm
      rw [hdx, List.foldl_cons] at hq
      have hd6 := hs6 d (List.mem_of_getElem? hd)
      rcases List.eq_nil_or_concat o with rfl | ⟨i, q, rfl⟩
      · have hge : decide ((0 : Int) ≤ IntKind.i64.wrap (0 - 1)) = false := by decide
        repeat' (first
          | (with_reducible refine seqVC_stepN rfl fun K hK => ?_; (try simp only [go_sem, Nat.reduceBEq, Nat.reduceBNe, Nat.reduceAdd, Nat.reduceSub, Nat.reduceMul, Nat.reduceLeDiff, Nat.reduceLT, reduceCtorEq, Nat.reduceEqDiff, Int.reduceToNat, Int.reduceLE, Int.reduceLT, Int.reduceEq, List.length_map, hb2, hge, map_snoc]); all_goals fail_if_success guard_target =ₛ False)
          | (with_reducible refine seqVC_stepG rfl (by with_unfolding_all rfl) fun K hK => ?_; (try simp only [go_sem, Nat.reduceBEq, Nat.reduceBNe, Nat.reduceAdd, Nat.reduceSub, Nat.reduceMul, Nat.reduceLeDiff, Nat.reduceLT, reduceCtorEq, Nat.reduceEqDiff, Int.reduceToNat, Int.reduceLE, Int.reduceLT, Int.reduceEq, List.length_map, hb2, hge, map_snoc]); all_goals fail_if_success guard_target =ₛ False)
          | with_reducible refine seqVC_nil ?_
          | (with_reducible refine hK _ _ ?_; clear hK K)
          | (with_reducible refine hK _ ?_; clear hK K)
          | with_reducible refine AWP.seq fun K hK => ?_
          | (with_reducible refine AWP.seqR (by kernel_rfl) fun K hK => ?_)
          | (with_reducible refine parVC_stepN rfl fun K hK => ?_; (try simp only [go_sem, Nat.reduceBEq, Nat.reduceBNe, Nat.reduceAdd, Nat.reduceSub, Nat.reduceMul, Nat.reduceLeDiff, Nat.reduceLT, reduceCtorEq, Nat.reduceEqDiff, Int.reduceToNat, Int.reduceLE, Int.reduceLT, Int.reduceEq, List.length_map, hb2, hge, map_snoc]); all_goals fail_if_success guard_target =ₛ False)
          | (with_reducible refine parVC_stepG rfl (by with_unfolding_all rfl) fun K hK => ?_; (try simp only [go_sem, Nat.reduceBEq, Nat.reduceBNe, Nat.reduceAdd, Nat.reduceSub, Nat.reduceMul, Nat.reduceLeDiff, Nat.reduceLT, reduceCtorEq, Nat.reduceEqDiff, Int.reduceToNat, Int.reduceLE, Int.reduceLT, Int.reduceEq, List.length_map, hb2, hge, map_snoc]); all_goals fail_if_success guard_target =ₛ False)
          | with_reducible refine parVC_nil ?_
          | (with_reducible refine parEVC_stepN rfl fun K hK => ?_; (try simp only [go_sem, Nat.reduceBEq, Nat.reduceBNe, Nat.reduceAdd, Nat.reduceSub, Nat.reduceMul, Nat.reduceLeDiff, Nat.reduceLT, reduceCtorEq, Nat.reduceEqDiff, Int.reduceToNat, Int.reduceLE, Int.reduceLT, Int.reduceEq, List.length_map, hb2, hge, map_snoc]); all_goals fail_if_success guard_target =ₛ False)
          | (with_reducible refine parEVC_stepG rfl (by with_unfolding_all rfl) fun K hK => ?_; (try simp only [go_sem, Nat.reduceBEq, Nat.reduceBNe, Nat.reduceAdd, Nat.reduceSub, Nat.reduceMul, Nat.reduceLeDiff, Nat.reduceLT, reduceCtorEq, Nat.reduceEqDiff, Int.reduceToNat, Int.reduceLE, Int.reduceLT, Int.reduceEq, List.length_map, hb2, hge, map_snoc]); all_goals fail_if_success guard_target =ₛ False)
          | with_reducible refine parEVC_nil ?_
          | (with_reducible refine AWP.cond (by with_unfolding_all rfl) (fun h => ?_) (fun h => ?_); all_goals (try simp only [Bool.not_eq_true', Bool.not_eq_false'] at h); (all_goals try first | (exact absurd h Bool.false_ne_true) | (exact absurd h.symm Bool.false_ne_true) | (exact absurd h (by decide))))
          | with_reducible refine AWP.skip ?_
          | with_reducible refine AWP.ret ?_
          | with_reducible refine AWP.block ?_
          | with_reducible refine AWP.exit ?_
          | (with_reducible refine ⟨fun h => ?_, fun h => ?_⟩ <;> (try simp only [Bool.not_eq_true', Bool.not_eq_false'] at h) <;> simp only [h, go_sem, Nat.reduceBEq, Nat.reduceBNe, Nat.reduceAdd, Nat.reduceSub, Nat.reduceMul, Nat.reduceLeDiff, Nat.reduceLT, reduceCtorEq, Nat.reduceEqDiff, Int.reduceToNat, Int.reduceLE, Int.reduceLT, Int.reduceEq, List.length_map, hb2, hge, map_snoc])
          | (with_reducible refine ⟨by omega, encR d, hd', ?_⟩)
          | (with_reducible refine ⟨by omega, ?_⟩)
          | (with_reducible refine AWP.segP (id := 15) 12 mixed (by kernel_rfl) fun K hK => ?_; simp only [List.take_succ_cons, List.take_zero, List.drop_succ_cons, List.drop_zero])
          | (with_reducible refine AWP.parR mixed (by kernel_rfl) fun K hK => ?_)
          | (simp only [go_sem, Nat.reduceBEq, Nat.reduceBNe, Nat.reduceAdd, Nat.reduceSub, Nat.reduceMul, Nat.reduceLeDiff, Nat.reduceLT, reduceCtorEq, Nat.reduceEqDiff, Int.reduceToNat, Int.reduceLE, Int.reduceLT, Int.reduceEq, List.length_map, hb2, hge, map_snoc])
          | (clear hK K))
        rw [wrap_succ hlm (by omega)]
        refine ⟨(m + 1, [d]), by simp only; omega, ⟨by simp only; omega, hq, by simp, by simpa using hd6.1⟩, Gh.to [(901, 73)] (by repeat (first | exact trivial | refine ⟨rfl, ?_⟩)) (by repeat (first | exact trivial | refine ⟨rfl, ?_⟩)) rfl rfl rfl⟩
      · rw [List.concat_eq_append] at *
        have hw : IntKind.i64.wrap (((i ++ [q]).length : Int) - 1) = (i.length : Int) := by rw [w64 (by simp at hol ⊢; omega)]; simp
        have hge : decide ((0 : Int) ≤ (i.length : Int)) = true := by simp
        have hq' : ((i ++ [q]).map encR)[i.length]? = some (encR q) := by simp
        have hq6 := ho6 q (by simp)
        unfold In6 at hq6
        cases hmx : decide (q.hi = 9223372036854775807)
        · have hmx' : q.hi ≠ 9223372036854775807 := by simpa using hmx
          have hwr : IntKind.i64.wrap (q.hi + 1) = q.hi + 1 := by rw [w64 (by omega)]
          cases hlo : decide (d.lo ≤ q.hi + 1)
          ·
            repeat' (first
              | (with_reducible refine seqVC_stepN rfl fun K hK => ?_; (try simp only [go_sem, Nat.reduceBEq, Nat.reduceBNe, Nat.reduceAdd, Nat.reduceSub, Nat.reduceMul, Nat.reduceLeDiff, Nat.reduceLT, reduceCtorEq, Nat.reduceEqDiff, Int.reduceToNat, Int.reduceLE, Int.reduceLT, Int.reduceEq, List.length_map, hb2, hge, hw, map_snoc, hmx, hwr, hlo]); all_goals fail_if_success guard_target =ₛ False)
              | (with_reducible refine seqVC_stepG rfl (by with_unfolding_all rfl) fun K hK => ?_; (try simp only [go_sem, Nat.reduceBEq, Nat.reduceBNe, Nat.reduceAdd, Nat.reduceSub, Nat.reduceMul, Nat.reduceLeDiff, Nat.reduceLT, reduceCtorEq, Nat.reduceEqDiff, Int.reduceToNat, Int.reduceLE, Int.reduceLT, Int.reduceEq, List.length_map, hb2, hge, hw, map_snoc, hmx, hwr, hlo]); all_goals fail_if_success guard_target =ₛ False)
              | with_reducible refine seqVC_nil ?_
              | (with_reducible refine hK _ _ ?_; clear hK K)
              | (with_reducible refine hK _ ?_; clear hK K)
              | with_reducible refine AWP.seq fun K hK => ?_
              | (with_reducible refine AWP.seqR (by kernel_rfl) fun K hK => ?_)
              | (with_reducible refine parVC_stepN rfl fun K hK => ?_; (try simp only [go_sem, Nat.reduceBEq, Nat.reduceBNe, Nat.reduceAdd, Nat.reduceSub, Nat.reduceMul, Nat.reduceLeDiff, Nat.reduceLT, reduceCtorEq, Nat.reduceEqDiff, Int.reduceToNat, Int.reduceLE, Int.reduceLT, Int.reduceEq, List.length_map, hb2, hge, hw, map_snoc, hmx, hwr, hlo]); all_goals fail_if_success guard_target =ₛ False)
              | (with_reducible refine parVC_stepG rfl (by with_unfolding_all rfl) fun K hK => ?_; (try simp only [go_sem, Nat.reduceBEq, Nat.reduceBNe, Nat.reduceAdd, Nat.reduceSub, Nat.reduceMul, Nat.reduceLeDiff, Nat.reduceLT, reduceCtorEq, Nat.reduceEqDiff, Int.reduceToNat, Int.reduceLE, Int.reduceLT, Int.reduceEq, List.length_map, hb2, hge, hw, map_snoc, hmx, hwr, hlo]); all_goals fail_if_success guard_target =ₛ False)
              | with_reducible refine parVC_nil ?_
              | (with_reducible refine parEVC_stepN rfl fun K hK => ?_; (try simp only [go_sem, Nat.reduceBEq, Nat.reduceBNe, Nat.reduceAdd, Nat.reduceSub, Nat.reduceMul, Nat.reduceLeDiff, Nat.reduceLT, reduceCtorEq, Nat.reduceEqDiff, Int.reduceToNat, Int.reduceLE, Int.reduceLT, Int.reduceEq, List.length_map, hb2, hge, hw, map_snoc, hmx, hwr, hlo]); all_goals fail_if_success guard_target =ₛ False)
              | (with_reducible refine parEVC_stepG rfl (by with_unfolding_all rfl) fun K hK => ?_; (try simp only [go_sem, Nat.reduceBEq, Nat.reduceBNe, Nat.reduceAdd, Nat.reduceSub, Nat.reduceMul, Nat.reduceLeDiff, Nat.reduceLT, reduceCtorEq, Nat.reduceEqDiff, Int.reduceToNat, Int.reduceLE, Int.reduceLT, Int.reduceEq, List.length_map, hb2, hge, hw, map_snoc, hmx, hwr, hlo]); all_goals fail_if_success guard_target =ₛ False)
              | with_reducible refine parEVC_nil ?_
              | (with_reducible refine AWP.cond (by with_unfolding_all rfl) (fun h => ?_) (fun h => ?_); all_goals (try simp only [Bool.not_eq_true', Bool.not_eq_false'] at h); (all_goals try first | (exact absurd h Bool.false_ne_true) | (exact absurd h.symm Bool.false_ne_true) | (exact absurd h (by decide))))
              | with_reducible refine AWP.skip ?_
              | with_reducible refine AWP.ret ?_
              | with_reducible refine AWP.block ?_
              | with_reducible refine AWP.exit ?_
              | (with_reducible refine ⟨fun h => ?_, fun h => ?_⟩ <;> (try simp only [Bool.not_eq_true', Bool.not_eq_false'] at h) <;> simp only [h, go_sem, Nat.reduceBEq, Nat.reduceBNe, Nat.reduceAdd, Nat.reduceSub, Nat.reduceMul, Nat.reduceLeDiff, Nat.reduceLT, reduceCtorEq, Nat.reduceEqDiff, Int.reduceToNat, Int.reduceLE, Int.reduceLT, Int.reduceEq, List.length_map, hb2, hge, hw, map_snoc, hmx, hwr, hlo])
              | (with_reducible refine ⟨by omega, encR d, hd', ?_⟩)
              | (with_reducible refine ⟨encR q, hq', ?_⟩)
              | (with_reducible refine ⟨by omega, ?_⟩)
              | (with_reducible refine ⟨by simp only [List.length_append, List.length_cons, List.length_nil]; omega, ?_⟩)
              | (with_reducible refine AWP.segP (id := 15) 12 mixed (by kernel_rfl) fun K hK => ?_; simp only [List.take_succ_cons, List.take_zero, List.drop_succ_cons, List.drop_zero])
              | (with_reducible refine AWP.parR mixed (by kernel_rfl) fun K hK => ?_)
              | (simp only [go_sem, Nat.reduceBEq, Nat.reduceBNe, Nat.reduceAdd, Nat.reduceSub, Nat.reduceMul, Nat.reduceLeDiff, Nat.reduceLT, reduceCtorEq, Nat.reduceEqDiff, Int.reduceToNat, Int.reduceLE, Int.reduceLT, Int.reduceEq, List.length_map, hb2, hge, hw, map_snoc, hmx, hwr, hlo])
              | (clear hK K))
            rw [wrap_succ hlm (by omega)]
            refine ⟨(m + 1, i ++ [q] ++ [d]), by simp only; omega, ⟨by simp only; omega, ?_, by simp at hol ⊢; omega, ?_⟩, Gh.to [(901, 73)] (by repeat (first | exact trivial | refine ⟨rfl, ?_⟩)) (by repeat (first | exact trivial | refine ⟨rfl, ?_⟩)) rfl rfl rfl⟩
            · rw [hq, mergeStep_f hmx' (by simpa using hlo)]
            · intro r hr
              rcases List.mem_append.1 hr with hr | hr
              · exact ho6 r hr
              · simp only [List.mem_singleton] at hr; rw [hr]; exact hd6.1
          ·
            repeat' (first
              | (with_reducible refine seqVC_stepN rfl fun K hK => ?_; (try simp only [go_sem, Nat.reduceBEq, Nat.reduceBNe, Nat.reduceAdd, Nat.reduceSub, Nat.reduceMul, Nat.reduceLeDiff, Nat.reduceLT, reduceCtorEq, Nat.reduceEqDiff, Int.reduceToNat, Int.reduceLE, Int.reduceLT, Int.reduceEq, List.length_map, hb2, hge, hw, map_snoc, hmx, hwr, hlo]); all_goals fail_if_success guard_target =ₛ False)
              | (with_reducible refine seqVC_stepG rfl (by with_unfolding_all rfl) fun K hK => ?_; (try simp only [go_sem, Nat.reduceBEq, Nat.reduceBNe, Nat.reduceAdd, Nat.reduceSub, Nat.reduceMul, Nat.reduceLeDiff, Nat.reduceLT, reduceCtorEq, Nat.reduceEqDiff, Int.reduceToNat, Int.reduceLE, Int.reduceLT, Int.reduceEq, List.length_map, hb2, hge, hw, map_snoc, hmx, hwr, hlo]); all_goals fail_if_success guard_target =ₛ False)
              | with_reducible refine seqVC_nil ?_
              | (with_reducible refine hK _ _ ?_; clear hK K)
              | (with_reducible refine hK _ ?_; clear hK K)
              | with_reducible refine AWP.seq fun K hK => ?_
              | (with_reducible refine AWP.seqR (by kernel_rfl) fun K hK => ?_)
              | (with_reducible refine parVC_stepN rfl fun K hK => ?_; (try simp only [go_sem, Nat.reduceBEq, Nat.reduceBNe, Nat.reduceAdd, Nat.reduceSub, Nat.reduceMul, Nat.reduceLeDiff, Nat.reduceLT, reduceCtorEq, Nat.reduceEqDiff, Int.reduceToNat, Int.reduceLE, Int.reduceLT, Int.reduceEq, List.length_map, hb2, hge, hw, map_snoc, hmx, hwr, hlo]); all_goals fail_if_success guard_target =ₛ False)
              | (with_reducible refine parVC_stepG rfl (by with_unfolding_all rfl) fun K hK => ?_; (try simp only [go_sem, Nat.reduceBEq, Nat.reduceBNe, Nat.reduceAdd, Nat.reduceSub, Nat.reduceMul, Nat.reduceLeDiff, Nat.reduceLT, reduceCtorEq, Nat.reduceEqDiff, Int.reduceToNat, Int.reduceLE, Int.reduceLT, Int.reduceEq, List.length_map, hb2, hge, hw, map_snoc, hmx, hwr, hlo]); all_goals fail_if_success guard_target =ₛ False)
              | with_reducible refine parVC_nil ?_
              | (with_reducible refine parEVC_stepN rfl fun K hK => ?_; (try simp only [go_sem, Nat.reduceBEq, Nat.reduceBNe, Nat.reduceAdd, Nat.reduceSub, Nat.reduceMul, Nat.reduceLeDiff, Nat.reduceLT, reduceCtorEq, Nat.reduceEqDiff, Int.reduceToNat, Int.reduceLE, Int.reduceLT, Int.reduceEq, List.length_map, hb2, hge, hw, map_snoc, hmx, hwr, hlo]); all_goals fail_if_success guard_target =ₛ False)
              | (with_reducible refine parEVC_stepG rfl (by with_unfolding_all rfl) fun K hK => ?_; (try simp only [go_sem, Nat.reduceBEq, Nat.reduceBNe, Nat.reduceAdd, Nat.reduceSub, Nat.reduceMul, Nat.reduceLeDiff, Nat.reduceLT, reduceCtorEq, Nat.reduceEqDiff, Int.reduceToNat, Int.reduceLE, Int.reduceLT, Int.reduceEq, List.length_map, hb2, hge, hw, map_snoc, hmx, hwr, hlo]); all_goals fail_if_success guard_target =ₛ False)
              | with_reducible refine parEVC_nil ?_
              | (with_reducible refine AWP.cond (by with_unfolding_all rfl) (fun h => ?_) (fun h => ?_); all_goals (try simp only [Bool.not_eq_true', Bool.not_eq_false'] at h); (all_goals try first | (exact absurd h Bool.false_ne_true) | (exact absurd h.symm Bool.false_ne_true) | (exact absurd h (by decide))))
              | with_reducible refine AWP.skip ?_
              | with_reducible refine AWP.ret ?_
              | with_reducible refine AWP.block ?_
              | with_reducible refine AWP.exit ?_
              | (with_reducible refine ⟨fun h => ?_, fun h => ?_⟩ <;> (try simp only [Bool.not_eq_true', Bool.not_eq_false'] at h) <;> simp only [h, go_sem, Nat.reduceBEq, Nat.reduceBNe, Nat.reduceAdd, Nat.reduceSub, Nat.reduceMul, Nat.reduceLeDiff, Nat.reduceLT, reduceCtorEq, Nat.reduceEqDiff, Int.reduceToNat, Int.reduceLE, Int.reduceLT, Int.reduceEq, List.length_map, hb2, hge, hw, map_snoc, hmx, hwr, hlo])
              | (with_reducible refine ⟨by omega, encR d, hd', ?_⟩)
              | (with_reducible refine ⟨encR q, hq', ?_⟩)
              | (with_reducible refine ⟨by omega, ?_⟩)
              | (with_reducible refine ⟨by simp only [List.length_append, List.length_cons, List.length_nil]; omega, ?_⟩)
              | (with_reducible refine AWP.segP (id := 15) 12 mixed (by kernel_rfl) fun K hK => ?_; simp only [List.take_succ_cons, List.take_zero, List.drop_succ_cons, List.drop_zero])
              | (with_reducible refine AWP.parR mixed (by kernel_rfl) fun K hK => ?_)
              | (simp only [go_sem, Nat.reduceBEq, Nat.reduceBNe, Nat.reduceAdd, Nat.reduceSub, Nat.reduceMul, Nat.reduceLeDiff, Nat.reduceLT, reduceCtorEq, Nat.reduceEqDiff, Int.reduceToNat, Int.reduceLE, Int.reduceLT, Int.reduceEq, List.length_map, hb2, hge, hw, map_snoc, hmx, hwr, hlo])
              | (clear hK K))
            rw [wrap_succ hlm (by omega)]
            simp only [encR_mk, set_last]
            refine ⟨(m + 1, i ++ [⟨q.lo, if d.hi > q.hi then d.hi else q.hi⟩]), by simp only; omega, ⟨by simp only; omega, ?_, by simp at hol ⊢; omega, ?_⟩, Gh.to [] ⟨rfl, rfl, rfl, ?_, trivial⟩ (by repeat (first | exact trivial | refine ⟨rfl, ?_⟩)) rfl rfl rfl⟩
            · rw [hq, mergeStep_t (.inr (by simpa using hlo))]
            · exact in_last ho6 hd6.1
            · show some (T.one (Cell.own 901 (i ++ [q]).length)) = some (T.one (Cell.own 901 (i ++ [_]).length)); simp
        ·
          repeat' (first
            | (with_reducible refine seqVC_stepN rfl fun K hK => ?_; (try simp only [go_sem, Nat.reduceBEq, Nat.reduceBNe, Nat.reduceAdd, Nat.reduceSub, Nat.reduceMul, Nat.reduceLeDiff, Nat.reduceLT, reduceCtorEq, Nat.reduceEqDiff, Int.reduceToNat, Int.reduceLE, Int.reduceLT, Int.reduceEq, List.length_map, hb2, hge, hw, map_snoc, hmx]); all_goals fail_if_success guard_target =ₛ False)
            | (with_reducible refine seqVC_stepG rfl (by with_unfolding_all rfl) fun K hK => ?_; (try simp only [go_sem, Nat.reduceBEq, Nat.reduceBNe, Nat.reduceAdd, Nat.reduceSub, Nat.reduceMul, Nat.reduceLeDiff, Nat.reduceLT, reduceCtorEq, Nat.reduceEqDiff, Int.reduceToNat, Int.reduceLE, Int.reduceLT, Int.reduceEq, List.length_map, hb2, hge, hw, map_snoc, hmx]); all_goals fail_if_success guard_target =ₛ False)
            | with_reducible refine seqVC_nil ?_
            | (with_reducible refine hK _ _ ?_; clear hK K)
            | (with_reducible refine hK _ ?_; clear hK K)
            | with_reducible refine AWP.seq fun K hK => ?_
            | (with_reducible refine AWP.seqR (by kernel_rfl) fun K hK => ?_)
            | (with_reducible refine parVC_stepN rfl fun K hK => ?_; (try simp only [go_sem, Nat.reduceBEq, Nat.reduceBNe, Nat.reduceAdd, Nat.reduceSub, Nat.reduceMul, Nat.reduceLeDiff, Nat.reduceLT, reduceCtorEq, Nat.reduceEqDiff, Int.reduceToNat, Int.reduceLE, Int.reduceLT, Int.reduceEq, List.length_map, hb2, hge, hw, map_snoc, hmx]); all_goals fail_if_success guard_target =ₛ False)
            | (with_reducible refine parVC_stepG rfl (by with_unfolding_all rfl) fun K hK => ?_; (try simp only [go_sem, Nat.reduceBEq, Nat.reduceBNe, Nat.reduceAdd, Nat.reduceSub, Nat.reduceMul, Nat.reduceLeDiff, Nat.reduceLT, reduceCtorEq, Nat.reduceEqDiff, Int.reduceToNat, Int.reduceLE, Int.reduceLT, Int.reduceEq, List.length_map, hb2, hge, hw, map_snoc, hmx]); all_goals fail_if_success guard_target =ₛ False)
            | with_reducible refine parVC_nil ?_
            | (with_reducible refine parEVC_stepN rfl fun K hK => ?_; (try simp only [go_sem, Nat.reduceBEq, Nat.reduceBNe, Nat.reduceAdd, Nat.reduceSub, Nat.reduceMul, Nat.reduceLeDiff, Nat.reduceLT, reduceCtorEq, Nat.reduceEqDiff, Int.reduceToNat, Int.reduceLE, Int.reduceLT, Int.reduceEq, List.length_map, hb2, hge, hw, map_snoc, hmx]); all_goals fail_if_success guard_target =ₛ False)
            | (with_reducible refine parEVC_stepG rfl (by with_unfolding_all rfl) fun K hK => ?_; (try simp only [go_sem, Nat.reduceBEq, Nat.reduceBNe, Nat.reduceAdd, Nat.reduceSub, Nat.reduceMul, Nat.reduceLeDiff, Nat.reduceLT, reduceCtorEq, Nat.reduceEqDiff, Int.reduceToNat, Int.reduceLE, Int.reduceLT, Int.reduceEq, List.length_map, hb2, hge, hw, map_snoc, hmx]); all_goals fail_if_success guard_target =ₛ False)
            | with_reducible refine parEVC_nil ?_
            | (with_reducible refine AWP.cond (by with_unfolding_all rfl) (fun h => ?_) (fun h => ?_); all_goals (try simp only [Bool.not_eq_true', Bool.not_eq_false'] at h); (all_goals try first | (exact absurd h Bool.false_ne_true) | (exact absurd h.symm Bool.false_ne_true) | (exact absurd h (by decide))))
            | with_reducible refine AWP.skip ?_
            | with_reducible refine AWP.ret ?_
            | with_reducible refine AWP.block ?_
            | with_reducible refine AWP.exit ?_
            | (with_reducible refine ⟨fun h => ?_, fun h => ?_⟩ <;> (try simp only [Bool.not_eq_true', Bool.not_eq_false'] at h) <;> simp only [h, go_sem, Nat.reduceBEq, Nat.reduceBNe, Nat.reduceAdd, Nat.reduceSub, Nat.reduceMul, Nat.reduceLeDiff, Nat.reduceLT, reduceCtorEq, Nat.reduceEqDiff, Int.reduceToNat, Int.reduceLE, Int.reduceLT, Int.reduceEq, List.length_map, hb2, hge, hw, map_snoc, hmx])
            | (with_reducible refine ⟨by omega, encR d, hd', ?_⟩)
            | (with_reducible refine ⟨encR q, hq', ?_⟩)
            | (with_reducible refine ⟨by omega, ?_⟩)
            | (with_reducible refine ⟨by simp only [List.length_append, List.length_cons, List.length_nil]; omega, ?_⟩)
            | (with_reducible refine AWP.segP (id := 15) 12 mixed (by kernel_rfl) fun K hK => ?_; simp only [List.take_succ_cons, List.take_zero, List.drop_succ_cons, List.drop_zero])
            | (with_reducible refine AWP.parR mixed (by kernel_rfl) fun K hK => ?_)
            | (simp only [go_sem, Nat.reduceBEq, Nat.reduceBNe, Nat.reduceAdd, Nat.reduceSub, Nat.reduceMul, Nat.reduceLeDiff, Nat.reduceLT, reduceCtorEq, Nat.reduceEqDiff, Int.reduceToNat, Int.reduceLE, Int.reduceLT, Int.reduceEq, List.length_map, hb2, hge, hw, map_snoc, hmx])
            | (clear hK K))
          rw [wrap_succ hlm (by omega)]
          simp only [encR_mk, set_last]
          refine ⟨(m + 1, i ++ [⟨q.lo, if d.hi > q.hi then d.hi else q.hi⟩]), by simp only; omega, ⟨by simp only; omega, ?_, by simp at hol ⊢; omega, ?_⟩, Gh.to [] ⟨rfl, rfl, rfl, ?_, trivial⟩ (by repeat (first | exact trivial | refine ⟨rfl, ?_⟩)) rfl rfl rfl⟩
          · rw [hq, mergeStep_t (.inl (by simpa using hmx))]
          · exact in_last ho6 hd6.1
          · show some (T.one (Cell.own 901 (i ++ [q]).length)) = some (T.one (Cell.own 901 (i ++ [_]).length)); simp
    · obtain ⟨hb2, hdx⟩ := at_ge hlm
      rw [hdx, List.foldl_nil] at hq
      repeat' (first
        | (with_reducible refine seqVC_stepN rfl fun K hK => ?_; (try simp only [go_sem, Nat.reduceBEq, Nat.reduceBNe, Nat.reduceAdd, Nat.reduceSub, Nat.reduceMul, Nat.reduceLeDiff, Nat.reduceLT, reduceCtorEq, Nat.reduceEqDiff, Int.reduceToNat, Int.reduceLE, Int.reduceLT, Int.reduceEq, List.length_map, hb2]); all_goals fail_if_success guard_target =ₛ False)
        | (with_reducible refine seqVC_stepG rfl (by with_unfolding_all rfl) fun K hK => ?_; (try simp only [go_sem, Nat.reduceBEq, Nat.reduceBNe, Nat.reduceAdd, Nat.reduceSub, Nat.reduceMul, Nat.reduceLeDiff, Nat.reduceLT, reduceCtorEq, Nat.reduceEqDiff, Int.reduceToNat, Int.reduceLE, Int.reduceLT, Int.reduceEq, List.length_map, hb2]); all_goals fail_if_success guard_target =ₛ False)
        | with_reducible refine seqVC_nil ?_
        | (with_reducible refine hK _ _ ?_; clear hK K)
        | (with_reducible refine hK _ ?_; clear hK K)
        | with_reducible refine AWP.seq fun K hK => ?_
        | (with_reducible refine AWP.seqR (by kernel_rfl) fun K hK => ?_)
        | (with_reducible refine parVC_stepN rfl fun K hK => ?_; (try simp only [go_sem, Nat.reduceBEq, Nat.reduceBNe, Nat.reduceAdd, Nat.reduceSub, Nat.reduceMul, Nat.reduceLeDiff, Nat.reduceLT, reduceCtorEq, Nat.reduceEqDiff, Int.reduceToNat, Int.reduceLE, Int.reduceLT, Int.reduceEq, List.length_map, hb2]); all_goals fail_if_success guard_target =ₛ False)
        | (with_reducible refine parVC_stepG rfl (by with_unfolding_all rfl) fun K hK => ?_; (try simp only [go_sem, Nat.reduceBEq, Nat.reduceBNe, Nat.reduceAdd, Nat.reduceSub, Nat.reduceMul, Nat.reduceLeDiff, Nat.reduceLT, reduceCtorEq, Nat.reduceEqDiff, Int.reduceToNat, Int.reduceLE, Int.reduceLT, Int.reduceEq, List.length_map, hb2]); all_goals fail_if_success guard_target =ₛ False)
        | with_reducible refine parVC_nil ?_
        | (with_reducible refine parEVC_stepN rfl fun K hK => ?_; (try simp only [go_sem, Nat.reduceBEq, Nat.reduceBNe, Nat.reduceAdd, Nat.reduceSub, Nat.reduceMul, Nat.reduceLeDiff, Nat.reduceLT, reduceCtorEq, Nat.reduceEqDiff, Int.reduceToNat, Int.reduceLE, Int.reduceLT, Int.reduceEq, List.length_map, hb2]); all_goals fail_if_success guard_target =ₛ False)
        | (with_reducible refine parEVC_stepG rfl (by with_unfolding_all rfl) fun K hK => ?_; (try simp only [go_sem, Nat.reduceBEq, Nat.reduceBNe, Nat.reduceAdd, Nat.reduceSub, Nat.reduceMul, Nat.reduceLeDiff, Nat.reduceLT, reduceCtorEq, Nat.reduceEqDiff, Int.reduceToNat, Int.reduceLE, Int.reduceLT, Int.reduceEq, List.length_map, hb2]); all_goals fail_if_success guard_target =ₛ False)
        | with_reducible refine parEVC_nil ?_
        | (with_reducible refine AWP.cond (by with_unfolding_all rfl) (fun h => ?_) (fun h => ?_); all_goals (try simp only [Bool.not_eq_true', Bool.not_eq_false'] at h); (all_goals try first | (exact absurd h Bool.false_ne_true) | (exact absurd h.symm Bool.false_ne_true) | (exact absurd h (by decide))))
        | with_reducible refine AWP.skip ?_
        | with_reducible refine AWP.ret ?_
        | with_reducible refine AWP.block ?_
        | with_reducible refine AWP.exit ?_
        | (with_reducible refine ⟨fun h => ?_, fun h => ?_⟩ <;> (try simp only [Bool.not_eq_true', Bool.not_eq_false'] at h) <;> simp only [h, go_sem, Nat.reduceBEq, Nat.reduceBNe, Nat.reduceAdd, Nat.reduceSub, Nat.reduceMul, Nat.reduceLeDiff, Nat.reduceLT, reduceCtorEq, Nat.reduceEqDiff, Int.reduceToNat, Int.reduceLE, Int.reduceLT, Int.reduceEq, List.length_map, hb2])
        | (with_reducible refine AWP.segP (id := 15) 12 mixed (by kernel_rfl) fun K hK => ?_; simp only [List.take_succ_cons, List.take_zero, List.drop_succ_cons, List.drop_zero])
        | (with_reducible refine AWP.parR mixed (by kernel_rfl) fun K hK => ?_)
        | (simp only [go_sem, Nat.reduceBEq, Nat.reduceBNe, Nat.reduceAdd, Nat.reduceSub, Nat.reduceMul, Nat.reduceLeDiff, Nat.reduceLT, reduceCtorEq, Nat.reduceEqDiff, Int.reduceToNat, Int.reduceLE, Int.reduceLT, Int.reduceEq, List.length_map, hb2])
        | (clear hK K))
      refine ⟨_, Gh.freeze 901 rfl rfl (by simp only [go_sem, Nat.reduceBEq, Nat.reduceBNe, Nat.reduceAdd, Nat.reduceSub, Nat.reduceMul, Nat.reduceLeDiff, Nat.reduceLT, reduceCtorEq, Nat.reduceEqDiff, Int.reduceToNat, Int.reduceLE, Int.reduceLT, Int.reduceEq, List.length_map]) (by simp only [go_sem, Nat.reduceBEq, Nat.reduceBNe, Nat.reduceAdd, Nat.reduceSub, Nat.reduceMul, Nat.reduceLeDiff, Nat.reduceLT, reduceCtorEq, Nat.reduceEqDiff, Int.reduceToNat, Int.reduceLE, Int.reduceLT, Int.reduceEq, List.length_map]), ?_⟩
      simp only [go_sem, Nat.reduceBEq, Nat.reduceBNe, Nat.reduceAdd, Nat.reduceSub, Nat.reduceMul, Nat.reduceLeDiff, Nat.reduceLT, reduceCtorEq, Nat.reduceEqDiff, Int.reduceToNat, Int.reduceLE, Int.reduceLT, Int.reduceEq, List.length_map]
      all_goals (first | exact fun _ h => (by cases h) | refine fin0 ?_)
      all_goals rw [hq]
end Go.Proofs.Ytjpkddhpkohiaaa
