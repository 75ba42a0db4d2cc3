/- A part of the proof: lemmas about the walk of the program and about plain integers and lists. No conditions beyond those that each lemma states. -/
import Derived.Test.YtjpkddhpkohiaaaL2T8
set_option linter.unusedSimpArgs false
set_option linter.unusedVariables false
set_option maxRecDepth 20000
set_option maxHeartbeats 400000
namespace Go.Proofs.Ytjpkddhpkohiaaa
open Go Go.Sx Go.Ivl

abbrev In64 (n : Int) : Prop := -9223372036854775808 ≤ n ∧ n ≤ 9223372036854775807
def ab (x : Int) : Int := if x < 0 then -x else x
theorem ab_spec (x : Int) : (x < 0 ∧ ab x = -x) ∨ (0 ≤ x ∧ ab x = x) := by unfold ab; split <;> omega
def Far (n x : Int) : Prop := ab x < ab n ∨ (ab n = ab x ∧ (0 ≤ x ∨ n < 0))
def Best (l : List Rg) (x : Int) : Prop := has l x ∧ ∀ n, has l n → Far n x
theorem best_unique {l : List Rg} {x y : Int} (h : Best l x) (k : Best l y) : x = y := by
  have h1 := h.2 y k.1
  have h2 := k.2 x h.1
  unfold Far at *
  have := ab_spec x
  have := ab_spec y
  omega
theorem u64_in {n : Int} (h : 0 ≤ n ∧ n ≤ 18446744073709551615) : IntKind.u64.wrap n = n := by
  simp only [IntKind.wrap, IntKind.bits, IntKind.signed]; simp; omega
theorem absS_in {a : Int} (h : In64 a) : absS a = ab a := by
  unfold absS ab
  split
  · have : IntKind.u64.wrap a = a + 18446744073709551616 := by simp only [IntKind.wrap, IntKind.bits, IntKind.signed]; simp; omega
    rw [this]
    simp only [IntKind.wrap, IntKind.bits, IntKind.signed]; simp; omega
  · exact u64_in (by omega)
theorem leastN_best {r : Rg} (h : r.lo ≤ r.hi) : Best [r] (leastN r) := by
  unfold Best leastN
  simp only [has_cons, has_nil, or_false]
  refine ⟨by split <;> split <;> omega, fun n hn => ?_⟩
  unfold Far
  have := ab_spec n
  have hx := ab_spec (if r.lo > (if r.hi < 0 then r.hi else 0) then r.lo else (if r.hi < 0 then r.hi else 0))
  by_cases h1 : r.hi < 0 <;> by_cases h2 : r.lo > 0 <;> by_cases h3 : r.lo > r.hi <;> simp only [h1, h2, h3, if_true, if_false] at hx ⊢ <;> omega

theorem leastN_in {r : Rg} (h : In6 r) : In64 (leastN r) := by
  unfold In6 at h
  unfold leastN
  split <;> split <;> omega
def LeastOk (l : List Rg) (s : Int × Bool) : Prop := (s.2 = false ∧ s.1 = 0 ∧ ∀ n, ¬ has l n) ∨ (s.2 = true ∧ In64 s.1 ∧ Best l s.1)
theorem leastStep_ok {l : List Rg} {s : Int × Bool} {r : Rg} (hr : In6 r) (h : LeastOk l s) : LeastOk (l ++ [r]) (leastStep s r) := by
  unfold leastStep
  cases he : decide (r.hi < r.lo) with
  | true =>
    simp only [decide_eq_true_eq] at he
    simp only [cond_true]
    have hsame : ∀ n, has (l ++ [r]) n ↔ has l n := fun n => by
      rw [has_append, has_cons, has_nil, or_false]
      exact ⟨fun h => h.elim id fun h => by omega, .inl⟩
    rcases h with ⟨h1, h2, h3⟩ | ⟨h1, h2, h3, h4⟩
    · exact .inl ⟨h1, h2, fun n k => h3 n ((hsame n).1 k)⟩
    · exact .inr ⟨h1, h2, (hsame _).2 h3, fun n k => h4 n ((hsame n).1 k)⟩
  | false =>
    simp only [decide_eq_false_iff_not] at he
    simp only [cond_false]
    have hb := leastN_best (r := r) (by omega)
    have hi := leastN_in hr
    have hmem : ∀ n, has (l ++ [r]) n ↔ has l n ∨ has [r] n := fun n => has_append
    rcases h with ⟨h1, h2, h3⟩ | ⟨h1, h2, h3, h4⟩
    · have : better s (leastN r) = true := by unfold better; rw [h1]; rfl
      rw [this]
      refine .inr ⟨rfl, hi, (hmem _).2 (.inr hb.1), fun n k => ?_⟩
      exact hb.2 n (((hmem n).1 k).elim (fun k => absurd k (h3 n)) id)
    · have hbet : better s (leastN r) = (decide (ab (leastN r) < ab s.1) || (decide (ab (leastN r) = ab s.1) && decide (s.1 < leastN r))) := by
        unfold better; rw [h1, absS_in hi, absS_in h2]; rfl
      rw [hbet]
      cases hc : (decide (ab (leastN r) < ab s.1) || (decide (ab (leastN r) = ab s.1) && decide (s.1 < leastN r))) with
      | true =>
        simp only [Bool.or_eq_true, Bool.and_eq_true, decide_eq_true_eq] at hc
        refine .inr ⟨rfl, hi, (hmem _).2 (.inr hb.1), fun n k => ?_⟩
        rcases (hmem n).1 k with k | k
        · have := h4 n k
          simp only [cond_true]
          unfold Far at *
          generalize leastN r = z at *
          generalize s.1 = y at *
          have := ab_spec z
          have := ab_spec y
          have := ab_spec n
          omega
        · exact hb.2 n k
      | false =>
        simp only [Bool.or_eq_false_iff, Bool.and_eq_false_iff, decide_eq_false_iff_not] at hc
        refine .inr ⟨h1, h2, (hmem _).2 (.inl h3), fun n k => ?_⟩
        rcases (hmem n).1 k with k | k
        · exact h4 n k
        · have := hb.2 n k
          simp only [cond_false]
          unfold Far at *
          generalize leastN r = z at *
          generalize s.1 = y at *
          have := ab_spec z
          have := ab_spec y
          have := ab_spec n
          omega
theorem leastFold_ok : ∀ (l pre : List Rg) (s : Int × Bool), (∀ r ∈ l, In6 r) → LeastOk pre s → LeastOk (pre ++ l) (l.foldl leastStep s)
  | [], pre, s, _, h => by simpa using h
  | r :: l, pre, s, hl, h => by
    have := leastFold_ok l (pre ++ [r]) (leastStep s r) (fun x hx => hl x (List.mem_cons_of_mem _ hx)) (leastStep_ok (hl r (by simp)) h)
    simpa using this
theorem least_ok {l : List Rg} (hl : ∀ r ∈ l, In6 r) : LeastOk l (l.foldl leastStep (0, false)) := leastFold_ok l [] (0, false) hl (.inl ⟨rfl, rfl, by simp [has]⟩)

theorem upF_ok : ∀ {l : List Rg}, Nf l → (upF l = 0 ∧ ∀ r ∈ l, ¬ 0 < r.lo) ∨ (0 < upF l ∧ has l (upF l) ∧ ∀ r ∈ l, 0 < r.lo → upF l ≤ r.lo)
  | [], _ => .inl ⟨rfl, by simp⟩
  | r :: l, h => by
    have hr := h.head
    have hp := (List.pairwise_cons.1 h.2).1
    simp only [upF]
    cases hc : decide (0 < r.lo) with
    | true =>
      simp only [decide_eq_true_eq] at hc
      refine .inr ⟨hc, has_cons.2 (.inl ⟨Int.le_refl _, hr⟩), fun x hx hx0 => ?_⟩
      rcases List.mem_cons.1 hx with rfl | hx
      · exact Int.le_refl _
      · have := hp x hx; simp only [cond_true]; omega
    | false =>
      simp only [decide_eq_false_iff_not] at hc
      simp only [cond_false]
      rcases upF_ok h.tail with ⟨h1, h2⟩ | ⟨h1, h2, h3⟩
      · refine .inl ⟨h1, fun x hx => ?_⟩
        rcases List.mem_cons.1 hx with rfl | hx
        · exact hc
        · exact h2 x hx
      · refine .inr ⟨h1, has_cons.2 (.inr h2), fun x hx hx0 => ?_⟩
        rcases List.mem_cons.1 hx with rfl | hx
        · exact absurd hx0 hc
        · exact h3 x hx hx0
theorem down_ok : ∀ {l : List Rg} (s : Int), Nf l → (l.foldl downStep s = s ∧ ∀ r ∈ l, ¬ r.hi < 0) ∨ (l.foldl downStep s < 0 ∧ has l (l.foldl downStep s) ∧ ∀ r ∈ l, r.hi < 0 → r.hi ≤ l.foldl downStep s)
  | [], s, _ => .inl ⟨rfl, by simp⟩
  | r :: l, s, h => by
    have hr := h.head
    have hp := (List.pairwise_cons.1 h.2).1
    simp only [List.foldl_cons]
    rcases down_ok (downStep s r) h.tail with ⟨h1, h2⟩ | ⟨h1, h2, h3⟩
    · rw [h1]
      cases hc : decide (r.hi < 0) with
      | true =>
        simp only [downStep, hc, cond_true]
        simp only [decide_eq_true_eq] at hc
        refine .inr ⟨hc, has_cons.2 (.inl ⟨hr, Int.le_refl _⟩), fun x hx hx0 => ?_⟩
        rcases List.mem_cons.1 hx with rfl | hx
        · exact Int.le_refl _
        · exact absurd hx0 (h2 x hx)
      | false =>
        simp only [downStep, hc, cond_false]
        simp only [decide_eq_false_iff_not] at hc
        refine .inl ⟨trivial, fun x hx => ?_⟩
        rcases List.mem_cons.1 hx with rfl | hx
        · exact hc
        · exact h2 x hx
    · refine .inr ⟨h1, has_cons.2 (.inr h2), fun x hx hx0 => ?_⟩
      rcases List.mem_cons.1 hx with rfl | hx
      · obtain ⟨q, hq, hq1, hq2⟩ := h2
        have := hp q hq
        omega
      · exact h3 x hx hx0

theorem leastR_ok {l : List Rg} (hn : Nf l) (h6 : ∀ r ∈ l, In6 r) : LeastOk l (leastR l) := by
  unfold leastR
  by_cases he : l = []
  · rw [decide_eq_true he]; exact .inl ⟨rfl, rfl, by rw [he]; simp [has]⟩
  · rw [decide_eq_false he]
    simp only [cond_false]
    cases hz : hasB l 0 with
    | true =>
      simp only [cond_true]
      refine .inr ⟨rfl, by simp only; omega, hasB_iff.1 hz, fun n hn => ?_⟩
      simp only; unfold Far
      have := ab_spec n
      have := ab_spec 0
      omega
    | false =>
      simp only [cond_false]
      have hz' : ¬ has l 0 := fun h => by rw [← hasB_iff, hz] at h; cases h
      have sgn : ∀ r ∈ l, 0 < r.lo ∨ r.hi < 0 := fun r hr => by
        by_cases h1 : 0 < r.lo
        · exact .inl h1
        · by_cases h2 : r.hi < 0
          · exact .inr h2
          · exact absurd ⟨r, hr, by omega, by omega⟩ hz'
      have hin := has_In6 h6
      have hup := upF_ok hn
      have hdn := down_ok 0 hn
      generalize l.foldl downStep 0 = dn at *
      generalize upF l = up at *
      have far_of : ∀ x : Int, (∀ r ∈ l, (0 < r.lo → ab x < r.lo ∨ (ab x = r.lo ∧ 0 ≤ x)) ∧ (r.hi < 0 → ab x < -r.hi ∨ (ab x = -r.hi))) → ∀ n, has l n → Far n x := by
        intro x hx n hn
        obtain ⟨r, hr, h1, h2⟩ := hn
        obtain ⟨k1, k2⟩ := hx r hr
        have hab : (0 < n → ab n = n) ∧ (n < 0 → ab n = -n) := ⟨fun h => by unfold ab; rw [if_neg (by omega)], fun h => by unfold ab; rw [if_pos h]⟩
        unfold Far
        rcases sgn r hr with h | h
        · have := k1 h
          have e := hab.1 (by omega)
          rw [e]
          omega
        · have := k2 h
          have e := hab.2 (by omega)
          rw [e]
          omega
      rcases hdn with ⟨d1, d2⟩ | ⟨d1, d2, d3⟩
      · -- no negative member
        have hc : (decide (dn = 0) || (decide (0 < up) && decide (IntKind.i64.wrap (up - 1) ≤ IntKind.i64.wrap (0 - IntKind.i64.wrap (dn + 1))))) = true := by rw [decide_eq_true d1]; rfl
        rw [hc]
        simp only [cond_true]
        rcases hup with ⟨u1, u2⟩ | ⟨u1, u2, u3⟩
        · exfalso
          cases l with
          | nil => exact he rfl
          | cons r l =>
            have := sgn r (by simp)
            have a := u2 r (by simp)
            have b := d2 r (by simp)
            omega
        · refine .inr ⟨rfl, hin _ u2, u2, far_of up fun r hr => ⟨fun h => ?_, fun h => absurd h (d2 r hr)⟩⟩
          have := u3 r hr h
          have e : ab up = up := by unfold ab; rw [if_neg (by omega)]
          rw [e]; omega
      · have hdi := hin _ d2
        have w1 : IntKind.i64.wrap (dn + 1) = dn + 1 := by rw [w64 (by omega)]
        have w2 : IntKind.i64.wrap (0 - (dn + 1)) = -(dn + 1) := by rw [w64 (by omega)]; omega
        have edn : ab dn = -dn := by unfold ab; rw [if_pos (by omega)]
        rw [w1, w2, decide_eq_false (show ¬ dn = 0 by omega), Bool.false_or]
        rcases hup with ⟨u1, u2⟩ | ⟨u1, u2, u3⟩
        · rw [decide_eq_false (show ¬ 0 < up by omega), Bool.false_and]
          simp only [cond_false]
          refine .inr ⟨rfl, hdi, d2, far_of dn fun r hr => ⟨fun h => absurd h (u2 r hr), fun h => ?_⟩⟩
          have := d3 r hr h
          rw [edn]; omega
        · have hui := hin _ u2
          have w3 : IntKind.i64.wrap (up - 1) = up - 1 := by rw [w64 (by omega)]
          have eup : ab up = up := by unfold ab; rw [if_neg (by omega)]
          rw [w3, decide_eq_true u1, Bool.true_and]
          cases hle : decide (up - 1 ≤ -(dn + 1)) with
          | true =>
            simp only [decide_eq_true_eq] at hle
            simp only [cond_true]
            refine .inr ⟨rfl, hui, u2, far_of up fun r hr => ⟨fun h => ?_, fun h => ?_⟩⟩
            · have := u3 r hr h
              rw [eup]; omega
            · have := d3 r hr h
              rw [eup]; omega
          | false =>
            simp only [decide_eq_false_iff_not] at hle
            simp only [cond_false]
            refine .inr ⟨rfl, hdi, d2, far_of dn fun r hr => ⟨fun h => ?_, fun h => ?_⟩⟩
            · have := u3 r hr h
              rw [edn]; omega
            · have := d3 r hr h
              rw [edn]; omega

theorem farB_of {n x : Int} (hn : In64 n) (hx : In64 x) (h : Far n x) : farB n x = true := by
  have e : ∀ y : Int, In64 y → negP y = -ab y := by
    intro y hy
    unfold negP ab
    cases hc : decide (0 < y) with
    | true =>
      simp only [decide_eq_true_eq] at hc
      simp only [cond_true]
      rw [w64 (by omega), if_neg (by omega)]; omega
    | false =>
      simp only [decide_eq_false_iff_not] at hc
      simp only [cond_false]
      split <;> omega
  unfold farB
  rw [e n hn, e x hx]
  unfold Far at h
  simp only [Bool.or_eq_true, Bool.and_eq_true, decide_eq_true_eq]
  omega

theorem least_law (a : List Rg) (ha : ∀ r ∈ a, In6 r) (n : Int) (hn : In64 n) : PC Try.prog 3 [Sl a, I .i64 n] (Bo true) := by
  refine PCB.of_body Try.func3 rfl (by decide) Try.ntmps3 Try.results3 rfl rfl rfl ?_ rfl rfl
  by_cases hsz : a.length ≤ 40
  · have hc : decide ((40 : Int) < (a.length : Int)) = false := by simp; omega
    have h1 := least_c a
    have h2 := leastInt_c a ha (by omega)
    have k1 := least_ok ha
    have k2 := leastR_ok (nf_Nf a) (nf_In6 ha)
    have heq : leastR (nf a) = a.foldl leastStep (0, false) := by
      generalize leastR (nf a) = s at *
      generalize a.foldl leastStep (0, false) = t at *
      obtain ⟨s1, s2⟩ := s
      obtain ⟨t1, t2⟩ := t
      rcases k1 with ⟨a1, a2, a3⟩ | ⟨a1, a2, a3⟩ <;> rcases k2 with ⟨b1, b2, b3⟩ | ⟨b1, b2, b3⟩
      · simp only at a1 a2 b1 b2; rw [a1, a2, b1, b2]
      · exact absurd ((nf_has a _).1 b3.1) (a3 _)
      · exact absurd ((nf_has a _).2 a3.1) (b3 _)
      · simp only at a1 b1 a3 b3
        rw [a1, b1, best_unique a3 ⟨(nf_has a _).1 b3.1, fun m hm => b3.2 m ((nf_has a m).2 hm)⟩]
    rw [heq] at h2
    generalize a.foldl leastStep (0, false) = s at *
    obtain ⟨x, ok⟩ := s
    simp only at h1 h2
    rcases k1 with ⟨a1, a2, a3⟩ | ⟨a1, a2, a3⟩
    · simp only at a1 a2
      subst a1
      have hx : hasB a n = false := by rw [← Bool.not_eq_true, hasB_iff]; exact a3 n
      repeat' (first
        | (with_reducible refine seqVC_stepN rfl fun K hK => ?_; (try simp only [go_sem, Nat.reduceBEq, Nat.reduceBNe, Nat.reduceAdd, Nat.reduceSub, Nat.reduceMul, Nat.reduceLeDiff, Nat.reduceLT, reduceCtorEq, Nat.reduceEqDiff, Int.reduceToNat, Int.reduceLE, Int.reduceLT, Int.reduceEq, List.length_map, hc, hx, beq_self_eq_true, decide_eq_true]); all_goals fail_if_success guard_target =ₛ False)
        | (with_reducible refine seqVC_stepG rfl (by with_unfolding_all rfl) fun K hK => ?_; (try simp only [go_sem, Nat.reduceBEq, Nat.reduceBNe, Nat.reduceAdd, Nat.reduceSub, Nat.reduceMul, Nat.reduceLeDiff, Nat.reduceLT, reduceCtorEq, Nat.reduceEqDiff, Int.reduceToNat, Int.reduceLE, Int.reduceLT, Int.reduceEq, List.length_map, hc, hx, beq_self_eq_true, decide_eq_true]); all_goals fail_if_success guard_target =ₛ False)
        | with_reducible refine seqVC_nil ?_
        | (with_reducible refine hK _ _ ?_; clear hK K)
        | (with_reducible refine hK _ ?_; clear hK K)
        | with_reducible refine AWP.seq fun K hK => ?_
        | (with_reducible refine AWP.seqR (by kernel_rfl) fun K hK => ?_)
        | (with_reducible refine parVC_stepN rfl fun K hK => ?_; (try simp only [go_sem, Nat.reduceBEq, Nat.reduceBNe, Nat.reduceAdd, Nat.reduceSub, Nat.reduceMul, Nat.reduceLeDiff, Nat.reduceLT, reduceCtorEq, Nat.reduceEqDiff, Int.reduceToNat, Int.reduceLE, Int.reduceLT, Int.reduceEq, List.length_map, hc, hx, beq_self_eq_true, decide_eq_true]); all_goals fail_if_success guard_target =ₛ False)
        | (with_reducible refine parVC_stepG rfl (by with_unfolding_all rfl) fun K hK => ?_; (try simp only [go_sem, Nat.reduceBEq, Nat.reduceBNe, Nat.reduceAdd, Nat.reduceSub, Nat.reduceMul, Nat.reduceLeDiff, Nat.reduceLT, reduceCtorEq, Nat.reduceEqDiff, Int.reduceToNat, Int.reduceLE, Int.reduceLT, Int.reduceEq, List.length_map, hc, hx, beq_self_eq_true, decide_eq_true]); all_goals fail_if_success guard_target =ₛ False)
        | with_reducible refine parVC_nil ?_
        | (with_reducible refine parEVC_stepN rfl fun K hK => ?_; (try simp only [go_sem, Nat.reduceBEq, Nat.reduceBNe, Nat.reduceAdd, Nat.reduceSub, Nat.reduceMul, Nat.reduceLeDiff, Nat.reduceLT, reduceCtorEq, Nat.reduceEqDiff, Int.reduceToNat, Int.reduceLE, Int.reduceLT, Int.reduceEq, List.length_map, hc, hx, beq_self_eq_true, decide_eq_true]); all_goals fail_if_success guard_target =ₛ False)
        | (with_reducible refine parEVC_stepG rfl (by with_unfolding_all rfl) fun K hK => ?_; (try simp only [go_sem, Nat.reduceBEq, Nat.reduceBNe, Nat.reduceAdd, Nat.reduceSub, Nat.reduceMul, Nat.reduceLeDiff, Nat.reduceLT, reduceCtorEq, Nat.reduceEqDiff, Int.reduceToNat, Int.reduceLE, Int.reduceLT, Int.reduceEq, List.length_map, hc, hx, beq_self_eq_true, decide_eq_true]); all_goals fail_if_success guard_target =ₛ False)
        | with_reducible refine parEVC_nil ?_
        | (with_reducible refine AWP.cond (by with_unfolding_all rfl) (fun h => ?_) (fun h => ?_); all_goals (try simp only [Bool.not_eq_true', Bool.not_eq_false'] at h); (all_goals try first | (exact absurd h Bool.false_ne_true) | (exact absurd h.symm Bool.false_ne_true) | (exact absurd h (by decide))))
        | with_reducible refine AWP.skip ?_
        | with_reducible refine AWP.ret ?_
        | with_reducible refine AWP.block ?_
        | with_reducible refine AWP.exit ?_
        | (with_reducible refine ⟨fun h => ?_, fun h => ?_⟩ <;> (try simp only [Bool.not_eq_true', Bool.not_eq_false'] at h) <;> simp only [h, go_sem, Nat.reduceBEq, Nat.reduceBNe, Nat.reduceAdd, Nat.reduceSub, Nat.reduceMul, Nat.reduceLeDiff, Nat.reduceLT, reduceCtorEq, Nat.reduceEqDiff, Int.reduceToNat, Int.reduceLE, Int.reduceLT, Int.reduceEq, List.length_map, hc, hx, beq_self_eq_true, decide_eq_true])
        | (with_reducible refine ⟨_, h1, ?_⟩; try simp only [go_sem, Nat.reduceBEq, Nat.reduceBNe, Nat.reduceAdd, Nat.reduceSub, Nat.reduceMul, Nat.reduceLeDiff, Nat.reduceLT, reduceCtorEq, Nat.reduceEqDiff, Int.reduceToNat, Int.reduceLE, Int.reduceLT, Int.reduceEq, List.length_map, hc, hx, beq_self_eq_true, decide_eq_true])
        | (with_reducible refine ⟨_, h2, ?_⟩; try simp only [go_sem, Nat.reduceBEq, Nat.reduceBNe, Nat.reduceAdd, Nat.reduceSub, Nat.reduceMul, Nat.reduceLeDiff, Nat.reduceLT, reduceCtorEq, Nat.reduceEqDiff, Int.reduceToNat, Int.reduceLE, Int.reduceLT, Int.reduceEq, List.length_map, hc, hx, beq_self_eq_true, decide_eq_true])
        | (with_reducible refine ⟨_, hasInt_c _ _, ?_⟩; try simp only [go_sem, Nat.reduceBEq, Nat.reduceBNe, Nat.reduceAdd, Nat.reduceSub, Nat.reduceMul, Nat.reduceLeDiff, Nat.reduceLT, reduceCtorEq, Nat.reduceEqDiff, Int.reduceToNat, Int.reduceLE, Int.reduceLT, Int.reduceEq, List.length_map, hc, hx, beq_self_eq_true, decide_eq_true])
        | (with_reducible refine ⟨_, far_c _ _, ?_⟩; try simp only [go_sem, Nat.reduceBEq, Nat.reduceBNe, Nat.reduceAdd, Nat.reduceSub, Nat.reduceMul, Nat.reduceLeDiff, Nat.reduceLT, reduceCtorEq, Nat.reduceEqDiff, Int.reduceToNat, Int.reduceLE, Int.reduceLT, Int.reduceEq, List.length_map, hc, hx, beq_self_eq_true, decide_eq_true])
        | (with_reducible refine ⟨_, awake_c, ?_⟩; try simp only [go_sem, Nat.reduceBEq, Nat.reduceBNe, Nat.reduceAdd, Nat.reduceSub, Nat.reduceMul, Nat.reduceLeDiff, Nat.reduceLT, reduceCtorEq, Nat.reduceEqDiff, Int.reduceToNat, Int.reduceLE, Int.reduceLT, Int.reduceEq, List.length_map, hc, hx, beq_self_eq_true, decide_eq_true])
        | (with_reducible refine AWP.parR mixed (by kernel_rfl) fun K hK => ?_)
        | (simp only [go_sem, Nat.reduceBEq, Nat.reduceBNe, Nat.reduceAdd, Nat.reduceSub, Nat.reduceMul, Nat.reduceLeDiff, Nat.reduceLT, reduceCtorEq, Nat.reduceEqDiff, Int.reduceToNat, Int.reduceLE, Int.reduceLT, Int.reduceEq, List.length_map, hc, hx, beq_self_eq_true, decide_eq_true])
        | (clear hK K))
      all_goals (first | exact fun _ h => (by cases h) | refine fin0 ?_)
    · simp only at a1 a2 a3
      subst a1
      have hx : hasB a x = true := hasB_iff.2 a3.1
      cases hy : hasB a n
      ·
        repeat' (first
          | (with_reducible refine seqVC_stepN rfl fun K hK => ?_; (try simp only [go_sem, Nat.reduceBEq, Nat.reduceBNe, Nat.reduceAdd, Nat.reduceSub, Nat.reduceMul, Nat.reduceLeDiff, Nat.reduceLT, reduceCtorEq, Nat.reduceEqDiff, Int.reduceToNat, Int.reduceLE, Int.reduceLT, Int.reduceEq, List.length_map, hc, hx, hy, beq_self_eq_true]); all_goals fail_if_success guard_target =ₛ False)
          | (with_reducible refine seqVC_stepG rfl (by with_unfolding_all rfl) fun K hK => ?_; (try simp only [go_sem, Nat.reduceBEq, Nat.reduceBNe, Nat.reduceAdd, Nat.reduceSub, Nat.reduceMul, Nat.reduceLeDiff, Nat.reduceLT, reduceCtorEq, Nat.reduceEqDiff, Int.reduceToNat, Int.reduceLE, Int.reduceLT, Int.reduceEq, List.length_map, hc, hx, hy, beq_self_eq_true]); all_goals fail_if_success guard_target =ₛ False)
          | with_reducible refine seqVC_nil ?_
          | (with_reducible refine hK _ _ ?_; clear hK K)
          | (with_reducible refine hK _ ?_; clear hK K)
          | with_reducible refine AWP.seq fun K hK => ?_
          | (with_reducible refine AWP.seqR (by kernel_rfl) fun K hK => ?_)
          | (with_reducible refine parVC_stepN rfl fun K hK => ?_; (try simp only [go_sem, Nat.reduceBEq, Nat.reduceBNe, Nat.reduceAdd, Nat.reduceSub, Nat.reduceMul, Nat.reduceLeDiff, Nat.reduceLT, reduceCtorEq, Nat.reduceEqDiff, Int.reduceToNat, Int.reduceLE, Int.reduceLT, Int.reduceEq, List.length_map, hc, hx, hy, beq_self_eq_true]); all_goals fail_if_success guard_target =ₛ False)
          | (with_reducible refine parVC_stepG rfl (by with_unfolding_all rfl) fun K hK => ?_; (try simp only [go_sem, Nat.reduceBEq, Nat.reduceBNe, Nat.reduceAdd, Nat.reduceSub, Nat.reduceMul, Nat.reduceLeDiff, Nat.reduceLT, reduceCtorEq, Nat.reduceEqDiff, Int.reduceToNat, Int.reduceLE, Int.reduceLT, Int.reduceEq, List.length_map, hc, hx, hy, beq_self_eq_true]); all_goals fail_if_success guard_target =ₛ False)
          | with_reducible refine parVC_nil ?_
          | (with_reducible refine parEVC_stepN rfl fun K hK => ?_; (try simp only [go_sem, Nat.reduceBEq, Nat.reduceBNe, Nat.reduceAdd, Nat.reduceSub, Nat.reduceMul, Nat.reduceLeDiff, Nat.reduceLT, reduceCtorEq, Nat.reduceEqDiff, Int.reduceToNat, Int.reduceLE, Int.reduceLT, Int.reduceEq, List.length_map, hc, hx, hy, beq_self_eq_true]); all_goals fail_if_success guard_target =ₛ False)
          | (with_reducible refine parEVC_stepG rfl (by with_unfolding_all rfl) fun K hK => ?_; (try simp only [go_sem, Nat.reduceBEq, Nat.reduceBNe, Nat.reduceAdd, Nat.reduceSub, Nat.reduceMul, Nat.reduceLeDiff, Nat.reduceLT, reduceCtorEq, Nat.reduceEqDiff, Int.reduceToNat, Int.reduceLE, Int.reduceLT, Int.reduceEq, List.length_map, hc, hx, hy, beq_self_eq_true]); all_goals fail_if_success guard_target =ₛ False)
          | with_reducible refine parEVC_nil ?_
          | (with_reducible refine AWP.cond (by with_unfolding_all rfl) (fun h => ?_) (fun h => ?_); all_goals (try simp only [Bool.not_eq_true', Bool.not_eq_false'] at h); (all_goals try first | (exact absurd h Bool.false_ne_true) | (exact absurd h.symm Bool.false_ne_true) | (exact absurd h (by decide))))
          | with_reducible refine AWP.skip ?_
          | with_reducible refine AWP.ret ?_
          | with_reducible refine AWP.block ?_
          | with_reducible refine AWP.exit ?_
          | (with_reducible refine ⟨fun h => ?_, fun h => ?_⟩ <;> (try simp only [Bool.not_eq_true', Bool.not_eq_false'] at h) <;> simp only [h, go_sem, Nat.reduceBEq, Nat.reduceBNe, Nat.reduceAdd, Nat.reduceSub, Nat.reduceMul, Nat.reduceLeDiff, Nat.reduceLT, reduceCtorEq, Nat.reduceEqDiff, Int.reduceToNat, Int.reduceLE, Int.reduceLT, Int.reduceEq, List.length_map, hc, hx, hy, beq_self_eq_true])
          | (with_reducible refine ⟨_, h1, ?_⟩; try simp only [go_sem, Nat.reduceBEq, Nat.reduceBNe, Nat.reduceAdd, Nat.reduceSub, Nat.reduceMul, Nat.reduceLeDiff, Nat.reduceLT, reduceCtorEq, Nat.reduceEqDiff, Int.reduceToNat, Int.reduceLE, Int.reduceLT, Int.reduceEq, List.length_map, hc, hx, hy, beq_self_eq_true])
          | (with_reducible refine ⟨_, h2, ?_⟩; try simp only [go_sem, Nat.reduceBEq, Nat.reduceBNe, Nat.reduceAdd, Nat.reduceSub, Nat.reduceMul, Nat.reduceLeDiff, Nat.reduceLT, reduceCtorEq, Nat.reduceEqDiff, Int.reduceToNat, Int.reduceLE, Int.reduceLT, Int.reduceEq, List.length_map, hc, hx, hy, beq_self_eq_true])
          | (with_reducible refine ⟨_, hasInt_c _ _, ?_⟩; try simp only [go_sem, Nat.reduceBEq, Nat.reduceBNe, Nat.reduceAdd, Nat.reduceSub, Nat.reduceMul, Nat.reduceLeDiff, Nat.reduceLT, reduceCtorEq, Nat.reduceEqDiff, Int.reduceToNat, Int.reduceLE, Int.reduceLT, Int.reduceEq, List.length_map, hc, hx, hy, beq_self_eq_true])
          | (with_reducible refine ⟨_, far_c _ _, ?_⟩; try simp only [go_sem, Nat.reduceBEq, Nat.reduceBNe, Nat.reduceAdd, Nat.reduceSub, Nat.reduceMul, Nat.reduceLeDiff, Nat.reduceLT, reduceCtorEq, Nat.reduceEqDiff, Int.reduceToNat, Int.reduceLE, Int.reduceLT, Int.reduceEq, List.length_map, hc, hx, hy, beq_self_eq_true])
          | (with_reducible refine ⟨_, awake_c, ?_⟩; try simp only [go_sem, Nat.reduceBEq, Nat.reduceBNe, Nat.reduceAdd, Nat.reduceSub, Nat.reduceMul, Nat.reduceLeDiff, Nat.reduceLT, reduceCtorEq, Nat.reduceEqDiff, Int.reduceToNat, Int.reduceLE, Int.reduceLT, Int.reduceEq, List.length_map, hc, hx, hy, beq_self_eq_true])
          | (with_reducible refine AWP.parR mixed (by kernel_rfl) fun K hK => ?_)
          | (simp only [go_sem, Nat.reduceBEq, Nat.reduceBNe, Nat.reduceAdd, Nat.reduceSub, Nat.reduceMul, Nat.reduceLeDiff, Nat.reduceLT, reduceCtorEq, Nat.reduceEqDiff, Int.reduceToNat, Int.reduceLE, Int.reduceLT, Int.reduceEq, List.length_map, hc, hx, hy, beq_self_eq_true])
          | (clear hK K))
        all_goals (first | exact fun _ h => (by cases h) | refine fin0 ?_)
      · have hf := farB_of hn a2 (a3.2 n (hasB_iff.1 hy))
        repeat' (first
          | (with_reducible refine seqVC_stepN rfl fun K hK => ?_; (try simp only [go_sem, Nat.reduceBEq, Nat.reduceBNe, Nat.reduceAdd, Nat.reduceSub, Nat.reduceMul, Nat.reduceLeDiff, Nat.reduceLT, reduceCtorEq, Nat.reduceEqDiff, Int.reduceToNat, Int.reduceLE, Int.reduceLT, Int.reduceEq, List.length_map, hc, hx, hy, hf, beq_self_eq_true]); all_goals fail_if_success guard_target =ₛ False)
          | (with_reducible refine seqVC_stepG rfl (by with_unfolding_all rfl) fun K hK => ?_; (try simp only [go_sem, Nat.reduceBEq, Nat.reduceBNe, Nat.reduceAdd, Nat.reduceSub, Nat.reduceMul, Nat.reduceLeDiff, Nat.reduceLT, reduceCtorEq, Nat.reduceEqDiff, Int.reduceToNat, Int.reduceLE, Int.reduceLT, Int.reduceEq, List.length_map, hc, hx, hy, hf, beq_self_eq_true]); all_goals fail_if_success guard_target =ₛ False)
          | with_reducible refine seqVC_nil ?_
          | (with_reducible refine hK _ _ ?_; clear hK K)
          | (with_reducible refine hK _ ?_; clear hK K)
          | with_reducible refine AWP.seq fun K hK => ?_
          | (with_reducible refine AWP.seqR (by kernel_rfl) fun K hK => ?_)
          | (with_reducible refine parVC_stepN rfl fun K hK => ?_; (try simp only [go_sem, Nat.reduceBEq, Nat.reduceBNe, Nat.reduceAdd, Nat.reduceSub, Nat.reduceMul, Nat.reduceLeDiff, Nat.reduceLT, reduceCtorEq, Nat.reduceEqDiff, Int.reduceToNat, Int.reduceLE, Int.reduceLT, Int.reduceEq, List.length_map, hc, hx, hy, hf, beq_self_eq_true]); all_goals fail_if_success guard_target =ₛ False)
          | (with_reducible refine parVC_stepG rfl (by with_unfolding_all rfl) fun K hK => ?_; (try simp only [go_sem, Nat.reduceBEq, Nat.reduceBNe, Nat.reduceAdd, Nat.reduceSub, Nat.reduceMul, Nat.reduceLeDiff, Nat.reduceLT, reduceCtorEq, Nat.reduceEqDiff, Int.reduceToNat, Int.reduceLE, Int.reduceLT, Int.reduceEq, List.length_map, hc, hx, hy, hf, beq_self_eq_true]); all_goals fail_if_success guard_target =ₛ False)
          | with_reducible refine parVC_nil ?_
          | (with_reducible refine parEVC_stepN rfl fun K hK => ?_; (try simp only [go_sem, Nat.reduceBEq, Nat.reduceBNe, Nat.reduceAdd, Nat.reduceSub, Nat.reduceMul, Nat.reduceLeDiff, Nat.reduceLT, reduceCtorEq, Nat.reduceEqDiff, Int.reduceToNat, Int.reduceLE, Int.reduceLT, Int.reduceEq, List.length_map, hc, hx, hy, hf, beq_self_eq_true]); all_goals fail_if_success guard_target =ₛ False)
          | (with_reducible refine parEVC_stepG rfl (by with_unfolding_all rfl) fun K hK => ?_; (try simp only [go_sem, Nat.reduceBEq, Nat.reduceBNe, Nat.reduceAdd, Nat.reduceSub, Nat.reduceMul, Nat.reduceLeDiff, Nat.reduceLT, reduceCtorEq, Nat.reduceEqDiff, Int.reduceToNat, Int.reduceLE, Int.reduceLT, Int.reduceEq, List.length_map, hc, hx, hy, hf, beq_self_eq_true]); all_goals fail_if_success guard_target =ₛ False)
          | with_reducible refine parEVC_nil ?_
          | (with_reducible refine AWP.cond (by with_unfolding_all rfl) (fun h => ?_) (fun h => ?_); all_goals (try simp only [Bool.not_eq_true', Bool.not_eq_false'] at h); (all_goals try first | (exact absurd h Bool.false_ne_true) | (exact absurd h.symm Bool.false_ne_true) | (exact absurd h (by decide))))
          | with_reducible refine AWP.skip ?_
          | with_reducible refine AWP.ret ?_
          | with_reducible refine AWP.block ?_
          | with_reducible refine AWP.exit ?_
          | (with_reducible refine ⟨fun h => ?_, fun h => ?_⟩ <;> (try simp only [Bool.not_eq_true', Bool.not_eq_false'] at h) <;> simp only [h, go_sem, Nat.reduceBEq, Nat.reduceBNe, Nat.reduceAdd, Nat.reduceSub, Nat.reduceMul, Nat.reduceLeDiff, Nat.reduceLT, reduceCtorEq, Nat.reduceEqDiff, Int.reduceToNat, Int.reduceLE, Int.reduceLT, Int.reduceEq, List.length_map, hc, hx, hy, hf, beq_self_eq_true])
          | (with_reducible refine ⟨_, h1, ?_⟩; try simp only [go_sem, Nat.reduceBEq, Nat.reduceBNe, Nat.reduceAdd, Nat.reduceSub, Nat.reduceMul, Nat.reduceLeDiff, Nat.reduceLT, reduceCtorEq, Nat.reduceEqDiff, Int.reduceToNat, Int.reduceLE, Int.reduceLT, Int.reduceEq, List.length_map, hc, hx, hy, hf, beq_self_eq_true])
          | (with_reducible refine ⟨_, h2, ?_⟩; try simp only [go_sem, Nat.reduceBEq, Nat.reduceBNe, Nat.reduceAdd, Nat.reduceSub, Nat.reduceMul, Nat.reduceLeDiff, Nat.reduceLT, reduceCtorEq, Nat.reduceEqDiff, Int.reduceToNat, Int.reduceLE, Int.reduceLT, Int.reduceEq, List.length_map, hc, hx, hy, hf, beq_self_eq_true])
          | (with_reducible refine ⟨_, hasInt_c _ _, ?_⟩; try simp only [go_sem, Nat.reduceBEq, Nat.reduceBNe, Nat.reduceAdd, Nat.reduceSub, Nat.reduceMul, Nat.reduceLeDiff, Nat.reduceLT, reduceCtorEq, Nat.reduceEqDiff, Int.reduceToNat, Int.reduceLE, Int.reduceLT, Int.reduceEq, List.length_map, hc, hx, hy, hf, beq_self_eq_true])
          | (with_reducible refine ⟨_, far_c _ _, ?_⟩; try simp only [go_sem, Nat.reduceBEq, Nat.reduceBNe, Nat.reduceAdd, Nat.reduceSub, Nat.reduceMul, Nat.reduceLeDiff, Nat.reduceLT, reduceCtorEq, Nat.reduceEqDiff, Int.reduceToNat, Int.reduceLE, Int.reduceLT, Int.reduceEq, List.length_map, hc, hx, hy, hf, beq_self_eq_true])
          | (with_reducible refine ⟨_, awake_c, ?_⟩; try simp only [go_sem, Nat.reduceBEq, Nat.reduceBNe, Nat.reduceAdd, Nat.reduceSub, Nat.reduceMul, Nat.reduceLeDiff, Nat.reduceLT, reduceCtorEq, Nat.reduceEqDiff, Int.reduceToNat, Int.reduceLE, Int.reduceLT, Int.reduceEq, List.length_map, hc, hx, hy, hf, beq_self_eq_true])
          | (with_reducible refine AWP.parR mixed (by kernel_rfl) fun K hK => ?_)
          | (simp only [go_sem, Nat.reduceBEq, Nat.reduceBNe, Nat.reduceAdd, Nat.reduceSub, Nat.reduceMul, Nat.reduceLeDiff, Nat.reduceLT, reduceCtorEq, Nat.reduceEqDiff, Int.reduceToNat, Int.reduceLE, Int.reduceLT, Int.reduceEq, List.length_map, hc, hx, hy, hf, beq_self_eq_true])
          | (clear hK K))
        all_goals (first | exact fun _ h => (by cases h) | refine fin0 ?_)
  · have hc : decide ((40 : Int) < (a.length : Int)) = true := by simp; omega
    repeat' (first
      | (with_reducible refine seqVC_stepN rfl fun K hK => ?_; (try simp only [go_sem, Nat.reduceBEq, Nat.reduceBNe, Nat.reduceAdd, Nat.reduceSub, Nat.reduceMul, Nat.reduceLeDiff, Nat.reduceLT, reduceCtorEq, Nat.reduceEqDiff, Int.reduceToNat, Int.reduceLE, Int.reduceLT, Int.reduceEq, List.length_map, hc]); all_goals fail_if_success guard_target =ₛ False)
      | (with_reducible refine seqVC_stepG rfl (by with_unfolding_all rfl) fun K hK => ?_; (try simp only [go_sem, Nat.reduceBEq, Nat.reduceBNe, Nat.reduceAdd, Nat.reduceSub, Nat.reduceMul, Nat.reduceLeDiff, Nat.reduceLT, reduceCtorEq, Nat.reduceEqDiff, Int.reduceToNat, Int.reduceLE, Int.reduceLT, Int.reduceEq, List.length_map, hc]); all_goals fail_if_success guard_target =ₛ False)
      | with_reducible refine seqVC_nil ?_
      | (with_reducible refine hK _ _ ?_; clear hK K)
      | (with_reducible refine hK _ ?_; clear hK K)
      | with_reducible refine AWP.seq fun K hK => ?_
      | (with_reducible refine AWP.seqR (by kernel_rfl) fun K hK => ?_)
      | (with_reducible refine parVC_stepN rfl fun K hK => ?_; (try simp only [go_sem, Nat.reduceBEq, Nat.reduceBNe, Nat.reduceAdd, Nat.reduceSub, Nat.reduceMul, Nat.reduceLeDiff, Nat.reduceLT, reduceCtorEq, Nat.reduceEqDiff, Int.reduceToNat, Int.reduceLE, Int.reduceLT, Int.reduceEq, List.length_map, hc]); all_goals fail_if_success guard_target =ₛ False)
      | (with_reducible refine parVC_stepG rfl (by with_unfolding_all rfl) fun K hK => ?_; (try simp only [go_sem, Nat.reduceBEq, Nat.reduceBNe, Nat.reduceAdd, Nat.reduceSub, Nat.reduceMul, Nat.reduceLeDiff, Nat.reduceLT, reduceCtorEq, Nat.reduceEqDiff, Int.reduceToNat, Int.reduceLE, Int.reduceLT, Int.reduceEq, List.length_map, hc]); all_goals fail_if_success guard_target =ₛ False)
      | with_reducible refine parVC_nil ?_
      | (with_reducible refine parEVC_stepN rfl fun K hK => ?_; (try simp only [go_sem, Nat.reduceBEq, Nat.reduceBNe, Nat.reduceAdd, Nat.reduceSub, Nat.reduceMul, Nat.reduceLeDiff, Nat.reduceLT, reduceCtorEq, Nat.reduceEqDiff, Int.reduceToNat, Int.reduceLE, Int.reduceLT, Int.reduceEq, List.length_map, hc]); all_goals fail_if_success guard_target =ₛ False)
      | (with_reducible refine parEVC_stepG rfl (by with_unfolding_all rfl) fun K hK => ?_; (try simp only [go_sem, Nat.reduceBEq, Nat.reduceBNe, Nat.reduceAdd, Nat.reduceSub, Nat.reduceMul, Nat.reduceLeDiff, Nat.reduceLT, reduceCtorEq, Nat.reduceEqDiff, Int.reduceToNat, Int.reduceLE, Int.reduceLT, Int.reduceEq, List.length_map, hc]); all_goals fail_if_success guard_target =ₛ False)
      | with_reducible refine parEVC_nil ?_
      | (with_reducible refine AWP.cond (by with_unfolding_all rfl) (fun h => ?_) (fun h => ?_); all_goals (try simp only [Bool.not_eq_true', Bool.not_eq_false'] at h); (all_goals try first | (exact absurd h Bool.false_ne_true) | (exact absurd h.symm Bool.false_ne_true) | (exact absurd h (by decide))))
      | with_reducible refine AWP.skip ?_
      | with_reducible refine AWP.ret ?_
      | with_reducible refine AWP.block ?_
      | with_reducible refine AWP.exit ?_
      | (with_reducible refine ⟨fun h => ?_, fun h => ?_⟩ <;> (try simp only [Bool.not_eq_true', Bool.not_eq_false'] at h) <;> simp only [h, go_sem, Nat.reduceBEq, Nat.reduceBNe, Nat.reduceAdd, Nat.reduceSub, Nat.reduceMul, Nat.reduceLeDiff, Nat.reduceLT, reduceCtorEq, Nat.reduceEqDiff, Int.reduceToNat, Int.reduceLE, Int.reduceLT, Int.reduceEq, List.length_map, hc])
      | (with_reducible refine ⟨_, awake_c, ?_⟩; try simp only [go_sem, Nat.reduceBEq, Nat.reduceBNe, Nat.reduceAdd, Nat.reduceSub, Nat.reduceMul, Nat.reduceLeDiff, Nat.reduceLT, reduceCtorEq, Nat.reduceEqDiff, Int.reduceToNat, Int.reduceLE, Int.reduceLT, Int.reduceEq, List.length_map, hc])
      | (with_reducible refine AWP.parR mixed (by kernel_rfl) fun K hK => ?_)
      | (simp only [go_sem, Nat.reduceBEq, Nat.reduceBNe, Nat.reduceAdd, Nat.reduceSub, Nat.reduceMul, Nat.reduceLeDiff, Nat.reduceLT, reduceCtorEq, Nat.reduceEqDiff, Int.reduceToNat, Int.reduceLE, Int.reduceLT, Int.reduceEq, List.length_map, hc])
      | (clear hK K))
    all_goals (first | exact fun _ h => (by cases h) | refine fin0 ?_)
end Go.Proofs.Ytjpkddhpkohiaaa
