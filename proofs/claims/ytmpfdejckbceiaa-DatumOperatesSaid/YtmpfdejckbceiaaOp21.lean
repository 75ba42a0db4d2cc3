/- A part of the proof: lemmas about the walk of the program and about plain integers and lists. No conditions beyond those that each lemma states. -/
import Derived.Test.YtmpfdejckbceiaaOp17
import Derived.Test.YtmpfdejckbceiaaOp11
import Derived.Lib.SliceRun
import Derived.Test.YtmpfdejckbceiaaOp20
/-! A box whose nil slices are read as empty rows. -/
set_option linter.unusedVariables false
namespace Go.Sx
variable {P : Program} {n : Nat}

theorem Gh.soft {env : Env} {B : Bx} (j : Nat) {cs : List Cell} (hb : B.lookup j = some (.cells cs)) : Gh n ⟨env, B⟩ ⟨env, Bx.put j (.cells (cs.map Cell.soft)) B⟩ := by
  intro κ M0 a w s
  obtain ⟨M, ν, h1, h2, h3, h4, h5, h6⟩ := s
  have hmem := lookup_box hb
  have hkeys : ∀ i r, (i, r) ∈ Bx.put j (.cells (cs.map Cell.soft)) B → ∃ r0, (i, r0) ∈ B := by
    intro i r hm
    rcases Bx.mem_put h5.nodup hm with e | ⟨hm, _⟩
    · cases e; exact ⟨_, hmem⟩
    · exact ⟨r, hm⟩
  refine ⟨M, ν, h1, h2, h3, h4, ⟨h5.os, h5.tape, h5.output, h5.dr, h5.size, h5.unch, h5.fro, ?_, ?_, ?_, ?_⟩, h6⟩
  · intro i r hm
    rcases Bx.mem_put h5.nodup hm with e | ⟨hm, _⟩
    · cases e
      have h0 := h5.res j _ hmem
      simp only [Res.ok] at h0 ⊢
      obtain ⟨b, c, et, g1, g2, g3⟩ := h0
      exact ⟨b, c, et, g1, g2, Cell.reps_soft g3⟩
    · exact h5.res i r hm
  · intro i r b hm hbk
    obtain ⟨r0, h0⟩ := hkeys i r hm
    exact h5.away i r0 b h0 hbk
  · intro i r i' r' b hm hm' hbk hbk'
    obtain ⟨r0, h0⟩ := hkeys i r hm
    obtain ⟨r1, h1⟩ := hkeys i' r' hm'
    exact h5.inj i r0 i' r1 b h0 h1 hbk hbk'
  · rw [Bx.put_keys]; exact h5.nodup
/-- two parts; in the first the box j is turned, in the second the box j2 -/
theorem AWP.segEE {Q : Exit → AS → Prop} {id : Nat} {l : List Oper} {env : Env} {B : Bx} (k j j2 : Nat) (hm : P.follows .mixedOrders = true) (hl : segsOk n l [(k, .eff), (l.length - k, .eff)] = true)
    (h : ∀ K : Env → Bx → Prop, (∀ e b, Q .normal ⟨e, b⟩ → K e b) → parEVC P l (Bx.drop j B) (l.take k) env B fun env B => parEVC P l (Bx.drop j2 B) (l.drop k) env B K) : AWP P n (.region id l.toArray true) ⟨env, B⟩ Q := by
  simp only [segsOk, Bool.and_eq_true] at hl
  refine AWP.region_parts [(k, .eff), (l.length - k, .eff)] hm hl.1 hl.2.2 fun K hK => ?_
  simp only [segSem]
  refine ⟨Bx.drop j B, fun x hx => Bx.drop_sub hx, parSem_mono (fun e b k2 => ?_) _ _ _ (parEVC_sound l (Bx.drop j B) (fun e b => parEVC P l (Bx.drop j2 b) (l.drop k) e b fun e b => K ⟨e, b⟩) _ env B (fun x hx => Bx.drop_sub hx) (dstsOk_take hl.2.1 0 k) (h _ fun e b q => hK _ q))⟩
  have e2 : (l.drop (0 + k)).take (l.length - k) = l.drop k := by rw [Nat.zero_add]; exact List.take_of_length_le (by simp)
  refine ⟨Bx.drop j2 b, fun x hx => Bx.drop_sub hx, parEVC_sound l (Bx.drop j2 b) (fun e b => K ⟨e, b⟩) _ e b (fun x hx => Bx.drop_sub hx) (dstsOk_take hl.2.1 (0 + k) (l.length - k)) ?_⟩
  rw [e2]; exact k2
/-- l == nil, at a row whose cells alone are known -/
theorem AWP.nilR {Q : Exit → AS → Prop} {id d x b k : Nat} {ty t1 t2 : TypeId} {p1 p2 : String} {af1 af2 : Array Edge} {e : TypeId} {rows : List (List C)} {env : Env} {B : Bx} (hd : env.lookup d = some (.one (.dat (.sl k rows)))) (hx : x < n) (hb : b < n)
    (hty : P.underlying ty = some (.slice e)) (ht : rows = [] → Q .normal ⟨(b, Bo true) :: (x, .one (.dat (.sl k rows))) :: env, B⟩) (hf : Q .normal ⟨(b, Bo false) :: (x, .one (.dat (.sl k rows))) :: env, B⟩) :
    AWP P n (.region id #[⟨some x, .move (.tmp d), t1, p1, af1, none⟩, ⟨some b, .binOp .eql ty (.tmp x) (.const (.slice none 0 0)) ty, t2, p2, af2, none⟩] false) ⟨env, B⟩ Q := by
  intro κ M0 a w hs
  refine wp_region_lit (l := [_, _]) ?_
  obtain ⟨M, ν, h1, h2, h3, h4, h5, h6⟩ := hs
  have hv := h4 d _ hd
  simp only [T.rep, Cell.rep, C.rep] at hv
  obtain ⟨ad, cap, mid, ev, hc1, hc2, hc3, hc4⟩ := hv
  have hrep : (T.one (.dat (.sl k rows))).rep M ν (a.tmps.getD d undef) := h4 d _ hd
  have hst1 := put_St (t := .one (.dat (.sl k rows))) (v := a.eval (.tmp d)) (dst := some x) h1 h2 h3 h4 (Mem.ext.refl κ M) (by intro d' e'; cases e'; exact hx) hrep h5 h6
  unfold wpList
  rw [if_pos (by rfl)]
  left
  have er1 : (execOp a.eval ⟨some x, .move (.tmp d), t1, p1, af1, none⟩).run P w = .ok (.value (a.eval (.tmp d))) w := rfl
  unfold Oper.wp
  rw [er1]
  simp only [Oper.upon]
  unfold wpList
  rw [if_pos (by rfl)]
  left
  obtain ⟨a1, ea1⟩ : ∃ a1, a1 = a.put (some x) (a.eval (.tmp d)) := ⟨_, rfl⟩
  rw [← ea1] at hst1 ⊢
  obtain ⟨M1, ν1, g1, g2, g3, g4, g5, g6⟩ := hst1
  have hx1 := g4 x (.one (.dat (.sl k rows))) (by simp [AS.put])
  have hv := hx1
  simp only [T.rep, Cell.rep, C.rep] at hv
  obtain ⟨ad, cap, mid, ev, hc1, hc2, hc3, hc4⟩ := hv
  have ex : a1.eval (.tmp x) = .slice ad rows.length cap := ev
  have er2 : (execOp a1.eval ⟨some b, .binOp .eql ty (.tmp x) (.const (.slice none 0 0)) ty, t2, p2, af2, none⟩).run P w = .ok (.value (.bool ad.isNone)) w := by
    have hrun : (execOp a1.eval ⟨some b, .binOp .eql ty (.tmp x) (.const (.slice none 0 0)) ty, t2, p2, af2, none⟩).run P w = ((eqGuard .eql ty (.tmp x) (.const (.slice none 0 0)) (a1.eval (.tmp x)) (a1.eval (.const (.slice none 0 0)))).run P w).andThen fun _ w => ((binOp .eql ty (a1.eval (.tmp x)) (a1.eval (.const (.slice none 0 0)))).run P w).andThen fun v w => .ok (.value v) w := by
      unfold execOp
      simp only [Sem.run_bind, Sem.run_pure]
      cases (eqGuard .eql ty (.tmp x) (.const (.slice none 0 0)) (a1.eval (.tmp x)) (a1.eval (.const (.slice none 0 0)))).run P w <;> rfl
    rw [hrun, run_guard .eql ty _ _ w (by rw [ex]; simp) (by intro c; rw [ex]; simp), ex]
    have : a1.eval (.const (.slice none 0 0)) = .slice none 0 0 := rfl
    rw [this]
    simp only [Result.andThen_ok, Lib.run_eql_slice_nil w ty e ad _ _ _ _ hty]
  unfold Oper.wp
  rw [er2]
  simp only [Oper.upon]
  have hst2 := put_St (t := Bo ad.isNone) (v := .bool ad.isNone) (dst := some b) g1 g2 g3 g4 (Mem.ext.refl κ M1) (by intro d' e'; cases e'; exact hb) (rep_bool.2 rfl) g5 g6
  unfold wpList
  refine ⟨_, hst2, ?_⟩
  cases ad with
  | none =>
    refine ht ?_
    rcases hc4 with h | ⟨_, _, h, _⟩
    · exact h
    · cases h
  | some _ => exact hf
end Go.Sx
set_option linter.unusedSimpArgs false
set_option linter.unusedVariables false
set_option maxRecDepth 20000
set_option maxHeartbeats 4000000
namespace Go.Proofs.Ytmpfdejckbceiaa
open Go Go.Sx

/-- the contract of Made at a depth -/
def MadeC (d : Nat) : Prop := ∀ s : Src, s.ok → PCB Try.prog 7 [Sp pin, I .i64 d] [(pin, srcB s)] (Dt (made d s).1) [(pin, srcB (made d s).2)]
theorem MadeC.k {d : Nat} (h : MadeC d) (k : Nat) (s : Src) (hs : s.ok) : PCBk Try.prog 7 [Sp k, I .i64 d] k (srcB s) (Dt (made d s).1) (srcB (made d s).2) := PCBk.mk k (h s hs)
theorem wrap_pred {k : Int} (h : 0 < k) (hm : k ≤ 1000000) : IntKind.i64.wrap (k - 1) = k - 1 := w64 (by omega)
theorem dec_pos {n : Nat} : decide ((0 : Int) < ((n + 1 : Nat) : Int)) = true := by simp
theorem wrap_pred_nat {n : Nat} (hm : n ≤ 1000000) : IntKind.i64.wrap (((n + 1 : Nat) : Int) - 1) = (n : Int) := by rw [w64 (by omega)]; omega
theorem madeN_len (f : Src → Dat × Src) : ∀ (n : Nat) (s : Src) (acc : List Dat), (madeN f n s acc).1.length = acc.length + n
  | 0, s, acc => rfl
  | n + 1, s, acc => by rw [madeN, madeN_len f n]; simp; omega

theorem made_c8 (d : Nat) (hd : d ≤ 1000) (IH : MadeC d) (s : Src) (hs : s.ok) (hk : nextV s 12 = 8) :
    PCB Try.prog 7 [Sp pin, I .i64 (d + 1 : Nat)] [(pin, srcB s)] (Dt (made (d + 1) s).1) [(pin, srcB (made (d + 1) s).2)] := by
  have hM : made (d + 1) s = ({ zeroDat with kind := 6, kids := (madeN (made d) (nextV (nextS s 12) 4).toNat (nextS (nextS s 12) 4) []).1 }, (madeN (made d) (nextV (nextS s 12) 4).toNat (nextS (nextS s 12) 4) []).2) := by
    simp only [made, hk]; rfl
  rw [hM]
  refine PCB.of_body Try.func7 rfl (by decide) Try.ntmps7 Try.results7 rfl rfl rfl ?_ rfl rfl
  refine AWP.ghQ ?_
  have hs1 := ok_next hs 12
  have a1 := nextV_in (nextS s 12) (n := 4) (by omega)
  have hgt : decide ((6 : Int) < 8) = true := by decide
  have hd0 : decide (((d + 1 : Nat) : Int) = 0) = false := by simp; omega
  have hn : nextV (nextS s 12) 4 = (((nextV (nextS s 12) 4).toNat : Nat) : Int) := by omega
  repeat' (first
    | ((first | with_reducible refine seqVC_stepN rfl fun K hK => ?_ | with_reducible refine seqVC_stepG rfl (by with_unfolding_all rfl) fun K hK => ?_); (try simp only [go_sem, Nat.reduceBEq, Nat.reduceBNe, Nat.reduceAdd, Nat.reduceSub, Nat.reduceMul, Nat.reduceLeDiff, Nat.reduceLT, reduceCtorEq, Nat.reduceEqDiff, Int.reduceToNat, Int.reduceLE, Int.reduceLT, Int.reduceEq, pin, hk, hgt, hd0]); all_goals fail_if_success guard_target =ₛ False)
    | with_reducible refine seqVC_nil ?_
    | (with_reducible refine hK _ _ _ ?_; clear hK K)
    | (with_reducible refine hK _ _ ?_; clear hK K)
    | (with_reducible refine hK _ ?_; clear hK K)
    | with_reducible refine AWP.seq fun K hK => ?_
    | (with_reducible refine AWP.seqR (by kernel_rfl) fun K hK => ?_)
    | ((first | with_reducible refine parVC_stepN rfl fun K hK => ?_ | with_reducible refine parVC_stepG rfl (by with_unfolding_all rfl) fun K hK => ?_ | with_reducible refine parEVC_stepN rfl fun K hK => ?_ | with_reducible refine parEVC_stepG rfl (by with_unfolding_all rfl) fun K hK => ?_ | with_reducible refine genVC_stepN rfl fun K hK => ?_ | with_reducible refine genVC_stepG rfl (by with_unfolding_all rfl) fun K hK => ?_); (try simp only [go_sem, Nat.reduceBEq, Nat.reduceBNe, Nat.reduceAdd, Nat.reduceSub, Nat.reduceMul, Nat.reduceLeDiff, Nat.reduceLT, reduceCtorEq, Nat.reduceEqDiff, Int.reduceToNat, Int.reduceLE, Int.reduceLT, Int.reduceEq, pin, hk, hgt, hd0]); all_goals fail_if_success guard_target =ₛ False)
    | with_reducible refine parVC_nil ?_
    | with_reducible refine parEVC_nil ?_
    | with_reducible refine genVC_nil ?_
    | (with_reducible refine AWP.cond (by with_unfolding_all rfl) (fun h => ?_) (fun h => ?_); all_goals (try simp only [Bool.not_eq_true', Bool.not_eq_false'] at h); (all_goals try first | (exact absurd h Bool.false_ne_true) | (exact absurd h.symm Bool.false_ne_true) | (exact absurd h (by decide))))
    | with_reducible refine AWP.skip ?_
    | with_reducible refine AWP.ret ?_
    | with_reducible refine AWP.block ?_
    | with_reducible refine AWP.exit ?_
    | (with_reducible refine ⟨fun h => ?_, fun h => ?_⟩ <;> (try simp only [Bool.not_eq_true', Bool.not_eq_false'] at h) <;> simp only [h, go_sem, Nat.reduceBEq, Nat.reduceBNe, Nat.reduceAdd, Nat.reduceSub, Nat.reduceMul, Nat.reduceLeDiff, Nat.reduceLT, reduceCtorEq, Nat.reduceEqDiff, Int.reduceToNat, Int.reduceLE, Int.reduceLT, Int.reduceEq, pin, hk, hgt, hd0])
    | ((first | (refine ⟨1000000, _, _, _, next_k 1000000 _ (by repeat (first | with_reducible exact hs | with_reducible refine ok_next ?_ _)) _ (by omega), rfl, ?_⟩)); try simp only [go_sem, Nat.reduceBEq, Nat.reduceBNe, Nat.reduceAdd, Nat.reduceSub, Nat.reduceMul, Nat.reduceLeDiff, Nat.reduceLT, reduceCtorEq, Nat.reduceEqDiff, Int.reduceToNat, Int.reduceLE, Int.reduceLT, Int.reduceEq, pin, hk, hgt, hd0])
    | (with_reducible refine AWP.segP (id := 14) 13 mixed (by kernel_rfl) fun K hK => ?_; simp only [List.take_succ_cons, List.take_zero, List.drop_succ_cons, List.drop_zero])
    | (with_reducible refine AWP.segP (id := 25) 8 mixed (by kernel_rfl) fun K hK => ?_; simp only [List.take_succ_cons, List.take_zero, List.drop_succ_cons, List.drop_zero])
    | (with_reducible refine AWP.segP (id := 40) 7 mixed (by kernel_rfl) fun K hK => ?_; simp only [List.take_succ_cons, List.take_zero, List.drop_succ_cons, List.drop_zero])
    | (with_reducible refine AWP.segP (id := 47) 11 mixed (by kernel_rfl) fun K hK => ?_; simp only [List.take_succ_cons, List.take_zero, List.drop_succ_cons, List.drop_zero])
    | (with_reducible refine AWP.parR mixed (by kernel_rfl) fun K hK => ?_)
    | (with_reducible refine Or.inl ?_)
    | (simp only [go_sem, Nat.reduceBEq, Nat.reduceBNe, Nat.reduceAdd, Nat.reduceSub, Nat.reduceMul, Nat.reduceLeDiff, Nat.reduceLT, reduceCtorEq, Nat.reduceEqDiff, Int.reduceToNat, Int.reduceLE, Int.reduceLT, Int.reduceEq, pin, hk, hgt, hd0])
    | (clear hK K))
  refine AWP.gh (Gh.nilrow 9 900 rfl rfl rfl rfl) ?_
  rw [hn]
  refine AWP.loopS (X := Nat × Src × List Dat) (fun x => [(10, I .i64 x.1), (9, .one (.own 900 x.2.2.length)), (0, Sp 1000000), (1, I .i64 (d + 1 : Nat)), (4, Sp 4)])
    (fun x => [(1000000, srcB x.2.1), (4, zeroB), Dr 900 x.2.2])
    (fun x => x.1 + x.2.2.length ≤ 1000 ∧ x.2.1.ok ∧ madeN (made d) (nextV (nextS s 12) 4).toNat (nextS (nextS s 12) 4) [] = madeN (made d) x.1 x.2.1 x.2.2) (fun x => x.1) ((nextV (nextS s 12) 4).toNat, nextS (nextS s 12) 4, []) (Gh.to [] (by repeat (first | exact trivial | refine ⟨rfl, ?_⟩ | refine ⟨by (simp only [go_sem, Nat.reduceBEq, Nat.reduceBNe, Nat.reduceAdd, Nat.reduceSub, Nat.reduceMul, Nat.reduceLeDiff, Nat.reduceLT, reduceCtorEq, Nat.reduceEqDiff, Int.reduceToNat, Int.reduceLE, Int.reduceLT, Int.reduceEq]) <;> rfl, ?_⟩)) (by repeat (first | exact trivial | refine ⟨rfl, ?_⟩ | refine ⟨by (simp only [go_sem, Nat.reduceBEq, Nat.reduceBNe, Nat.reduceAdd, Nat.reduceSub, Nat.reduceMul, Nat.reduceLeDiff, Nat.reduceLT, reduceCtorEq, Nat.reduceEqDiff, Int.reduceToNat, Int.reduceLE, Int.reduceLT, Int.reduceEq]) <;> rfl, ?_⟩)) rfl rfl rfl) ⟨by simp; omega, ok_next hs1 _, rfl⟩ ?_
  rintro ⟨n, t, acc⟩ ⟨hl, ht, hp⟩
  simp only at hl ht hp
  cases n with
  | succ n =>
    rw [madeN] at hp
    have hw : IntKind.i64.wrap (((d + 1 : Nat) : Int) - 1) = (d : Int) := wrap_pred_nat (by omega)
    have hw2 : IntKind.i64.wrap (((n + 1 : Nat) : Int) - 1) = (n : Int) := wrap_pred_nat (by omega)
    repeat' (first
      | ((first | with_reducible refine seqVC_stepN rfl fun K hK => ?_ | with_reducible refine seqVC_stepG rfl (by with_unfolding_all rfl) fun K hK => ?_); (try simp only [go_sem, Nat.reduceBEq, Nat.reduceBNe, Nat.reduceAdd, Nat.reduceSub, Nat.reduceMul, Nat.reduceLeDiff, Nat.reduceLT, reduceCtorEq, Nat.reduceEqDiff, Int.reduceToNat, Int.reduceLE, Int.reduceLT, Int.reduceEq, pin, List.length_map, dec_pos, hw, hw2, dat_snoc]); all_goals fail_if_success guard_target =ₛ False)
      | with_reducible refine seqVC_nil ?_
      | (with_reducible refine hK _ _ _ ?_; clear hK K)
      | (with_reducible refine hK _ _ ?_; clear hK K)
      | (with_reducible refine hK _ ?_; clear hK K)
      | with_reducible refine AWP.seq fun K hK => ?_
      | (with_reducible refine AWP.seqR (by kernel_rfl) fun K hK => ?_)
      | ((first | with_reducible refine parVC_stepN rfl fun K hK => ?_ | with_reducible refine parVC_stepG rfl (by with_unfolding_all rfl) fun K hK => ?_ | with_reducible refine parEVC_stepN rfl fun K hK => ?_ | with_reducible refine parEVC_stepG rfl (by with_unfolding_all rfl) fun K hK => ?_ | with_reducible refine genVC_stepN rfl fun K hK => ?_ | with_reducible refine genVC_stepG rfl (by with_unfolding_all rfl) fun K hK => ?_); (try simp only [go_sem, Nat.reduceBEq, Nat.reduceBNe, Nat.reduceAdd, Nat.reduceSub, Nat.reduceMul, Nat.reduceLeDiff, Nat.reduceLT, reduceCtorEq, Nat.reduceEqDiff, Int.reduceToNat, Int.reduceLE, Int.reduceLT, Int.reduceEq, pin, List.length_map, dec_pos, hw, hw2, dat_snoc]); all_goals fail_if_success guard_target =ₛ False)
      | with_reducible refine parVC_nil ?_
      | with_reducible refine parEVC_nil ?_
      | with_reducible refine genVC_nil ?_
      | (with_reducible refine AWP.cond (by with_unfolding_all rfl) (fun h => ?_) (fun h => ?_); all_goals (try simp only [Bool.not_eq_true', Bool.not_eq_false'] at h); (all_goals try first | (exact absurd h Bool.false_ne_true) | (exact absurd h.symm Bool.false_ne_true) | (exact absurd h (by decide))))
      | with_reducible refine AWP.skip ?_
      | with_reducible refine AWP.ret ?_
      | with_reducible refine AWP.block ?_
      | with_reducible refine AWP.exit ?_
      | (with_reducible refine ⟨fun h => ?_, fun h => ?_⟩ <;> (try simp only [Bool.not_eq_true', Bool.not_eq_false'] at h) <;> simp only [h, go_sem, Nat.reduceBEq, Nat.reduceBNe, Nat.reduceAdd, Nat.reduceSub, Nat.reduceMul, Nat.reduceLeDiff, Nat.reduceLT, reduceCtorEq, Nat.reduceEqDiff, Int.reduceToNat, Int.reduceLE, Int.reduceLT, Int.reduceEq, pin, List.length_map, dec_pos, hw, hw2, dat_snoc])
      | ((first | (refine ⟨1000000, _, _, _, IH.k 1000000 t ht, rfl, ?_⟩)); try simp only [go_sem, Nat.reduceBEq, Nat.reduceBNe, Nat.reduceAdd, Nat.reduceSub, Nat.reduceMul, Nat.reduceLeDiff, Nat.reduceLT, reduceCtorEq, Nat.reduceEqDiff, Int.reduceToNat, Int.reduceLE, Int.reduceLT, Int.reduceEq, pin, List.length_map, dec_pos, hw, hw2, dat_snoc])
      | (with_reducible refine ⟨by omega, ?_⟩)
      | (with_reducible refine AWP.segP (id := 14) 13 mixed (by kernel_rfl) fun K hK => ?_; simp only [List.take_succ_cons, List.take_zero, List.drop_succ_cons, List.drop_zero])
      | (with_reducible refine AWP.segP (id := 25) 8 mixed (by kernel_rfl) fun K hK => ?_; simp only [List.take_succ_cons, List.take_zero, List.drop_succ_cons, List.drop_zero])
      | (with_reducible refine AWP.segP (id := 40) 7 mixed (by kernel_rfl) fun K hK => ?_; simp only [List.take_succ_cons, List.take_zero, List.drop_succ_cons, List.drop_zero])
      | (with_reducible refine AWP.segP (id := 47) 11 mixed (by kernel_rfl) fun K hK => ?_; simp only [List.take_succ_cons, List.take_zero, List.drop_succ_cons, List.drop_zero])
      | (with_reducible refine AWP.parR mixed (by kernel_rfl) fun K hK => ?_)
      | (with_reducible refine Or.inl ?_)
      | (simp only [go_sem, Nat.reduceBEq, Nat.reduceBNe, Nat.reduceAdd, Nat.reduceSub, Nat.reduceMul, Nat.reduceLeDiff, Nat.reduceLT, reduceCtorEq, Nat.reduceEqDiff, Int.reduceToNat, Int.reduceLE, Int.reduceLT, Int.reduceEq, pin, List.length_map, dec_pos, hw, hw2, dat_snoc])
      | (clear hK K))
    all_goals (refine ⟨(n, (made d t).2, acc ++ [(made d t).1]), by simp only; omega, ⟨by simp only [List.length_append, List.length_cons, List.length_nil]; omega, ok_made d ht, hp⟩, Gh.to [(900, 115)] (by repeat (first | exact trivial | refine ⟨rfl, ?_⟩ | refine ⟨by (simp only [go_sem, Nat.reduceBEq, Nat.reduceBNe, Nat.reduceAdd, Nat.reduceSub, Nat.reduceMul, Nat.reduceLeDiff, Nat.reduceLT, reduceCtorEq, Nat.reduceEqDiff, Int.reduceToNat, Int.reduceLE, Int.reduceLT, Int.reduceEq]) <;> rfl, ?_⟩)) (by repeat (first | exact trivial | refine ⟨rfl, ?_⟩ | refine ⟨by (simp only [go_sem, Nat.reduceBEq, Nat.reduceBNe, Nat.reduceAdd, Nat.reduceSub, Nat.reduceMul, Nat.reduceLeDiff, Nat.reduceLT, reduceCtorEq, Nat.reduceEqDiff, Int.reduceToNat, Int.reduceLE, Int.reduceLT, Int.reduceEq]) <;> rfl, ?_⟩)) rfl rfl rfl⟩)
  | zero =>
    rw [madeN] at hp
    have h0 : decide ((0 : Int) < ((0 : Nat) : Int)) = false := by simp
    repeat' (first
      | ((first | with_reducible refine seqVC_stepN rfl fun K hK => ?_ | with_reducible refine seqVC_stepG rfl (by with_unfolding_all rfl) fun K hK => ?_); (try simp only [go_sem, Nat.reduceBEq, Nat.reduceBNe, Nat.reduceAdd, Nat.reduceSub, Nat.reduceMul, Nat.reduceLeDiff, Nat.reduceLT, reduceCtorEq, Nat.reduceEqDiff, Int.reduceToNat, Int.reduceLE, Int.reduceLT, Int.reduceEq, pin, h0]); all_goals fail_if_success guard_target =ₛ False)
      | with_reducible refine seqVC_nil ?_
      | (with_reducible refine hK _ _ _ ?_; clear hK K)
      | (with_reducible refine hK _ _ ?_; clear hK K)
      | (with_reducible refine hK _ ?_; clear hK K)
      | with_reducible refine AWP.seq fun K hK => ?_
      | (with_reducible refine AWP.seqR (by kernel_rfl) fun K hK => ?_)
      | ((first | with_reducible refine parVC_stepN rfl fun K hK => ?_ | with_reducible refine parVC_stepG rfl (by with_unfolding_all rfl) fun K hK => ?_ | with_reducible refine parEVC_stepN rfl fun K hK => ?_ | with_reducible refine parEVC_stepG rfl (by with_unfolding_all rfl) fun K hK => ?_ | with_reducible refine genVC_stepN rfl fun K hK => ?_ | with_reducible refine genVC_stepG rfl (by with_unfolding_all rfl) fun K hK => ?_); (try simp only [go_sem, Nat.reduceBEq, Nat.reduceBNe, Nat.reduceAdd, Nat.reduceSub, Nat.reduceMul, Nat.reduceLeDiff, Nat.reduceLT, reduceCtorEq, Nat.reduceEqDiff, Int.reduceToNat, Int.reduceLE, Int.reduceLT, Int.reduceEq, pin, h0]); all_goals fail_if_success guard_target =ₛ False)
      | with_reducible refine parVC_nil ?_
      | with_reducible refine parEVC_nil ?_
      | with_reducible refine genVC_nil ?_
      | (with_reducible refine AWP.cond (by with_unfolding_all rfl) (fun h => ?_) (fun h => ?_); all_goals (try simp only [Bool.not_eq_true', Bool.not_eq_false'] at h); (all_goals try first | (exact absurd h Bool.false_ne_true) | (exact absurd h.symm Bool.false_ne_true) | (exact absurd h (by decide))))
      | with_reducible refine AWP.skip ?_
      | with_reducible refine AWP.ret ?_
      | with_reducible refine AWP.block ?_
      | with_reducible refine AWP.exit ?_
      | (with_reducible refine ⟨fun h => ?_, fun h => ?_⟩ <;> (try simp only [Bool.not_eq_true', Bool.not_eq_false'] at h) <;> simp only [h, go_sem, Nat.reduceBEq, Nat.reduceBNe, Nat.reduceAdd, Nat.reduceSub, Nat.reduceMul, Nat.reduceLeDiff, Nat.reduceLT, reduceCtorEq, Nat.reduceEqDiff, Int.reduceToNat, Int.reduceLE, Int.reduceLT, Int.reduceEq, pin, h0])
      | (with_reducible refine AWP.segP (id := 14) 13 mixed (by kernel_rfl) fun K hK => ?_; simp only [List.take_succ_cons, List.take_zero, List.drop_succ_cons, List.drop_zero])
      | (with_reducible refine AWP.segP (id := 25) 8 mixed (by kernel_rfl) fun K hK => ?_; simp only [List.take_succ_cons, List.take_zero, List.drop_succ_cons, List.drop_zero])
      | (with_reducible refine AWP.segP (id := 40) 7 mixed (by kernel_rfl) fun K hK => ?_; simp only [List.take_succ_cons, List.take_zero, List.drop_succ_cons, List.drop_zero])
      | (with_reducible refine AWP.segP (id := 47) 11 mixed (by kernel_rfl) fun K hK => ?_; simp only [List.take_succ_cons, List.take_zero, List.drop_succ_cons, List.drop_zero])
      | (with_reducible refine AWP.parR mixed (by kernel_rfl) fun K hK => ?_)
      | (with_reducible refine Or.inl ?_)
      | (simp only [go_sem, Nat.reduceBEq, Nat.reduceBNe, Nat.reduceAdd, Nat.reduceSub, Nat.reduceMul, Nat.reduceLeDiff, Nat.reduceLT, reduceCtorEq, Nat.reduceEqDiff, Int.reduceToNat, Int.reduceLE, Int.reduceLT, Int.reduceEq, pin, h0])
      | (clear hK K))
    refine ⟨_, Gh.freeze 900 rfl rfl (by simp only [go_sem, Nat.reduceBEq, Nat.reduceBNe, Nat.reduceAdd, Nat.reduceSub, Nat.reduceMul, Nat.reduceLeDiff, Nat.reduceLT, reduceCtorEq, Nat.reduceEqDiff, Int.reduceToNat, Int.reduceLE, Int.reduceLT, Int.reduceEq, List.length_map]) (by simp only [go_sem, Nat.reduceBEq, Nat.reduceBNe, Nat.reduceAdd, Nat.reduceSub, Nat.reduceMul, Nat.reduceLeDiff, Nat.reduceLT, reduceCtorEq, Nat.reduceEqDiff, Int.reduceToNat, Int.reduceLE, Int.reduceLT, Int.reduceEq, List.length_map]), ?_⟩
    simp only [go_sem, Nat.reduceBEq, Nat.reduceBNe, Nat.reduceAdd, Nat.reduceSub, Nat.reduceMul, Nat.reduceLeDiff, Nat.reduceLT, reduceCtorEq, Nat.reduceEqDiff, Int.reduceToNat, Int.reduceLE, Int.reduceLT, Int.reduceEq, List.length_map]
    all_goals (refine ⟨by simp only [hp, Dt, encDat_eq, zeroDat]; rfl, fun x hx => ?_⟩)
    all_goals (simp only [List.mem_singleton] at hx; subst hx; simp [hp, pin])
theorem made_c9 (d : Nat) (hd : d ≤ 1000) (IH : MadeC d) (s : Src) (hs : s.ok) (hk : nextV s 12 = 9) :
    PCB Try.prog 7 [Sp pin, I .i64 (d + 1 : Nat)] [(pin, srcB s)] (Dt (made (d + 1) s).1) [(pin, srcB (made (d + 1) s).2)] := by
  have hM : made (d + 1) s = ({ zeroDat with kind := 6, kids := (madeN (made d) (nextV (nextS s 12) 4).toNat (nextS (nextS s 12) 4) []).1 }, (madeN (made d) (nextV (nextS s 12) 4).toNat (nextS (nextS s 12) 4) []).2) := by
    simp only [made, hk]; rfl
  rw [hM]
  refine PCB.of_body Try.func7 rfl (by decide) Try.ntmps7 Try.results7 rfl rfl rfl ?_ rfl rfl
  refine AWP.ghQ ?_
  have hs1 := ok_next hs 12
  have a1 := nextV_in (nextS s 12) (n := 4) (by omega)
  have hgt : decide ((6 : Int) < 9) = true := by decide
  have hd0 : decide (((d + 1 : Nat) : Int) = 0) = false := by simp; omega
  have hn : nextV (nextS s 12) 4 = (((nextV (nextS s 12) 4).toNat : Nat) : Int) := by omega
  repeat' (first
    | ((first | with_reducible refine seqVC_stepN rfl fun K hK => ?_ | with_reducible refine seqVC_stepG rfl (by with_unfolding_all rfl) fun K hK => ?_); (try simp only [go_sem, Nat.reduceBEq, Nat.reduceBNe, Nat.reduceAdd, Nat.reduceSub, Nat.reduceMul, Nat.reduceLeDiff, Nat.reduceLT, reduceCtorEq, Nat.reduceEqDiff, Int.reduceToNat, Int.reduceLE, Int.reduceLT, Int.reduceEq, pin, hk, hgt, hd0]); all_goals fail_if_success guard_target =ₛ False)
    | with_reducible refine seqVC_nil ?_
    | (with_reducible refine hK _ _ _ ?_; clear hK K)
    | (with_reducible refine hK _ _ ?_; clear hK K)
    | (with_reducible refine hK _ ?_; clear hK K)
    | with_reducible refine AWP.seq fun K hK => ?_
    | (with_reducible refine AWP.seqR (by kernel_rfl) fun K hK => ?_)
    | ((first | with_reducible refine parVC_stepN rfl fun K hK => ?_ | with_reducible refine parVC_stepG rfl (by with_unfolding_all rfl) fun K hK => ?_ | with_reducible refine parEVC_stepN rfl fun K hK => ?_ | with_reducible refine parEVC_stepG rfl (by with_unfolding_all rfl) fun K hK => ?_ | with_reducible refine genVC_stepN rfl fun K hK => ?_ | with_reducible refine genVC_stepG rfl (by with_unfolding_all rfl) fun K hK => ?_); (try simp only [go_sem, Nat.reduceBEq, Nat.reduceBNe, Nat.reduceAdd, Nat.reduceSub, Nat.reduceMul, Nat.reduceLeDiff, Nat.reduceLT, reduceCtorEq, Nat.reduceEqDiff, Int.reduceToNat, Int.reduceLE, Int.reduceLT, Int.reduceEq, pin, hk, hgt, hd0]); all_goals fail_if_success guard_target =ₛ False)
    | with_reducible refine parVC_nil ?_
    | with_reducible refine parEVC_nil ?_
    | with_reducible refine genVC_nil ?_
    | (with_reducible refine AWP.cond (by with_unfolding_all rfl) (fun h => ?_) (fun h => ?_); all_goals (try simp only [Bool.not_eq_true', Bool.not_eq_false'] at h); (all_goals try first | (exact absurd h Bool.false_ne_true) | (exact absurd h.symm Bool.false_ne_true) | (exact absurd h (by decide))))
    | with_reducible refine AWP.skip ?_
    | with_reducible refine AWP.ret ?_
    | with_reducible refine AWP.block ?_
    | with_reducible refine AWP.exit ?_
    | (with_reducible refine ⟨fun h => ?_, fun h => ?_⟩ <;> (try simp only [Bool.not_eq_true', Bool.not_eq_false'] at h) <;> simp only [h, go_sem, Nat.reduceBEq, Nat.reduceBNe, Nat.reduceAdd, Nat.reduceSub, Nat.reduceMul, Nat.reduceLeDiff, Nat.reduceLT, reduceCtorEq, Nat.reduceEqDiff, Int.reduceToNat, Int.reduceLE, Int.reduceLT, Int.reduceEq, pin, hk, hgt, hd0])
    | ((first | (refine ⟨1000000, _, _, _, next_k 1000000 _ (by repeat (first | with_reducible exact hs | with_reducible refine ok_next ?_ _)) _ (by omega), rfl, ?_⟩)); try simp only [go_sem, Nat.reduceBEq, Nat.reduceBNe, Nat.reduceAdd, Nat.reduceSub, Nat.reduceMul, Nat.reduceLeDiff, Nat.reduceLT, reduceCtorEq, Nat.reduceEqDiff, Int.reduceToNat, Int.reduceLE, Int.reduceLT, Int.reduceEq, pin, hk, hgt, hd0])
    | (with_reducible refine AWP.segP (id := 14) 13 mixed (by kernel_rfl) fun K hK => ?_; simp only [List.take_succ_cons, List.take_zero, List.drop_succ_cons, List.drop_zero])
    | (with_reducible refine AWP.segP (id := 25) 8 mixed (by kernel_rfl) fun K hK => ?_; simp only [List.take_succ_cons, List.take_zero, List.drop_succ_cons, List.drop_zero])
    | (with_reducible refine AWP.segP (id := 40) 7 mixed (by kernel_rfl) fun K hK => ?_; simp only [List.take_succ_cons, List.take_zero, List.drop_succ_cons, List.drop_zero])
    | (with_reducible refine AWP.segP (id := 47) 11 mixed (by kernel_rfl) fun K hK => ?_; simp only [List.take_succ_cons, List.take_zero, List.drop_succ_cons, List.drop_zero])
    | (with_reducible refine AWP.parR mixed (by kernel_rfl) fun K hK => ?_)
    | (with_reducible refine Or.inl ?_)
    | (simp only [go_sem, Nat.reduceBEq, Nat.reduceBNe, Nat.reduceAdd, Nat.reduceSub, Nat.reduceMul, Nat.reduceLeDiff, Nat.reduceLT, reduceCtorEq, Nat.reduceEqDiff, Int.reduceToNat, Int.reduceLE, Int.reduceLT, Int.reduceEq, pin, hk, hgt, hd0])
    | (clear hK K))
  refine AWP.gh (Gh.nilrow 9 900 rfl rfl rfl rfl) ?_
  rw [hn]
  refine AWP.loopS (X := Nat × Src × List Dat) (fun x => [(10, I .i64 x.1), (9, .one (.own 900 x.2.2.length)), (0, Sp 1000000), (1, I .i64 (d + 1 : Nat)), (4, Sp 4)])
    (fun x => [(1000000, srcB x.2.1), (4, zeroB), Dr 900 x.2.2])
    (fun x => x.1 + x.2.2.length ≤ 1000 ∧ x.2.1.ok ∧ madeN (made d) (nextV (nextS s 12) 4).toNat (nextS (nextS s 12) 4) [] = madeN (made d) x.1 x.2.1 x.2.2) (fun x => x.1) ((nextV (nextS s 12) 4).toNat, nextS (nextS s 12) 4, []) (Gh.to [] (by repeat (first | exact trivial | refine ⟨rfl, ?_⟩ | refine ⟨by (simp only [go_sem, Nat.reduceBEq, Nat.reduceBNe, Nat.reduceAdd, Nat.reduceSub, Nat.reduceMul, Nat.reduceLeDiff, Nat.reduceLT, reduceCtorEq, Nat.reduceEqDiff, Int.reduceToNat, Int.reduceLE, Int.reduceLT, Int.reduceEq]) <;> rfl, ?_⟩)) (by repeat (first | exact trivial | refine ⟨rfl, ?_⟩ | refine ⟨by (simp only [go_sem, Nat.reduceBEq, Nat.reduceBNe, Nat.reduceAdd, Nat.reduceSub, Nat.reduceMul, Nat.reduceLeDiff, Nat.reduceLT, reduceCtorEq, Nat.reduceEqDiff, Int.reduceToNat, Int.reduceLE, Int.reduceLT, Int.reduceEq]) <;> rfl, ?_⟩)) rfl rfl rfl) ⟨by simp; omega, ok_next hs1 _, rfl⟩ ?_
  rintro ⟨n, t, acc⟩ ⟨hl, ht, hp⟩
  simp only at hl ht hp
  cases n with
  | succ n =>
    rw [madeN] at hp
    have hw : IntKind.i64.wrap (((d + 1 : Nat) : Int) - 1) = (d : Int) := wrap_pred_nat (by omega)
    have hw2 : IntKind.i64.wrap (((n + 1 : Nat) : Int) - 1) = (n : Int) := wrap_pred_nat (by omega)
    repeat' (first
      | ((first | with_reducible refine seqVC_stepN rfl fun K hK => ?_ | with_reducible refine seqVC_stepG rfl (by with_unfolding_all rfl) fun K hK => ?_); (try simp only [go_sem, Nat.reduceBEq, Nat.reduceBNe, Nat.reduceAdd, Nat.reduceSub, Nat.reduceMul, Nat.reduceLeDiff, Nat.reduceLT, reduceCtorEq, Nat.reduceEqDiff, Int.reduceToNat, Int.reduceLE, Int.reduceLT, Int.reduceEq, pin, List.length_map, dec_pos, hw, hw2, dat_snoc]); all_goals fail_if_success guard_target =ₛ False)
      | with_reducible refine seqVC_nil ?_
      | (with_reducible refine hK _ _ _ ?_; clear hK K)
      | (with_reducible refine hK _ _ ?_; clear hK K)
      | (with_reducible refine hK _ ?_; clear hK K)
      | with_reducible refine AWP.seq fun K hK => ?_
      | (with_reducible refine AWP.seqR (by kernel_rfl) fun K hK => ?_)
      | ((first | with_reducible refine parVC_stepN rfl fun K hK => ?_ | with_reducible refine parVC_stepG rfl (by with_unfolding_all rfl) fun K hK => ?_ | with_reducible refine parEVC_stepN rfl fun K hK => ?_ | with_reducible refine parEVC_stepG rfl (by with_unfolding_all rfl) fun K hK => ?_ | with_reducible refine genVC_stepN rfl fun K hK => ?_ | with_reducible refine genVC_stepG rfl (by with_unfolding_all rfl) fun K hK => ?_); (try simp only [go_sem, Nat.reduceBEq, Nat.reduceBNe, Nat.reduceAdd, Nat.reduceSub, Nat.reduceMul, Nat.reduceLeDiff, Nat.reduceLT, reduceCtorEq, Nat.reduceEqDiff, Int.reduceToNat, Int.reduceLE, Int.reduceLT, Int.reduceEq, pin, List.length_map, dec_pos, hw, hw2, dat_snoc]); all_goals fail_if_success guard_target =ₛ False)
      | with_reducible refine parVC_nil ?_
      | with_reducible refine parEVC_nil ?_
      | with_reducible refine genVC_nil ?_
      | (with_reducible refine AWP.cond (by with_unfolding_all rfl) (fun h => ?_) (fun h => ?_); all_goals (try simp only [Bool.not_eq_true', Bool.not_eq_false'] at h); (all_goals try first | (exact absurd h Bool.false_ne_true) | (exact absurd h.symm Bool.false_ne_true) | (exact absurd h (by decide))))
      | with_reducible refine AWP.skip ?_
      | with_reducible refine AWP.ret ?_
      | with_reducible refine AWP.block ?_
      | with_reducible refine AWP.exit ?_
      | (with_reducible refine ⟨fun h => ?_, fun h => ?_⟩ <;> (try simp only [Bool.not_eq_true', Bool.not_eq_false'] at h) <;> simp only [h, go_sem, Nat.reduceBEq, Nat.reduceBNe, Nat.reduceAdd, Nat.reduceSub, Nat.reduceMul, Nat.reduceLeDiff, Nat.reduceLT, reduceCtorEq, Nat.reduceEqDiff, Int.reduceToNat, Int.reduceLE, Int.reduceLT, Int.reduceEq, pin, List.length_map, dec_pos, hw, hw2, dat_snoc])
      | ((first | (refine ⟨1000000, _, _, _, IH.k 1000000 t ht, rfl, ?_⟩)); try simp only [go_sem, Nat.reduceBEq, Nat.reduceBNe, Nat.reduceAdd, Nat.reduceSub, Nat.reduceMul, Nat.reduceLeDiff, Nat.reduceLT, reduceCtorEq, Nat.reduceEqDiff, Int.reduceToNat, Int.reduceLE, Int.reduceLT, Int.reduceEq, pin, List.length_map, dec_pos, hw, hw2, dat_snoc])
      | (with_reducible refine ⟨by omega, ?_⟩)
      | (with_reducible refine AWP.segP (id := 14) 13 mixed (by kernel_rfl) fun K hK => ?_; simp only [List.take_succ_cons, List.take_zero, List.drop_succ_cons, List.drop_zero])
      | (with_reducible refine AWP.segP (id := 25) 8 mixed (by kernel_rfl) fun K hK => ?_; simp only [List.take_succ_cons, List.take_zero, List.drop_succ_cons, List.drop_zero])
      | (with_reducible refine AWP.segP (id := 40) 7 mixed (by kernel_rfl) fun K hK => ?_; simp only [List.take_succ_cons, List.take_zero, List.drop_succ_cons, List.drop_zero])
      | (with_reducible refine AWP.segP (id := 47) 11 mixed (by kernel_rfl) fun K hK => ?_; simp only [List.take_succ_cons, List.take_zero, List.drop_succ_cons, List.drop_zero])
      | (with_reducible refine AWP.parR mixed (by kernel_rfl) fun K hK => ?_)
      | (with_reducible refine Or.inl ?_)
      | (simp only [go_sem, Nat.reduceBEq, Nat.reduceBNe, Nat.reduceAdd, Nat.reduceSub, Nat.reduceMul, Nat.reduceLeDiff, Nat.reduceLT, reduceCtorEq, Nat.reduceEqDiff, Int.reduceToNat, Int.reduceLE, Int.reduceLT, Int.reduceEq, pin, List.length_map, dec_pos, hw, hw2, dat_snoc])
      | (clear hK K))
    all_goals (refine ⟨(n, (made d t).2, acc ++ [(made d t).1]), by simp only; omega, ⟨by simp only [List.length_append, List.length_cons, List.length_nil]; omega, ok_made d ht, hp⟩, Gh.to [(900, 115)] (by repeat (first | exact trivial | refine ⟨rfl, ?_⟩ | refine ⟨by (simp only [go_sem, Nat.reduceBEq, Nat.reduceBNe, Nat.reduceAdd, Nat.reduceSub, Nat.reduceMul, Nat.reduceLeDiff, Nat.reduceLT, reduceCtorEq, Nat.reduceEqDiff, Int.reduceToNat, Int.reduceLE, Int.reduceLT, Int.reduceEq]) <;> rfl, ?_⟩)) (by repeat (first | exact trivial | refine ⟨rfl, ?_⟩ | refine ⟨by (simp only [go_sem, Nat.reduceBEq, Nat.reduceBNe, Nat.reduceAdd, Nat.reduceSub, Nat.reduceMul, Nat.reduceLeDiff, Nat.reduceLT, reduceCtorEq, Nat.reduceEqDiff, Int.reduceToNat, Int.reduceLE, Int.reduceLT, Int.reduceEq]) <;> rfl, ?_⟩)) rfl rfl rfl⟩)
  | zero =>
    rw [madeN] at hp
    have h0 : decide ((0 : Int) < ((0 : Nat) : Int)) = false := by simp
    repeat' (first
      | ((first | with_reducible refine seqVC_stepN rfl fun K hK => ?_ | with_reducible refine seqVC_stepG rfl (by with_unfolding_all rfl) fun K hK => ?_); (try simp only [go_sem, Nat.reduceBEq, Nat.reduceBNe, Nat.reduceAdd, Nat.reduceSub, Nat.reduceMul, Nat.reduceLeDiff, Nat.reduceLT, reduceCtorEq, Nat.reduceEqDiff, Int.reduceToNat, Int.reduceLE, Int.reduceLT, Int.reduceEq, pin, h0]); all_goals fail_if_success guard_target =ₛ False)
      | with_reducible refine seqVC_nil ?_
      | (with_reducible refine hK _ _ _ ?_; clear hK K)
      | (with_reducible refine hK _ _ ?_; clear hK K)
      | (with_reducible refine hK _ ?_; clear hK K)
      | with_reducible refine AWP.seq fun K hK => ?_
      | (with_reducible refine AWP.seqR (by kernel_rfl) fun K hK => ?_)
      | ((first | with_reducible refine parVC_stepN rfl fun K hK => ?_ | with_reducible refine parVC_stepG rfl (by with_unfolding_all rfl) fun K hK => ?_ | with_reducible refine parEVC_stepN rfl fun K hK => ?_ | with_reducible refine parEVC_stepG rfl (by with_unfolding_all rfl) fun K hK => ?_ | with_reducible refine genVC_stepN rfl fun K hK => ?_ | with_reducible refine genVC_stepG rfl (by with_unfolding_all rfl) fun K hK => ?_); (try simp only [go_sem, Nat.reduceBEq, Nat.reduceBNe, Nat.reduceAdd, Nat.reduceSub, Nat.reduceMul, Nat.reduceLeDiff, Nat.reduceLT, reduceCtorEq, Nat.reduceEqDiff, Int.reduceToNat, Int.reduceLE, Int.reduceLT, Int.reduceEq, pin, h0]); all_goals fail_if_success guard_target =ₛ False)
      | with_reducible refine parVC_nil ?_
      | with_reducible refine parEVC_nil ?_
      | with_reducible refine genVC_nil ?_
      | (with_reducible refine AWP.cond (by with_unfolding_all rfl) (fun h => ?_) (fun h => ?_); all_goals (try simp only [Bool.not_eq_true', Bool.not_eq_false'] at h); (all_goals try first | (exact absurd h Bool.false_ne_true) | (exact absurd h.symm Bool.false_ne_true) | (exact absurd h (by decide))))
      | with_reducible refine AWP.skip ?_
      | with_reducible refine AWP.ret ?_
      | with_reducible refine AWP.block ?_
      | with_reducible refine AWP.exit ?_
      | (with_reducible refine ⟨fun h => ?_, fun h => ?_⟩ <;> (try simp only [Bool.not_eq_true', Bool.not_eq_false'] at h) <;> simp only [h, go_sem, Nat.reduceBEq, Nat.reduceBNe, Nat.reduceAdd, Nat.reduceSub, Nat.reduceMul, Nat.reduceLeDiff, Nat.reduceLT, reduceCtorEq, Nat.reduceEqDiff, Int.reduceToNat, Int.reduceLE, Int.reduceLT, Int.reduceEq, pin, h0])
      | (with_reducible refine AWP.segP (id := 14) 13 mixed (by kernel_rfl) fun K hK => ?_; simp only [List.take_succ_cons, List.take_zero, List.drop_succ_cons, List.drop_zero])
      | (with_reducible refine AWP.segP (id := 25) 8 mixed (by kernel_rfl) fun K hK => ?_; simp only [List.take_succ_cons, List.take_zero, List.drop_succ_cons, List.drop_zero])
      | (with_reducible refine AWP.segP (id := 40) 7 mixed (by kernel_rfl) fun K hK => ?_; simp only [List.take_succ_cons, List.take_zero, List.drop_succ_cons, List.drop_zero])
      | (with_reducible refine AWP.segP (id := 47) 11 mixed (by kernel_rfl) fun K hK => ?_; simp only [List.take_succ_cons, List.take_zero, List.drop_succ_cons, List.drop_zero])
      | (with_reducible refine AWP.parR mixed (by kernel_rfl) fun K hK => ?_)
      | (with_reducible refine Or.inl ?_)
      | (simp only [go_sem, Nat.reduceBEq, Nat.reduceBNe, Nat.reduceAdd, Nat.reduceSub, Nat.reduceMul, Nat.reduceLeDiff, Nat.reduceLT, reduceCtorEq, Nat.reduceEqDiff, Int.reduceToNat, Int.reduceLE, Int.reduceLT, Int.reduceEq, pin, h0])
      | (clear hK K))
    refine ⟨_, Gh.freeze 900 rfl rfl (by simp only [go_sem, Nat.reduceBEq, Nat.reduceBNe, Nat.reduceAdd, Nat.reduceSub, Nat.reduceMul, Nat.reduceLeDiff, Nat.reduceLT, reduceCtorEq, Nat.reduceEqDiff, Int.reduceToNat, Int.reduceLE, Int.reduceLT, Int.reduceEq, List.length_map]) (by simp only [go_sem, Nat.reduceBEq, Nat.reduceBNe, Nat.reduceAdd, Nat.reduceSub, Nat.reduceMul, Nat.reduceLeDiff, Nat.reduceLT, reduceCtorEq, Nat.reduceEqDiff, Int.reduceToNat, Int.reduceLE, Int.reduceLT, Int.reduceEq, List.length_map]), ?_⟩
    simp only [go_sem, Nat.reduceBEq, Nat.reduceBNe, Nat.reduceAdd, Nat.reduceSub, Nat.reduceMul, Nat.reduceLeDiff, Nat.reduceLT, reduceCtorEq, Nat.reduceEqDiff, Int.reduceToNat, Int.reduceLE, Int.reduceLT, Int.reduceEq, List.length_map]
    all_goals (refine ⟨by simp only [hp, Dt, encDat_eq, zeroDat]; rfl, fun x hx => ?_⟩)
    all_goals (simp only [List.mem_singleton] at hx; subst hx; simp [hp, pin])
end Go.Proofs.Ytmpfdejckbceiaa
