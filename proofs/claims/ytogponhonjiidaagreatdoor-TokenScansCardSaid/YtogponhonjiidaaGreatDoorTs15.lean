/- A part of the proof: lemmas about the walk of the program and about plain integers and lists. No conditions beyond those that each lemma states. -/
import Derived.Test.YtogponhonjiidaaGreatDoorTs14
import Derived.Test.YtogponhonjiidaaGreatDoorTs12
set_option linter.unusedSimpArgs false
set_option linter.unusedVariables false
set_option maxRecDepth 20000
set_option maxHeartbeats 16000000
namespace Go.Proofs.YtogponhonjiidaaGreatDoor
open Go Go.Sx
open Nat renaming reduceBEq → zA, reduceBNe → zB, reduceAdd → zC, reduceSub → zD, reduceMul → zE, reduceLeDiff → zF, reduceLT → zG, reduceEqDiff → zH
open Int renaming reduceToNat → zI, reduceLE → zJ, reduceLT → zK, reduceEq → zL
open Bool renaming not_eq_true' → zM, not_eq_false' → zN
theorem digI_byteV (s : List UInt8) (i : Nat) : digI (byteV s (i + 1)) = nextDig s i := by
 unfold byteV nextDig
 cases s[i + 1]? with
 | none => decide
 | some c => rfl
theorem one_num (s : List UInt8) (hs : s.length ≤ 1000000000) (i : Nat) (b : UInt8) (hb : s[i]? = some b) (h95 : decide ((b.toNat : Int) = 95) = false) (hlo : lowI b.toNat = false) (hup : uppI b.toNat = false)
  (hcond : (digI b.toNat || (decide ((b.toNat : Int) = 45) && nextDig s i)) = true) (n e : Int)
  (hnum : PC Tryz.prog 41 [S ((s.take (toW digI s (i + 1))).drop i)] (.tup [I .i64 n, I .i64 e])) :
  OneOk s i (bif decide (e = 0) then (⟨3, [], n, 0⟩, 0) else (zeroTok, e), toW digI s (i + 1)) := by
 have hi : i < s.length := (List.getElem?_eq_some_iff.1 hb).1
 have hw0 := wk64 hi (show s.length ≤ 1000000000000 by omega)
 have hge := toW_ge (p := digI) (s := s) (k := i + 1)
 have hle := toW_le (p := digI) (s := s) (k := i + 1) (by omega)
 have c1 := ref26lower_c b.toNat
 have c2 := ref26upper_c b.toNat
 have c3 := ref26digit_c b.toNat
 have c4 := byteAt_c s (i + 1)
 have c5 := ref26digit_c (byteV s (i + 1))
 rw [digI_byteV] at c5
 rw [hlo] at c1
 rw [hup] at c2
 refine ⟨⟨3, [], n, i⟩, toW digI s (i + 1), ?_, fun h => ?_⟩
 case refine_2 =>
  cases hz : decide (e = 0) with
  | true => exact ⟨rfl, rfl⟩
  | false => rw [hz] at h; simp only [cond_false] at h; exact absurd h (by simpa using hz)
 rw [show (bif decide (e = 0) then ((⟨3, [], n, 0⟩ : Tok), (0 : Int)) else (zeroTok, e)).2 = e by
  cases hz : decide (e = 0) with
  | true => simp only [cond_true]; exact (by simpa using hz : e = 0).symm
  | false => rfl]
 cases hd : digI b.toNat <;> rw [hd] at c3 hcond <;> cases h45 : decide ((b.toNat : Int) = 45) <;> rw [h45] at hcond <;> cases hnd : nextDig s i <;> rw [hnd] at c5 hcond <;> (try exact absurd hcond (by decide))
 all_goals
  refine PCB.of_body Tryz.func21 rfl (by decide) Tryz.ntmps21 Tryz.results21 rfl rfl rfl ?_ rfl rfl
  repeat' (first | (simp only [go_sem, zA, zB, zC, zD, zE, zF, zG, reduceCtorEq, zH, zI, zJ, zK, zL, h95, h45, hw0]; all_goals fail_if_success guard_target =ₛ False) | (with_reducible first | ((first | refine seqVC_stepN rfl ?_ | refine seqVC_stepG rfl (by with_unfolding_all rfl) ?_ | refine AWP.seq ?_ | refine AWP.seqR (by kernel_rfl) ?_); intro K hK) | ((first | refine hK _ _ _ ?_ | refine hK _ _ ?_ | refine hK _ ?_); clear hK K) | refine seqVC_nil ?_ | refine AWP.block ?_ | (refine AWP.cond (by with_unfolding_all rfl) ?_ ?_ <;> intro h <;> (try simp only [zM, zN] at h) <;> try exact absurd h (by decide)) | refine AWP.skip ?_ | refine AWP.ret ?_ | refine AWP.exit ?_ | (refine ⟨fun h => ?_, fun h => ?_⟩ <;> (try simp only [zM, zN] at h) <;> try simp only [h]) | refine ⟨_, c1, ?_⟩ | refine ⟨_, c2, ?_⟩ | refine ⟨_, c3, ?_⟩ | refine ⟨_, c4, ?_⟩ | refine ⟨_, c5, ?_⟩ | refine ⟨b, hb, ?_⟩ | refine ⟨by omega, b, hb, ?_⟩ | refine Or.inl ?_) | (clear hK K))
  refine AWP.loopF (X := Nat) (fun k => [(10, I .i64 (k : Nat))]) (fun k => [(4, .cells [.dat (.int .i64 0), .dat (.str []), .dat (.int .i64 0), .dat (.int .i64 0)])]) [0, 1, 4] [] (fun k => i + 1 ≤ k ∧ k ≤ s.length ∧ toW digI s (i + 1) = toW digI s k) (fun k => s.length - k) (i + 1) (by simp only [go_sem, zA, zB, zC, zD, zE, zF, zG, reduceCtorEq, zH, zI, zJ, zK, zL]; exact Gh.to [] (by repeat (first | exact trivial | refine ⟨rfl, ?_⟩ | refine ⟨by (simp only [go_sem, zA, zB, zC, zD, zE, zF, zG, reduceCtorEq, zH, zI, zJ, zK, zL, List.length_append, List.length_map, List.length_cons, List.length_nil, Nat.zero_add]) <;> rfl, ?_⟩)) (by repeat (first | exact trivial | refine ⟨rfl, ?_⟩ | refine ⟨by (simp only [go_sem, zA, zB, zC, zD, zE, zF, zG, reduceCtorEq, zH, zI, zJ, zK, zL, List.length_append, List.length_map, List.length_cons, List.length_nil, Nat.zero_add]) <;> rfl, ?_⟩)) rfl rfl rfl) ?_ ?_
  ·exact ⟨Nat.le_refl _, by omega, rfl⟩
  rintro k ⟨hik, hks, hok⟩
  simp only [go_sem, zA, zB, zC, zD, zE, zF, zG, reduceCtorEq, zH, zI, zJ, zK, zL]
  have hbk := byteAt_c s k
  by_cases hlt : k < s.length
  ·obtain ⟨c, hc⟩ := byte_at hlt
   have hw := wk64 hlt (show s.length ≤ 1000000000000 by omega)
   rw [byteV_at hc] at hbk
   have h2 := ref26digit_c c.toNat
   cases hp : digI c.toNat with
   | true =>
    rw [hp] at h2
    rw [toW_yes hc hp] at hok
    repeat' (first | (simp only [go_sem, zA, zB, zC, zD, zE, zF, zG, reduceCtorEq, zH, zI, zJ, zK, zL, hw]; all_goals fail_if_success guard_target =ₛ False) | (with_reducible first | ((first | refine seqVC_stepN rfl ?_ | refine seqVC_stepG rfl (by with_unfolding_all rfl) ?_ | refine AWP.seq ?_ | refine AWP.seqR (by kernel_rfl) ?_); intro K hK) | ((first | refine hK _ _ _ ?_ | refine hK _ _ ?_ | refine hK _ ?_); clear hK K) | refine seqVC_nil ?_ | refine AWP.block ?_ | (refine AWP.cond (by with_unfolding_all rfl) ?_ ?_ <;> intro h <;> (try simp only [zM, zN] at h) <;> try exact absurd h (by decide)) | refine AWP.skip ?_ | refine AWP.ret ?_ | refine AWP.exit ?_ | (refine ⟨fun h => ?_, fun h => ?_⟩ <;> (try simp only [zM, zN] at h) <;> try simp only [h]) | refine ⟨_, hbk, ?_⟩ | refine ⟨_, h2, ?_⟩ | refine Or.inl ?_) | (clear hK K))
    all_goals (refine ⟨k + 1, by omega, ⟨by omega, by omega, hok⟩, Gh.to [] (by repeat (first | exact trivial | refine ⟨rfl, ?_⟩ | refine ⟨by (simp only [go_sem, zA, zB, zC, zD, zE, zF, zG, reduceCtorEq, zH, zI, zJ, zK, zL, List.length_append, List.length_map, List.length_cons, List.length_nil, Nat.zero_add]) <;> rfl, ?_⟩)) (by repeat (first | exact trivial | refine ⟨rfl, ?_⟩ | refine ⟨by (simp only [go_sem, zA, zB, zC, zD, zE, zF, zG, reduceCtorEq, zH, zI, zJ, zK, zL, List.length_append, List.length_map, List.length_cons, List.length_nil, Nat.zero_add]) <;> rfl, ?_⟩)) rfl rfl rfl⟩)
   | false =>
    rw [hp] at h2
    rw [toW_no hc hp] at hok
    rw [hok] at hnum
    repeat' (first | (simp only [go_sem, zA, zB, zC, zD, zE, zF, zG, reduceCtorEq, zH, zI, zJ, zK, zL]; all_goals fail_if_success guard_target =ₛ False) | (with_reducible first | ((first | refine seqVC_stepN rfl ?_ | refine seqVC_stepG rfl (by with_unfolding_all rfl) ?_ | refine AWP.seq ?_ | refine AWP.seqR (by kernel_rfl) ?_); intro K hK) | ((first | refine hK _ _ _ ?_ | refine hK _ _ ?_ | refine hK _ ?_); clear hK K) | refine seqVC_nil ?_ | refine AWP.block ?_ | (refine AWP.cond (by with_unfolding_all rfl) ?_ ?_ <;> intro h <;> (try simp only [zM, zN] at h) <;> try exact absurd h (by decide)) | refine AWP.skip ?_ | refine AWP.ret ?_ | refine AWP.exit ?_ | (refine ⟨fun h => ?_, fun h => ?_⟩ <;> (try simp only [zM, zN] at h) <;> try simp only [h]) | refine ⟨_, hbk, ?_⟩ | refine ⟨_, h2, ?_⟩ | refine ⟨_, hnum, ?_⟩ | refine ⟨by omega, ?_⟩ | refine ⟨by omega, by omega, ?_⟩ | refine ⟨by omega, by omega, by omega, ?_⟩ | refine Or.inl ?_) | (clear hK K))
    rw [hok]
    all_goals (first | exact fun _ h => absurd h List.not_mem_nil | refine fin0 ?_)
    all_goals rfl
  ·rw [byteV_end (by omega)] at hbk
   rw [toW_end (s := s) (k := k) (by omega)] at hok
   have h2 := ref26digit_c 0
   rw [show digI 0 = false by decide] at h2
   rw [hok] at hnum
   repeat' (first | (simp only [go_sem, zA, zB, zC, zD, zE, zF, zG, reduceCtorEq, zH, zI, zJ, zK, zL]; all_goals fail_if_success guard_target =ₛ False) | (with_reducible first | ((first | refine seqVC_stepN rfl ?_ | refine seqVC_stepG rfl (by with_unfolding_all rfl) ?_ | refine AWP.seq ?_ | refine AWP.seqR (by kernel_rfl) ?_); intro K hK) | ((first | refine hK _ _ _ ?_ | refine hK _ _ ?_ | refine hK _ ?_); clear hK K) | refine seqVC_nil ?_ | refine AWP.block ?_ | (refine AWP.cond (by with_unfolding_all rfl) ?_ ?_ <;> intro h <;> (try simp only [zM, zN] at h) <;> try exact absurd h (by decide)) | refine AWP.skip ?_ | refine AWP.ret ?_ | refine AWP.exit ?_ | (refine ⟨fun h => ?_, fun h => ?_⟩ <;> (try simp only [zM, zN] at h) <;> try simp only [h]) | refine ⟨_, hbk, ?_⟩ | refine ⟨_, h2, ?_⟩ | refine ⟨_, hnum, ?_⟩ | refine ⟨by omega, ?_⟩ | refine ⟨by omega, by omega, ?_⟩ | refine ⟨by omega, by omega, by omega, ?_⟩ | refine Or.inl ?_) | (clear hK K))
   rw [hok]
   all_goals (first | exact fun _ h => absurd h List.not_mem_nil | refine fin0 ?_)
   all_goals rfl
theorem one_quote (s : List UInt8) (hs : s.length ≤ 100000000) (i : Nat) (b : UInt8) (hb : s[i]? = some b) (h95 : decide ((b.toNat : Int) = 95) = false) (hlo : lowI b.toNat = false) (hup : uppI b.toNat = false) (hdg : digI b.toNat = false) (h45 : decide ((b.toNat : Int) = 45) = false)
  (h34 : decide ((b.toNat : Int) = 34) = true) : OneOk s i (quoV s i) := by
 have hi : i < s.length := (List.getElem?_eq_some_iff.1 hb).1
 have c1 := ref26lower_c b.toNat
 have c2 := ref26upper_c b.toNat
 have c3 := ref26digit_c b.toNat
 rw [hlo] at c1
 rw [hup] at c2
 rw [hdg] at c3
 have hq := rquoted_c s (by omega) i hi
 unfold rquoV at hq
 cases hqa : qAt s (i + 1) with
 | none =>
  rw [hqa] at hq
  simp only at hq
  rw [show quoV s i = ((zeroTok, 5), i) by unfold quoV; rw [hqa]]
  refine ⟨⟨0, [], 0, 0⟩, i, ?_, fun h => absurd (show (5 : Int) = 0 from h) (by decide)⟩
  have hneg : decide ((-1 : Int) < 0) = true := by decide
  refine PCB.of_body Tryz.func21 rfl (by decide) Tryz.ntmps21 Tryz.results21 rfl rfl rfl ?_ rfl rfl
  repeat' (first | (simp only [go_sem, zA, zB, zC, zD, zE, zF, zG, reduceCtorEq, zH, zI, zJ, zK, zL, h95, h45, h34, hneg]; all_goals fail_if_success guard_target =ₛ False) | (with_reducible first | ((first | refine seqVC_stepN rfl ?_ | refine seqVC_stepG rfl (by with_unfolding_all rfl) ?_ | refine AWP.seq ?_ | refine AWP.seqR (by kernel_rfl) ?_); intro K hK) | ((first | refine hK _ _ _ ?_ | refine hK _ _ ?_ | refine hK _ ?_); clear hK K) | refine seqVC_nil ?_ | refine AWP.block ?_ | (refine AWP.cond (by with_unfolding_all rfl) ?_ ?_ <;> intro h <;> (try simp only [zM, zN] at h) <;> try exact absurd h (by decide)) | refine AWP.skip ?_ | refine AWP.ret ?_ | refine AWP.exit ?_ | (refine ⟨fun h => ?_, fun h => ?_⟩ <;> (try simp only [zM, zN] at h) <;> try simp only [h]) | refine ⟨_, c1, ?_⟩ | refine ⟨_, c2, ?_⟩ | refine ⟨_, c3, ?_⟩ | refine ⟨_, hq, ?_⟩ | refine ⟨b, hb, ?_⟩ | refine ⟨by omega, b, hb, ?_⟩ | refine Or.inl ?_) | (clear hK K))
  all_goals (first | exact fun _ h => absurd h List.not_mem_nil | refine fin0 ?_)
  all_goals rfl
 | some j =>
  rw [hqa] at hq
  simp only at hq
  have hj := qAt_bd hqa
  have hpos : decide (((j + 1 : Nat) : Int) < 0) = false := by rw [decide_eq_false_iff_not]; omega
  have hu := runquote_c ((s.take (j + 1)).drop i) (by simp only [List.length_drop, List.length_take]; omega)
  cases hv : unqV ((s.take (j + 1)).drop i) with
  | none =>
   rw [hv] at hu
   simp only [Option.getD_none, Option.isSome_none] at hu
   rw [show quoV s i = ((zeroTok, 5), j + 1) by unfold quoV; rw [hqa]; simp only [qTok, hv]]
   refine ⟨⟨0, [], 0, 0⟩, i, ?_, fun h => absurd (show (5 : Int) = 0 from h) (by decide)⟩
   refine PCB.of_body Tryz.func21 rfl (by decide) Tryz.ntmps21 Tryz.results21 rfl rfl rfl ?_ rfl rfl
   repeat' (first | (simp only [go_sem, zA, zB, zC, zD, zE, zF, zG, reduceCtorEq, zH, zI, zJ, zK, zL, h95, h45, h34, hpos]; all_goals fail_if_success guard_target =ₛ False) | (with_reducible first | ((first | refine seqVC_stepN rfl ?_ | refine seqVC_stepG rfl (by with_unfolding_all rfl) ?_ | refine AWP.seq ?_ | refine AWP.seqR (by kernel_rfl) ?_); intro K hK) | ((first | refine hK _ _ _ ?_ | refine hK _ _ ?_ | refine hK _ ?_); clear hK K) | refine seqVC_nil ?_ | refine AWP.block ?_ | (refine AWP.cond (by with_unfolding_all rfl) ?_ ?_ <;> intro h <;> (try simp only [zM, zN] at h) <;> try exact absurd h (by decide)) | refine AWP.skip ?_ | refine AWP.ret ?_ | refine AWP.exit ?_ | (refine ⟨fun h => ?_, fun h => ?_⟩ <;> (try simp only [zM, zN] at h) <;> try simp only [h]) | refine ⟨_, c1, ?_⟩ | refine ⟨_, c2, ?_⟩ | refine ⟨_, c3, ?_⟩ | refine ⟨_, hq, ?_⟩ | refine ⟨_, hu, ?_⟩ | refine ⟨b, hb, ?_⟩ | refine ⟨by omega, b, hb, ?_⟩ | refine ⟨by omega, ?_⟩ | refine ⟨by omega, by omega, ?_⟩ | refine ⟨by omega, by omega, by omega, ?_⟩ | refine Or.inl ?_) | (clear hK K))
   all_goals (first | exact fun _ h => absurd h List.not_mem_nil | refine fin0 ?_)
   all_goals rfl
  | some u =>
   rw [hv] at hu
   simp only [Option.getD_some, Option.isSome_some] at hu
   cases h6 : decide ((64 : Int) < (u.length : Int)) with
   | true =>
    rw [show quoV s i = ((zeroTok, 2), j + 1) by unfold quoV; rw [hqa]; simp only [qTok, hv, h6, cond_true]]
    refine ⟨⟨0, [], 0, 0⟩, i, ?_, fun h => absurd (show (2 : Int) = 0 from h) (by decide)⟩
    refine PCB.of_body Tryz.func21 rfl (by decide) Tryz.ntmps21 Tryz.results21 rfl rfl rfl ?_ rfl rfl
    repeat' (first | (simp only [go_sem, zA, zB, zC, zD, zE, zF, zG, reduceCtorEq, zH, zI, zJ, zK, zL, h95, h45, h34, hpos, h6]; all_goals fail_if_success guard_target =ₛ False) | (with_reducible first | ((first | refine seqVC_stepN rfl ?_ | refine seqVC_stepG rfl (by with_unfolding_all rfl) ?_ | refine AWP.seq ?_ | refine AWP.seqR (by kernel_rfl) ?_); intro K hK) | ((first | refine hK _ _ _ ?_ | refine hK _ _ ?_ | refine hK _ ?_); clear hK K) | refine seqVC_nil ?_ | refine AWP.block ?_ | (refine AWP.cond (by with_unfolding_all rfl) ?_ ?_ <;> intro h <;> (try simp only [zM, zN] at h) <;> try exact absurd h (by decide)) | refine AWP.skip ?_ | refine AWP.ret ?_ | refine AWP.exit ?_ | (refine ⟨fun h => ?_, fun h => ?_⟩ <;> (try simp only [zM, zN] at h) <;> try simp only [h]) | refine ⟨_, c1, ?_⟩ | refine ⟨_, c2, ?_⟩ | refine ⟨_, c3, ?_⟩ | refine ⟨_, hq, ?_⟩ | refine ⟨_, hu, ?_⟩ | refine ⟨b, hb, ?_⟩ | refine ⟨by omega, b, hb, ?_⟩ | refine ⟨by omega, ?_⟩ | refine ⟨by omega, by omega, ?_⟩ | refine ⟨by omega, by omega, by omega, ?_⟩ | refine Or.inl ?_) | (clear hK K))
    all_goals (first | exact fun _ h => absurd h List.not_mem_nil | refine fin0 ?_)
    all_goals rfl
   | false =>
    rw [show quoV s i = ((⟨4, u, 0, 0⟩, 0), j + 1) by unfold quoV; rw [hqa]; simp only [qTok, hv, h6, cond_false]]
    refine ⟨⟨4, u, 0, i⟩, j + 1, ?_, fun _ => ⟨rfl, rfl⟩⟩
    refine PCB.of_body Tryz.func21 rfl (by decide) Tryz.ntmps21 Tryz.results21 rfl rfl rfl ?_ rfl rfl
    repeat' (first | (simp only [go_sem, zA, zB, zC, zD, zE, zF, zG, reduceCtorEq, zH, zI, zJ, zK, zL, h95, h45, h34, hpos, h6]; all_goals fail_if_success guard_target =ₛ False) | (with_reducible first | ((first | refine seqVC_stepN rfl ?_ | refine seqVC_stepG rfl (by with_unfolding_all rfl) ?_ | refine AWP.seq ?_ | refine AWP.seqR (by kernel_rfl) ?_); intro K hK) | ((first | refine hK _ _ _ ?_ | refine hK _ _ ?_ | refine hK _ ?_); clear hK K) | refine seqVC_nil ?_ | refine AWP.block ?_ | (refine AWP.cond (by with_unfolding_all rfl) ?_ ?_ <;> intro h <;> (try simp only [zM, zN] at h) <;> try exact absurd h (by decide)) | refine AWP.skip ?_ | refine AWP.ret ?_ | refine AWP.exit ?_ | (refine ⟨fun h => ?_, fun h => ?_⟩ <;> (try simp only [zM, zN] at h) <;> try simp only [h]) | refine ⟨_, c1, ?_⟩ | refine ⟨_, c2, ?_⟩ | refine ⟨_, c3, ?_⟩ | refine ⟨_, hq, ?_⟩ | refine ⟨_, hu, ?_⟩ | refine ⟨b, hb, ?_⟩ | refine ⟨by omega, b, hb, ?_⟩ | refine ⟨by omega, ?_⟩ | refine ⟨by omega, by omega, ?_⟩ | refine ⟨by omega, by omega, by omega, ?_⟩ | refine Or.inl ?_) | (clear hK K))
    all_goals (first | exact fun _ h => absurd h List.not_mem_nil | refine fin0 ?_)
    all_goals rfl
def noBq (n : Int) : Bool := !decide (n = 96)
theorem noBq_eq (b : UInt8) : noBq b.toNat = !decide (b = 96) := by
 unfold noBq
 congr 1
 apply decide_eq_decide.2
 constructor
 ·intro h; apply UInt8.toNat_inj.1; show b.toNat = 96; omega
 ·rintro rfl; rfl
theorem index_bq : ∀ l : List UInt8, Lib.index l [96] = if cntW noBq l < l.length then ((cntW noBq l : Nat) : Int) else -1
 | [] => by simp [Lib.index, cntW]
 | b :: l => by
  have ih := index_bq l
  unfold Lib.index cntW
  rw [noBq_eq, List.length_cons]
  by_cases hb : b = 96
  ·subst hb; simp [List.isPrefixOf]
  ·have h1 : List.isPrefixOf [96] (b :: l) = false := by simp [List.isPrefixOf, beq_eq_false_iff_ne]; exact fun e => hb e.symm
   rw [h1, decide_eq_false hb, Bool.not_false, cond_true, ih]
   by_cases hc : cntW noBq l < l.length
   ·rw [if_pos hc, if_pos (show 1 + cntW noBq l < l.length + 1 by omega)]
    have : (((cntW noBq l : Nat) : Int) == -1) = false := by first | (simp; done) | (simp; omega)
    rw [this]
    simp only [Bool.false_eq_true, if_false]
    omega
   ·rw [if_neg hc, if_neg (show ¬ 1 + cntW noBq l < l.length + 1 by omega)]
    simp
theorem encV_eq (s : List UInt8) (i : Nat) (hi : i < s.length) : encV s i = bif decide (toW noBq s (i + 1) < s.length) then ((⟨5, (s.take (toW noBq s (i + 1))).drop (i + 1), 0, 0⟩, 0), toW noBq s (i + 1) + 1) else ((zeroTok, 5), i) := by
 have hl : (s.drop (i + 1)).length = s.length - (i + 1) := List.length_drop
 have hle := cntW_le noBq (s.drop (i + 1))
 have hx := index_bq (s.drop (i + 1))
 unfold encV Lib.cut
 have htw : toW noBq s (i + 1) = i + 1 + cntW noBq (s.drop (i + 1)) := rfl
 rw [hl] at hx hle
 rw [htw]
 by_cases hc : cntW noBq (s.drop (i + 1)) < s.length - (i + 1)
 ·rw [if_pos hc] at hx
  have h0 : (0 : Int) ≤ Lib.index (s.drop (i + 1)) [96] := by rw [hx]; omega
  rw [if_pos h0, hx, decide_eq_true (show i + 1 + cntW noBq (s.drop (i + 1)) < s.length by omega)]
  have e1 : (s.drop (i + 1)).take (cntW noBq (s.drop (i + 1))) = (s.take (i + 1 + cntW noBq (s.drop (i + 1)))).drop (i + 1) := by rw [List.drop_take]; congr 1; omega
  have e2 : ((s.drop (i + 1)).take (cntW noBq (s.drop (i + 1)))).length = cntW noBq (s.drop (i + 1)) := by rw [List.length_take, hl]; omega
  simp only [cond_true, Int.toNat_natCast, e2]
  rw [e1]
  congr 1
  omega
 ·rw [if_neg hc] at hx
  have h0 : ¬ (0 : Int) ≤ Lib.index (s.drop (i + 1)) [96] := by rw [hx]; decide
  rw [if_neg h0, decide_eq_false (show ¬ i + 1 + cntW noBq (s.drop (i + 1)) < s.length by omega)]
  rfl
theorem one_enc (s : List UInt8) (hs : s.length ≤ 100000000) (i : Nat) (b : UInt8) (hb : s[i]? = some b) (h95 : decide ((b.toNat : Int) = 95) = false) (hlo : lowI b.toNat = false) (hup : uppI b.toNat = false) (hdg : digI b.toNat = false) (h45 : decide ((b.toNat : Int) = 45) = false)
  (h34 : decide ((b.toNat : Int) = 34) = false) (h96 : decide ((b.toNat : Int) = 96) = true) : OneOk s i (encV s i) := by
 have hi : i < s.length := (List.getElem?_eq_some_iff.1 hb).1
 have hw0 := wk64 hi (show s.length ≤ 1000000000000 by omega)
 have c1 := ref26lower_c b.toNat
 have c2 := ref26upper_c b.toNat
 have c3 := ref26digit_c b.toNat
 rw [hlo] at c1
 rw [hup] at c2
 rw [hdg] at c3
 have hge := toW_ge (p := noBq) (s := s) (k := i + 1)
 have hle := toW_le (p := noBq) (s := s) (k := i + 1) (by omega)
 rw [encV_eq s i hi]
 cases hf : decide (toW noBq s (i + 1) < s.length) with
 | true =>
  simp only [decide_eq_true_eq] at hf
  refine ⟨⟨5, (s.take (toW noBq s (i + 1))).drop (i + 1), 0, i⟩, toW noBq s (i + 1) + 1, ?_, fun _ => ⟨rfl, rfl⟩⟩
  refine PCB.of_body Tryz.func21 rfl (by decide) Tryz.ntmps21 Tryz.results21 rfl rfl rfl ?_ rfl rfl
  repeat' (first | (simp only [go_sem, zA, zB, zC, zD, zE, zF, zG, reduceCtorEq, zH, zI, zJ, zK, zL, h95, h45, h34, h96, hw0]; all_goals fail_if_success guard_target =ₛ False) | (with_reducible first | ((first | refine seqVC_stepN rfl ?_ | refine seqVC_stepG rfl (by with_unfolding_all rfl) ?_ | refine AWP.seq ?_ | refine AWP.seqR (by kernel_rfl) ?_); intro K hK) | ((first | refine hK _ _ _ ?_ | refine hK _ _ ?_ | refine hK _ ?_); clear hK K) | refine seqVC_nil ?_ | refine AWP.block ?_ | (refine AWP.cond (by with_unfolding_all rfl) ?_ ?_ <;> intro h <;> (try simp only [zM, zN] at h) <;> try exact absurd h (by decide)) | refine AWP.skip ?_ | refine AWP.ret ?_ | refine AWP.exit ?_ | (refine ⟨fun h => ?_, fun h => ?_⟩ <;> (try simp only [zM, zN] at h) <;> try simp only [h]) | refine ⟨_, c1, ?_⟩ | refine ⟨_, c2, ?_⟩ | refine ⟨_, c3, ?_⟩ | refine ⟨b, hb, ?_⟩ | refine ⟨by omega, b, hb, ?_⟩ | refine Or.inl ?_) | (clear hK K))
  refine AWP.loopF (X := Nat) (fun k => [(16, I .i64 (k : Nat))]) (fun k => [(4, .cells [.dat (.int .i64 0), .dat (.str []), .dat (.int .i64 0), .dat (.int .i64 0)])]) [0, 1, 4] [] (fun k => i + 1 ≤ k ∧ k ≤ s.length ∧ toW noBq s (i + 1) = toW noBq s k) (fun k => s.length - k) (i + 1) (by simp only [go_sem, zA, zB, zC, zD, zE, zF, zG, reduceCtorEq, zH, zI, zJ, zK, zL]; exact Gh.to [] (by repeat (first | exact trivial | refine ⟨rfl, ?_⟩ | refine ⟨by (simp only [go_sem, zA, zB, zC, zD, zE, zF, zG, reduceCtorEq, zH, zI, zJ, zK, zL, List.length_append, List.length_map, List.length_cons, List.length_nil, Nat.zero_add]) <;> rfl, ?_⟩)) (by repeat (first | exact trivial | refine ⟨rfl, ?_⟩ | refine ⟨by (simp only [go_sem, zA, zB, zC, zD, zE, zF, zG, reduceCtorEq, zH, zI, zJ, zK, zL, List.length_append, List.length_map, List.length_cons, List.length_nil, Nat.zero_add]) <;> rfl, ?_⟩)) rfl rfl rfl) ?_ ?_
  ·exact ⟨Nat.le_refl _, by omega, rfl⟩
  rintro k ⟨hik, hks, hok⟩
  simp only [go_sem, zA, zB, zC, zD, zE, zF, zG, reduceCtorEq, zH, zI, zJ, zK, zL]
  by_cases hlt : k < s.length
  ·obtain ⟨c, hc⟩ := byte_at hlt
   have hw := wk64 hlt (show s.length ≤ 1000000000000 by omega)
   have hd : decide ((k : Int) < (s.length : Int)) = true := by rw [decide_eq_true_eq]; omega
   cases hp : decide ((c.toNat : Int) = 96) with
   | true =>
    rw [toW_no hc (show noBq c.toNat = false by unfold noBq; rw [hp]; rfl)] at hok
    rw [hok]
    repeat' (first | (simp only [go_sem, zA, zB, zC, zD, zE, zF, zG, reduceCtorEq, zH, zI, zJ, zK, zL, hd, hw, hw0, hp]; all_goals fail_if_success guard_target =ₛ False) | (with_reducible first | ((first | refine seqVC_stepN rfl ?_ | refine seqVC_stepG rfl (by with_unfolding_all rfl) ?_ | refine AWP.seq ?_ | refine AWP.seqR (by kernel_rfl) ?_); intro K hK) | ((first | refine hK _ _ _ ?_ | refine hK _ _ ?_ | refine hK _ ?_); clear hK K) | refine seqVC_nil ?_ | refine AWP.block ?_ | (refine AWP.cond (by with_unfolding_all rfl) ?_ ?_ <;> intro h <;> (try simp only [zM, zN] at h) <;> try exact absurd h (by decide)) | refine AWP.skip ?_ | refine AWP.ret ?_ | refine AWP.exit ?_ | (refine ⟨fun h => ?_, fun h => ?_⟩ <;> (try simp only [zM, zN] at h) <;> try simp only [h]) | refine ⟨c, hc, ?_⟩ | refine ⟨by omega, c, hc, ?_⟩ | refine ⟨by omega, ?_⟩ | refine ⟨by omega, by omega, ?_⟩ | refine ⟨by omega, by omega, by omega, ?_⟩ | refine Or.inl ?_) | (clear hK K))
    all_goals (first | exact fun _ h => absurd h List.not_mem_nil | refine fin0 ?_)
    all_goals rfl
   | false =>
    rw [toW_yes hc (show noBq c.toNat = true by unfold noBq; rw [hp]; rfl)] at hok
    repeat' (first | (simp only [go_sem, zA, zB, zC, zD, zE, zF, zG, reduceCtorEq, zH, zI, zJ, zK, zL, hd, hw, hp]; all_goals fail_if_success guard_target =ₛ False) | (with_reducible first | ((first | refine seqVC_stepN rfl ?_ | refine seqVC_stepG rfl (by with_unfolding_all rfl) ?_ | refine AWP.seq ?_ | refine AWP.seqR (by kernel_rfl) ?_); intro K hK) | ((first | refine hK _ _ _ ?_ | refine hK _ _ ?_ | refine hK _ ?_); clear hK K) | refine seqVC_nil ?_ | refine AWP.block ?_ | (refine AWP.cond (by with_unfolding_all rfl) ?_ ?_ <;> intro h <;> (try simp only [zM, zN] at h) <;> try exact absurd h (by decide)) | refine AWP.skip ?_ | refine AWP.ret ?_ | refine AWP.exit ?_ | (refine ⟨fun h => ?_, fun h => ?_⟩ <;> (try simp only [zM, zN] at h) <;> try simp only [h]) | refine ⟨c, hc, ?_⟩ | refine ⟨by omega, c, hc, ?_⟩ | refine Or.inl ?_) | (clear hK K))
    all_goals (refine ⟨k + 1, by omega, ⟨by omega, by omega, hok⟩, Gh.to [] (by repeat (first | exact trivial | refine ⟨rfl, ?_⟩ | refine ⟨by (simp only [go_sem, zA, zB, zC, zD, zE, zF, zG, reduceCtorEq, zH, zI, zJ, zK, zL, List.length_append, List.length_map, List.length_cons, List.length_nil, Nat.zero_add]) <;> rfl, ?_⟩)) (by repeat (first | exact trivial | refine ⟨rfl, ?_⟩ | refine ⟨by (simp only [go_sem, zA, zB, zC, zD, zE, zF, zG, reduceCtorEq, zH, zI, zJ, zK, zL, List.length_append, List.length_map, List.length_cons, List.length_nil, Nat.zero_add]) <;> rfl, ?_⟩)) rfl rfl rfl⟩)
  ·exact absurd (hok ▸ toW_end (p := noBq) (s := s) (k := k) (by omega)) (by omega)
 | false =>
  simp only [decide_eq_false_iff_not] at hf
  refine ⟨⟨0, [], 0, 0⟩, i, ?_, fun h => absurd (show (5 : Int) = 0 from h) (by decide)⟩
  refine PCB.of_body Tryz.func21 rfl (by decide) Tryz.ntmps21 Tryz.results21 rfl rfl rfl ?_ rfl rfl
  repeat' (first | (simp only [go_sem, zA, zB, zC, zD, zE, zF, zG, reduceCtorEq, zH, zI, zJ, zK, zL, h95, h45, h34, h96, hw0]; all_goals fail_if_success guard_target =ₛ False) | (with_reducible first | ((first | refine seqVC_stepN rfl ?_ | refine seqVC_stepG rfl (by with_unfolding_all rfl) ?_ | refine AWP.seq ?_ | refine AWP.seqR (by kernel_rfl) ?_); intro K hK) | ((first | refine hK _ _ _ ?_ | refine hK _ _ ?_ | refine hK _ ?_); clear hK K) | refine seqVC_nil ?_ | refine AWP.block ?_ | (refine AWP.cond (by with_unfolding_all rfl) ?_ ?_ <;> intro h <;> (try simp only [zM, zN] at h) <;> try exact absurd h (by decide)) | refine AWP.skip ?_ | refine AWP.ret ?_ | refine AWP.exit ?_ | (refine ⟨fun h => ?_, fun h => ?_⟩ <;> (try simp only [zM, zN] at h) <;> try simp only [h]) | refine ⟨_, c1, ?_⟩ | refine ⟨_, c2, ?_⟩ | refine ⟨_, c3, ?_⟩ | refine ⟨b, hb, ?_⟩ | refine ⟨by omega, b, hb, ?_⟩ | refine Or.inl ?_) | (clear hK K))
  refine AWP.loopF (X := Nat) (fun k => [(16, I .i64 (k : Nat))]) (fun k => [(4, .cells [.dat (.int .i64 0), .dat (.str []), .dat (.int .i64 0), .dat (.int .i64 0)])]) [0, 1, 4] [] (fun k => i + 1 ≤ k ∧ k ≤ s.length ∧ toW noBq s (i + 1) = toW noBq s k) (fun k => s.length - k) (i + 1) (by simp only [go_sem, zA, zB, zC, zD, zE, zF, zG, reduceCtorEq, zH, zI, zJ, zK, zL]; exact Gh.to [] (by repeat (first | exact trivial | refine ⟨rfl, ?_⟩ | refine ⟨by (simp only [go_sem, zA, zB, zC, zD, zE, zF, zG, reduceCtorEq, zH, zI, zJ, zK, zL, List.length_append, List.length_map, List.length_cons, List.length_nil, Nat.zero_add]) <;> rfl, ?_⟩)) (by repeat (first | exact trivial | refine ⟨rfl, ?_⟩ | refine ⟨by (simp only [go_sem, zA, zB, zC, zD, zE, zF, zG, reduceCtorEq, zH, zI, zJ, zK, zL, List.length_append, List.length_map, List.length_cons, List.length_nil, Nat.zero_add]) <;> rfl, ?_⟩)) rfl rfl rfl) ?_ ?_
  ·exact ⟨Nat.le_refl _, by omega, rfl⟩
  rintro k ⟨hik, hks, hok⟩
  simp only [go_sem, zA, zB, zC, zD, zE, zF, zG, reduceCtorEq, zH, zI, zJ, zK, zL]
  by_cases hlt : k < s.length
  ·obtain ⟨c, hc⟩ := byte_at hlt
   have hw := wk64 hlt (show s.length ≤ 1000000000000 by omega)
   have hd : decide ((k : Int) < (s.length : Int)) = true := by rw [decide_eq_true_eq]; omega
   cases hp : decide ((c.toNat : Int) = 96) with
   | true =>
    rw [toW_no hc (show noBq c.toNat = false by unfold noBq; rw [hp]; rfl)] at hok
    exact absurd hlt (by omega)
   | false =>
    rw [toW_yes hc (show noBq c.toNat = true by unfold noBq; rw [hp]; rfl)] at hok
    repeat' (first | (simp only [go_sem, zA, zB, zC, zD, zE, zF, zG, reduceCtorEq, zH, zI, zJ, zK, zL, hd, hw, hp]; all_goals fail_if_success guard_target =ₛ False) | (with_reducible first | ((first | refine seqVC_stepN rfl ?_ | refine seqVC_stepG rfl (by with_unfolding_all rfl) ?_ | refine AWP.seq ?_ | refine AWP.seqR (by kernel_rfl) ?_); intro K hK) | ((first | refine hK _ _ _ ?_ | refine hK _ _ ?_ | refine hK _ ?_); clear hK K) | refine seqVC_nil ?_ | refine AWP.block ?_ | (refine AWP.cond (by with_unfolding_all rfl) ?_ ?_ <;> intro h <;> (try simp only [zM, zN] at h) <;> try exact absurd h (by decide)) | refine AWP.skip ?_ | refine AWP.ret ?_ | refine AWP.exit ?_ | (refine ⟨fun h => ?_, fun h => ?_⟩ <;> (try simp only [zM, zN] at h) <;> try simp only [h]) | refine ⟨c, hc, ?_⟩ | refine ⟨by omega, c, hc, ?_⟩ | refine Or.inl ?_) | (clear hK K))
    all_goals (refine ⟨k + 1, by omega, ⟨by omega, by omega, hok⟩, Gh.to [] (by repeat (first | exact trivial | refine ⟨rfl, ?_⟩ | refine ⟨by (simp only [go_sem, zA, zB, zC, zD, zE, zF, zG, reduceCtorEq, zH, zI, zJ, zK, zL, List.length_append, List.length_map, List.length_cons, List.length_nil, Nat.zero_add]) <;> rfl, ?_⟩)) (by repeat (first | exact trivial | refine ⟨rfl, ?_⟩ | refine ⟨by (simp only [go_sem, zA, zB, zC, zD, zE, zF, zG, reduceCtorEq, zH, zI, zJ, zK, zL, List.length_append, List.length_map, List.length_cons, List.length_nil, Nat.zero_add]) <;> rfl, ?_⟩)) rfl rfl rfl⟩)
  ·have hd : decide ((k : Int) < (s.length : Int)) = false := by rw [decide_eq_false_iff_not]; omega
   repeat' (first | (simp only [go_sem, zA, zB, zC, zD, zE, zF, zG, reduceCtorEq, zH, zI, zJ, zK, zL, hd]; all_goals fail_if_success guard_target =ₛ False) | (with_reducible first | ((first | refine seqVC_stepN rfl ?_ | refine seqVC_stepG rfl (by with_unfolding_all rfl) ?_ | refine AWP.seq ?_ | refine AWP.seqR (by kernel_rfl) ?_); intro K hK) | ((first | refine hK _ _ _ ?_ | refine hK _ _ ?_ | refine hK _ ?_); clear hK K) | refine seqVC_nil ?_ | refine AWP.block ?_ | (refine AWP.cond (by with_unfolding_all rfl) ?_ ?_ <;> intro h <;> (try simp only [zM, zN] at h) <;> try exact absurd h (by decide)) | refine AWP.skip ?_ | refine AWP.ret ?_ | refine AWP.exit ?_ | (refine ⟨fun h => ?_, fun h => ?_⟩ <;> (try simp only [zM, zN] at h) <;> try simp only [h]) | refine Or.inl ?_) | (clear hK K))
   all_goals (first | exact fun _ h => absurd h List.not_mem_nil | refine fin0 ?_)
   all_goals rfl
theorem prefix_dec (s x : List UInt8) (i : Nat) : Lib.hasPrefix (s.drop i) x = (decide (x.length ≤ (s.drop i).length) && decide ((s.take (i + x.length)).drop i = x)) := by
 unfold Lib.hasPrefix
 rw [List.drop_take, show i + x.length - i = x.length by omega, Bool.eq_iff_iff, List.isPrefixOf_iff_prefix, Bool.and_eq_true, decide_eq_true_eq, decide_eq_true_eq]
 constructor
 ·intro h; exact ⟨h.length_le, (List.prefix_iff_eq_take.1 h).symm⟩
 ·rintro ⟨_, h⟩; exact List.prefix_iff_eq_take.2 h.symm
theorem sign_len : ∀ x ∈ signL, x.length ≤ 2 := by decide
theorem one_sign (s : List UInt8) (hs : s.length ≤ 100000000) (i : Nat) (b : UInt8) (hb : s[i]? = some b) (h95 : decide ((b.toNat : Int) = 95) = false) (hlo : lowI b.toNat = false) (hup : uppI b.toNat = false) (hdg : digI b.toNat = false) (h45 : (decide ((b.toNat : Int) = 45) && nextDig s i) = false)
  (h34 : decide ((b.toNat : Int) = 34) = false) (h96 : decide ((b.toNat : Int) = 96) = false) : OneOk s i ((signV (s.drop i)).1, i + (signV (s.drop i)).2) := by
 have hi : i < s.length := (List.getElem?_eq_some_iff.1 hb).1
 have hw0 := wk64 hi (show s.length ≤ 1000000000000 by omega)
 have c1 := ref26lower_c b.toNat
 have c2 := ref26upper_c b.toNat
 have c3 := ref26digit_c b.toNat
 rw [hlo] at c1
 rw [hup] at c2
 rw [hdg] at c3
 have c4 := byteAt_c s (i + 1)
 have c5 := ref26digit_c (byteV s (i + 1))
 rw [digI_byteV] at c5
 have c6 := rsigns_c
 have hsub : IntKind.i64.wrap ((s.length : Int) - (i : Int)) = ((s.length - i : Nat) : Int) := by rw [wrapId _ (by omega) (by omega)]; omega
 cases hf : findS (s.drop i) signL with
 | none =>
  rw [show signV (s.drop i) = ((zeroTok, 5), 0) by unfold signV; rw [hf]]
  refine ⟨⟨0, [], 0, 0⟩, i, ?_, fun h => absurd (show (5 : Int) = 0 from h) (by decide)⟩
  cases h4 : decide ((b.toNat : Int) = 45) <;> rw [h4] at h45 <;> cases h5 : nextDig s i <;> rw [h5] at h45 c5 <;> (try exact absurd h45 (by decide))
  all_goals
   refine PCB.of_body Tryz.func21 rfl (by decide) Tryz.ntmps21 Tryz.results21 rfl rfl rfl ?_ rfl rfl
   repeat' (first | (simp only [go_sem, zA, zB, zC, zD, zE, zF, zG, reduceCtorEq, zH, zI, zJ, zK, zL, h95, h4, h34, h96, hw0]; all_goals fail_if_success guard_target =ₛ False) | (with_reducible first | ((first | refine seqVC_stepN rfl ?_ | refine seqVC_stepG rfl (by with_unfolding_all rfl) ?_ | refine AWP.seq ?_ | refine AWP.seqR (by kernel_rfl) ?_); intro K hK) | ((first | refine hK _ _ _ ?_ | refine hK _ _ ?_ | refine hK _ ?_); clear hK K) | refine seqVC_nil ?_ | refine AWP.block ?_ | (refine AWP.cond (by with_unfolding_all rfl) ?_ ?_ <;> intro h <;> (try simp only [zM, zN] at h) <;> try exact absurd h (by decide)) | refine AWP.skip ?_ | refine AWP.ret ?_ | refine AWP.exit ?_ | (refine ⟨fun h => ?_, fun h => ?_⟩ <;> (try simp only [zM, zN] at h) <;> try simp only [h]) | refine ⟨_, c1, ?_⟩ | refine ⟨_, c2, ?_⟩ | refine ⟨_, c3, ?_⟩ | refine ⟨_, c4, ?_⟩ | refine ⟨_, c5, ?_⟩ | refine ⟨_, c6, ?_⟩ | refine ⟨b, hb, ?_⟩ | refine ⟨by omega, b, hb, ?_⟩ | refine Or.inl ?_) | (clear hK K))
   refine AWP.len 144 rfl fun hlen2 => ?_
   (try rw [List.length_map] at hlen2)
   refine AWP.range (S := Nat) (signL) encStr (fun k u => (146, I .i64 (k : Nat)) :: []) (fun k u => [(4, .cells [.dat (.int .i64 0), .dat (.str []), .dat (.int .i64 0), .dat (.int .i64 0)])]) [0, 1, 4, 144, 145] [] (fun k u => findS (s.drop i) signL = findS (s.drop i) (signL.drop k)) (0) (by simp only [go_sem, zA, zB, zC, zD, zE, zF, zG, reduceCtorEq, zH, zI, zJ, zK, zL]; exact Gh.to [] (by repeat (first | exact trivial | refine ⟨rfl, ?_⟩ | refine ⟨by (simp only [go_sem, zA, zB, zC, zD, zE, zF, zG, reduceCtorEq, zH, zI, zJ, zK, zL, List.length_append, List.length_map, List.length_cons, List.length_nil, Nat.zero_add]) <;> rfl, ?_⟩)) (by repeat (first | exact trivial | refine ⟨rfl, ?_⟩ | refine ⟨by (simp only [go_sem, zA, zB, zC, zD, zE, zF, zG, reduceCtorEq, zH, zI, zJ, zK, zL, List.length_append, List.length_map, List.length_cons, List.length_nil, Nat.zero_add]) <;> rfl, ?_⟩)) rfl rfl rfl) ?_ ?_ ?_
   ·rfl
   ·intro k u x hlt hx hx' hbb hok
    simp only [go_sem, zA, zB, zC, zD, zE, zF, zG, reduceCtorEq, zH, zI, zJ, zK, zL]
    rw [List.drop_eq_getElem_cons hlt, show signL[k] = x from (List.getElem?_eq_some_iff.1 hx).2, findS] at hok
    have hpd := prefix_dec s x i
    rw [List.length_drop] at hpd
    have hxl : x.length ≤ 2 := sign_len x (List.mem_of_getElem? hx)
    have hadd : IntKind.i64.wrap ((i : Int) + (x.length : Int)) = ((i + x.length : Nat) : Int) := by rw [wrapId _ (by omega) (by omega)]; omega
    have hd1 : decide ((x.length : Int) ≤ ((s.length - i : Nat) : Int)) = decide (x.length ≤ s.length - i) := by apply decide_eq_decide.2; omega
    cases hc1 : decide (x.length ≤ s.length - i) with
    | false =>
     rw [hc1] at hpd hd1
     rw [hpd, Bool.false_and, cond_false] at hok
     repeat' (first | (simp only [go_sem, zA, zB, zC, zD, zE, zF, zG, reduceCtorEq, zH, zI, zJ, zK, zL, List.length_map, hbb, encStr, hsub, hadd, hd1]; all_goals fail_if_success guard_target =ₛ False) | (with_reducible first | ((first | refine seqVC_stepN rfl ?_ | refine seqVC_stepG rfl (by with_unfolding_all rfl) ?_ | refine AWP.seq ?_ | refine AWP.seqR (by kernel_rfl) ?_); intro K hK) | ((first | refine hK _ _ _ ?_ | refine hK _ _ ?_ | refine hK _ ?_); clear hK K) | refine seqVC_nil ?_ | refine AWP.block ?_ | (refine AWP.cond (by with_unfolding_all rfl) ?_ ?_ <;> intro h <;> (try simp only [zM, zN] at h) <;> try exact absurd h (by decide)) | refine AWP.skip ?_ | refine AWP.ret ?_ | refine AWP.exit ?_ | (refine ⟨fun h => ?_, fun h => ?_⟩ <;> (try simp only [zM, zN] at h) <;> try simp only [h]) | refine ⟨by omega, encStr x, hx', ?_⟩ | refine ⟨encStr x, hx', ?_⟩ | refine Or.inl ?_) | (clear hK K))
     all_goals (rw [wrap_succ hlt hlen2])
     all_goals first | exact ⟨u, hok, Gh.to [] (by repeat (first | exact trivial | refine ⟨rfl, ?_⟩ | refine ⟨by (simp only [go_sem, zA, zB, zC, zD, zE, zF, zG, reduceCtorEq, zH, zI, zJ, zK, zL, List.length_append, List.length_map, List.length_cons, List.length_nil, Nat.zero_add]) <;> rfl, ?_⟩)) (by repeat (first | exact trivial | refine ⟨rfl, ?_⟩ | refine ⟨by (simp only [go_sem, zA, zB, zC, zD, zE, zF, zG, reduceCtorEq, zH, zI, zJ, zK, zL, List.length_append, List.length_map, List.length_cons, List.length_nil, Nat.zero_add]) <;> rfl, ?_⟩)) rfl rfl rfl⟩ | exact Gh.to [] (by repeat (first | exact trivial | refine ⟨rfl, ?_⟩ | refine ⟨by (simp only [go_sem, zA, zB, zC, zD, zE, zF, zG, reduceCtorEq, zH, zI, zJ, zK, zL, List.length_append, List.length_map, List.length_cons, List.length_nil, Nat.zero_add]) <;> rfl, ?_⟩)) (by repeat (first | exact trivial | refine ⟨rfl, ?_⟩ | refine ⟨by (simp only [go_sem, zA, zB, zC, zD, zE, zF, zG, reduceCtorEq, zH, zI, zJ, zK, zL, List.length_append, List.length_map, List.length_cons, List.length_nil, Nat.zero_add]) <;> rfl, ?_⟩)) rfl rfl rfl
    | true =>
     rw [hc1] at hpd hd1
     rw [Bool.true_and] at hpd
     simp only [decide_eq_true_eq] at hc1
     cases hc2 : decide ((s.take (i + x.length)).drop i = x) with
     | false =>
      rw [hc2] at hpd
      rw [hpd, cond_false] at hok
      repeat' (first | (simp only [go_sem, zA, zB, zC, zD, zE, zF, zG, reduceCtorEq, zH, zI, zJ, zK, zL, List.length_map, hbb, encStr, hsub, hadd, hd1, hc2]; all_goals fail_if_success guard_target =ₛ False) | (with_reducible first | ((first | refine seqVC_stepN rfl ?_ | refine seqVC_stepG rfl (by with_unfolding_all rfl) ?_ | refine AWP.seq ?_ | refine AWP.seqR (by kernel_rfl) ?_); intro K hK) | ((first | refine hK _ _ _ ?_ | refine hK _ _ ?_ | refine hK _ ?_); clear hK K) | refine seqVC_nil ?_ | refine AWP.block ?_ | (refine AWP.cond (by with_unfolding_all rfl) ?_ ?_ <;> intro h <;> (try simp only [zM, zN] at h) <;> try exact absurd h (by decide)) | refine AWP.skip ?_ | refine AWP.ret ?_ | refine AWP.exit ?_ | (refine ⟨fun h => ?_, fun h => ?_⟩ <;> (try simp only [zM, zN] at h) <;> try simp only [h]) | refine ⟨by omega, encStr x, hx', ?_⟩ | refine ⟨encStr x, hx', ?_⟩ | refine ⟨by omega, ?_⟩ | refine ⟨by omega, by omega, ?_⟩ | refine ⟨by omega, by omega, by omega, ?_⟩ | refine Or.inl ?_) | (clear hK K))
      all_goals (rw [wrap_succ hlt hlen2])
      all_goals first | exact ⟨u, hok, Gh.to [] (by repeat (first | exact trivial | refine ⟨rfl, ?_⟩ | refine ⟨by (simp only [go_sem, zA, zB, zC, zD, zE, zF, zG, reduceCtorEq, zH, zI, zJ, zK, zL, List.length_append, List.length_map, List.length_cons, List.length_nil, Nat.zero_add]) <;> rfl, ?_⟩)) (by repeat (first | exact trivial | refine ⟨rfl, ?_⟩ | refine ⟨by (simp only [go_sem, zA, zB, zC, zD, zE, zF, zG, reduceCtorEq, zH, zI, zJ, zK, zL, List.length_append, List.length_map, List.length_cons, List.length_nil, Nat.zero_add]) <;> rfl, ?_⟩)) rfl rfl rfl⟩ | exact Gh.to [] (by repeat (first | exact trivial | refine ⟨rfl, ?_⟩ | refine ⟨by (simp only [go_sem, zA, zB, zC, zD, zE, zF, zG, reduceCtorEq, zH, zI, zJ, zK, zL, List.length_append, List.length_map, List.length_cons, List.length_nil, Nat.zero_add]) <;> rfl, ?_⟩)) (by repeat (first | exact trivial | refine ⟨rfl, ?_⟩ | refine ⟨by (simp only [go_sem, zA, zB, zC, zD, zE, zF, zG, reduceCtorEq, zH, zI, zJ, zK, zL, List.length_append, List.length_map, List.length_cons, List.length_nil, Nat.zero_add]) <;> rfl, ?_⟩)) rfl rfl rfl
     | true =>
      rw [hc2] at hpd
      rw [hpd, cond_true] at hok
      rw [hf] at hok; cases hok
   ·intro u hbb hok
    simp only [go_sem, zA, zB, zC, zD, zE, zF, zG, reduceCtorEq, zH, zI, zJ, zK, zL]
    rw [List.drop_length, findS] at hok
    repeat' (first | (simp only [go_sem, zA, zB, zC, zD, zE, zF, zG, reduceCtorEq, zH, zI, zJ, zK, zL, List.length_map, hbb]; all_goals fail_if_success guard_target =ₛ False) | (with_reducible first | ((first | refine seqVC_stepN rfl ?_ | refine seqVC_stepG rfl (by with_unfolding_all rfl) ?_ | refine AWP.seq ?_ | refine AWP.seqR (by kernel_rfl) ?_); intro K hK) | ((first | refine hK _ _ _ ?_ | refine hK _ _ ?_ | refine hK _ ?_); clear hK K) | refine seqVC_nil ?_ | refine AWP.block ?_ | (refine AWP.cond (by with_unfolding_all rfl) ?_ ?_ <;> intro h <;> (try simp only [zM, zN] at h) <;> try exact absurd h (by decide)) | refine AWP.skip ?_ | refine AWP.ret ?_ | refine AWP.exit ?_ | (refine ⟨fun h => ?_, fun h => ?_⟩ <;> (try simp only [zM, zN] at h) <;> try simp only [h]) | refine Or.inl ?_) | (clear hK K))
    all_goals (first | exact fun _ h => absurd h List.not_mem_nil | refine fin0 ?_)
    all_goals rfl
 | some y =>
  rw [show signV (s.drop i) = ((⟨6, y, 0, 0⟩, 0), y.length) by unfold signV; rw [hf]]
  refine ⟨⟨6, y, 0, i⟩, i + y.length, ?_, fun _ => ⟨rfl, rfl⟩⟩
  cases h4 : decide ((b.toNat : Int) = 45) <;> rw [h4] at h45 <;> cases h5 : nextDig s i <;> rw [h5] at h45 c5 <;> (try exact absurd h45 (by decide))
  all_goals
   refine PCB.of_body Tryz.func21 rfl (by decide) Tryz.ntmps21 Tryz.results21 rfl rfl rfl ?_ rfl rfl
   repeat' (first | (simp only [go_sem, zA, zB, zC, zD, zE, zF, zG, reduceCtorEq, zH, zI, zJ, zK, zL, h95, h4, h34, h96, hw0]; all_goals fail_if_success guard_target =ₛ False) | (with_reducible first | ((first | refine seqVC_stepN rfl ?_ | refine seqVC_stepG rfl (by with_unfolding_all rfl) ?_ | refine AWP.seq ?_ | refine AWP.seqR (by kernel_rfl) ?_); intro K hK) | ((first | refine hK _ _ _ ?_ | refine hK _ _ ?_ | refine hK _ ?_); clear hK K) | refine seqVC_nil ?_ | refine AWP.block ?_ | (refine AWP.cond (by with_unfolding_all rfl) ?_ ?_ <;> intro h <;> (try simp only [zM, zN] at h) <;> try exact absurd h (by decide)) | refine AWP.skip ?_ | refine AWP.ret ?_ | refine AWP.exit ?_ | (refine ⟨fun h => ?_, fun h => ?_⟩ <;> (try simp only [zM, zN] at h) <;> try simp only [h]) | refine ⟨_, c1, ?_⟩ | refine ⟨_, c2, ?_⟩ | refine ⟨_, c3, ?_⟩ | refine ⟨_, c4, ?_⟩ | refine ⟨_, c5, ?_⟩ | refine ⟨_, c6, ?_⟩ | refine ⟨b, hb, ?_⟩ | refine ⟨by omega, b, hb, ?_⟩ | refine Or.inl ?_) | (clear hK K))
   refine AWP.len 144 rfl fun hlen2 => ?_
   (try rw [List.length_map] at hlen2)
   refine AWP.range (S := Nat) (signL) encStr (fun k u => (146, I .i64 (k : Nat)) :: []) (fun k u => [(4, .cells [.dat (.int .i64 0), .dat (.str []), .dat (.int .i64 0), .dat (.int .i64 0)])]) [0, 1, 4, 144, 145] [] (fun k u => findS (s.drop i) signL = findS (s.drop i) (signL.drop k)) (0) (by simp only [go_sem, zA, zB, zC, zD, zE, zF, zG, reduceCtorEq, zH, zI, zJ, zK, zL]; exact Gh.to [] (by repeat (first | exact trivial | refine ⟨rfl, ?_⟩ | refine ⟨by (simp only [go_sem, zA, zB, zC, zD, zE, zF, zG, reduceCtorEq, zH, zI, zJ, zK, zL, List.length_append, List.length_map, List.length_cons, List.length_nil, Nat.zero_add]) <;> rfl, ?_⟩)) (by repeat (first | exact trivial | refine ⟨rfl, ?_⟩ | refine ⟨by (simp only [go_sem, zA, zB, zC, zD, zE, zF, zG, reduceCtorEq, zH, zI, zJ, zK, zL, List.length_append, List.length_map, List.length_cons, List.length_nil, Nat.zero_add]) <;> rfl, ?_⟩)) rfl rfl rfl) ?_ ?_ ?_
   ·rfl
   ·intro k u x hlt hx hx' hbb hok
    simp only [go_sem, zA, zB, zC, zD, zE, zF, zG, reduceCtorEq, zH, zI, zJ, zK, zL]
    rw [List.drop_eq_getElem_cons hlt, show signL[k] = x from (List.getElem?_eq_some_iff.1 hx).2, findS] at hok
    have hpd := prefix_dec s x i
    rw [List.length_drop] at hpd
    have hxl : x.length ≤ 2 := sign_len x (List.mem_of_getElem? hx)
    have hadd : IntKind.i64.wrap ((i : Int) + (x.length : Int)) = ((i + x.length : Nat) : Int) := by rw [wrapId _ (by omega) (by omega)]; omega
    have hd1 : decide ((x.length : Int) ≤ ((s.length - i : Nat) : Int)) = decide (x.length ≤ s.length - i) := by apply decide_eq_decide.2; omega
    cases hc1 : decide (x.length ≤ s.length - i) with
    | false =>
     rw [hc1] at hpd hd1
     rw [hpd, Bool.false_and, cond_false] at hok
     repeat' (first | (simp only [go_sem, zA, zB, zC, zD, zE, zF, zG, reduceCtorEq, zH, zI, zJ, zK, zL, List.length_map, hbb, encStr, hsub, hadd, hd1]; all_goals fail_if_success guard_target =ₛ False) | (with_reducible first | ((first | refine seqVC_stepN rfl ?_ | refine seqVC_stepG rfl (by with_unfolding_all rfl) ?_ | refine AWP.seq ?_ | refine AWP.seqR (by kernel_rfl) ?_); intro K hK) | ((first | refine hK _ _ _ ?_ | refine hK _ _ ?_ | refine hK _ ?_); clear hK K) | refine seqVC_nil ?_ | refine AWP.block ?_ | (refine AWP.cond (by with_unfolding_all rfl) ?_ ?_ <;> intro h <;> (try simp only [zM, zN] at h) <;> try exact absurd h (by decide)) | refine AWP.skip ?_ | refine AWP.ret ?_ | refine AWP.exit ?_ | (refine ⟨fun h => ?_, fun h => ?_⟩ <;> (try simp only [zM, zN] at h) <;> try simp only [h]) | refine ⟨by omega, encStr x, hx', ?_⟩ | refine ⟨encStr x, hx', ?_⟩ | refine Or.inl ?_) | (clear hK K))
     all_goals (rw [wrap_succ hlt hlen2])
     all_goals first | exact ⟨u, hok, Gh.to [] (by repeat (first | exact trivial | refine ⟨rfl, ?_⟩ | refine ⟨by (simp only [go_sem, zA, zB, zC, zD, zE, zF, zG, reduceCtorEq, zH, zI, zJ, zK, zL, List.length_append, List.length_map, List.length_cons, List.length_nil, Nat.zero_add]) <;> rfl, ?_⟩)) (by repeat (first | exact trivial | refine ⟨rfl, ?_⟩ | refine ⟨by (simp only [go_sem, zA, zB, zC, zD, zE, zF, zG, reduceCtorEq, zH, zI, zJ, zK, zL, List.length_append, List.length_map, List.length_cons, List.length_nil, Nat.zero_add]) <;> rfl, ?_⟩)) rfl rfl rfl⟩ | exact Gh.to [] (by repeat (first | exact trivial | refine ⟨rfl, ?_⟩ | refine ⟨by (simp only [go_sem, zA, zB, zC, zD, zE, zF, zG, reduceCtorEq, zH, zI, zJ, zK, zL, List.length_append, List.length_map, List.length_cons, List.length_nil, Nat.zero_add]) <;> rfl, ?_⟩)) (by repeat (first | exact trivial | refine ⟨rfl, ?_⟩ | refine ⟨by (simp only [go_sem, zA, zB, zC, zD, zE, zF, zG, reduceCtorEq, zH, zI, zJ, zK, zL, List.length_append, List.length_map, List.length_cons, List.length_nil, Nat.zero_add]) <;> rfl, ?_⟩)) rfl rfl rfl
    | true =>
     rw [hc1] at hpd hd1
     rw [Bool.true_and] at hpd
     simp only [decide_eq_true_eq] at hc1
     cases hc2 : decide ((s.take (i + x.length)).drop i = x) with
     | false =>
      rw [hc2] at hpd
      rw [hpd, cond_false] at hok
      repeat' (first | (simp only [go_sem, zA, zB, zC, zD, zE, zF, zG, reduceCtorEq, zH, zI, zJ, zK, zL, List.length_map, hbb, encStr, hsub, hadd, hd1, hc2]; all_goals fail_if_success guard_target =ₛ False) | (with_reducible first | ((first | refine seqVC_stepN rfl ?_ | refine seqVC_stepG rfl (by with_unfolding_all rfl) ?_ | refine AWP.seq ?_ | refine AWP.seqR (by kernel_rfl) ?_); intro K hK) | ((first | refine hK _ _ _ ?_ | refine hK _ _ ?_ | refine hK _ ?_); clear hK K) | refine seqVC_nil ?_ | refine AWP.block ?_ | (refine AWP.cond (by with_unfolding_all rfl) ?_ ?_ <;> intro h <;> (try simp only [zM, zN] at h) <;> try exact absurd h (by decide)) | refine AWP.skip ?_ | refine AWP.ret ?_ | refine AWP.exit ?_ | (refine ⟨fun h => ?_, fun h => ?_⟩ <;> (try simp only [zM, zN] at h) <;> try simp only [h]) | refine ⟨by omega, encStr x, hx', ?_⟩ | refine ⟨encStr x, hx', ?_⟩ | refine ⟨by omega, ?_⟩ | refine ⟨by omega, by omega, ?_⟩ | refine ⟨by omega, by omega, by omega, ?_⟩ | refine Or.inl ?_) | (clear hK K))
      all_goals (rw [wrap_succ hlt hlen2])
      all_goals first | exact ⟨u, hok, Gh.to [] (by repeat (first | exact trivial | refine ⟨rfl, ?_⟩ | refine ⟨by (simp only [go_sem, zA, zB, zC, zD, zE, zF, zG, reduceCtorEq, zH, zI, zJ, zK, zL, List.length_append, List.length_map, List.length_cons, List.length_nil, Nat.zero_add]) <;> rfl, ?_⟩)) (by repeat (first | exact trivial | refine ⟨rfl, ?_⟩ | refine ⟨by (simp only [go_sem, zA, zB, zC, zD, zE, zF, zG, reduceCtorEq, zH, zI, zJ, zK, zL, List.length_append, List.length_map, List.length_cons, List.length_nil, Nat.zero_add]) <;> rfl, ?_⟩)) rfl rfl rfl⟩ | exact Gh.to [] (by repeat (first | exact trivial | refine ⟨rfl, ?_⟩ | refine ⟨by (simp only [go_sem, zA, zB, zC, zD, zE, zF, zG, reduceCtorEq, zH, zI, zJ, zK, zL, List.length_append, List.length_map, List.length_cons, List.length_nil, Nat.zero_add]) <;> rfl, ?_⟩)) (by repeat (first | exact trivial | refine ⟨rfl, ?_⟩ | refine ⟨by (simp only [go_sem, zA, zB, zC, zD, zE, zF, zG, reduceCtorEq, zH, zI, zJ, zK, zL, List.length_append, List.length_map, List.length_cons, List.length_nil, Nat.zero_add]) <;> rfl, ?_⟩)) rfl rfl rfl
     | true =>
      rw [hc2] at hpd
      rw [hpd, cond_true] at hok
      obtain rfl : y = x := Option.some.inj (hf.symm.trans hok)
      repeat' (first | (simp only [go_sem, zA, zB, zC, zD, zE, zF, zG, reduceCtorEq, zH, zI, zJ, zK, zL, List.length_map, hbb, encStr, hsub, hadd, hd1, hc2]; all_goals fail_if_success guard_target =ₛ False) | (with_reducible first | ((first | refine seqVC_stepN rfl ?_ | refine seqVC_stepG rfl (by with_unfolding_all rfl) ?_ | refine AWP.seq ?_ | refine AWP.seqR (by kernel_rfl) ?_); intro K hK) | ((first | refine hK _ _ _ ?_ | refine hK _ _ ?_ | refine hK _ ?_); clear hK K) | refine seqVC_nil ?_ | refine AWP.block ?_ | (refine AWP.cond (by with_unfolding_all rfl) ?_ ?_ <;> intro h <;> (try simp only [zM, zN] at h) <;> try exact absurd h (by decide)) | refine AWP.skip ?_ | refine AWP.ret ?_ | refine AWP.exit ?_ | (refine ⟨fun h => ?_, fun h => ?_⟩ <;> (try simp only [zM, zN] at h) <;> try simp only [h]) | refine ⟨by omega, encStr y, hx', ?_⟩ | refine ⟨encStr y, hx', ?_⟩ | refine ⟨by omega, ?_⟩ | refine ⟨by omega, by omega, ?_⟩ | refine ⟨by omega, by omega, by omega, ?_⟩ | refine Or.inl ?_) | (clear hK K))
      all_goals (first | exact fun _ h => absurd h List.not_mem_nil | refine fin0 ?_)
      all_goals rfl
   ·intro u hbb hok
    simp only [go_sem, zA, zB, zC, zD, zE, zF, zG, reduceCtorEq, zH, zI, zJ, zK, zL]
    rw [List.drop_length, findS] at hok
    rw [hf] at hok; cases hok
/-- the tokens from k on, behind acc: tokens, place of a fault, code -/
def scanV (RQ RE : Nat → (Tok × Int) × Nat) (s : List UInt8) : Nat → Nat → List Tok → List Tok × Int × Int
 | 0, k, acc => (acc, 0, 0)
 | n + 1, k, acc => match s[k]? with
  | none => (acc, 0, 0)
  | some b => bif decide ((nextV s k b (RQ k) (RE k)).1.2 = 0)
    then scanV RQ RE s n (skipTo s (nextV s k b (RQ k) (RE k)).2) (acc ++ [{ (nextV s k b (RQ k) (RE k)).1.1 with at_ := k }])
    else ([], k, (nextV s k b (RQ k) (RE k)).1.2)
theorem findS_some {t x : List UInt8} : ∀ {l : List (List UInt8)}, findS t l = some x → x ∈ l ∧ Lib.hasPrefix t x = true
 | [], h => by cases h
 | y :: l, h => by
  rw [findS] at h
  cases hz : Lib.hasPrefix t y with
  | true => rw [hz, cond_true] at h; cases h; exact ⟨List.mem_cons_self, hz⟩
  | false => rw [hz, cond_false] at h; obtain ⟨h1, h2⟩ := findS_some h; exact ⟨List.mem_cons_of_mem _ h1, h2⟩
theorem signV_bd {t : List UInt8} (h : (signV t).1.2 = 0) : 0 < (signV t).2 ∧ (signV t).2 ≤ t.length := by
 unfold signV at h ⊢
 cases hf : findS t signL with
 | none => rw [hf] at h; exact absurd h (by decide)
 | some x =>
  obtain ⟨h1, h2⟩ := findS_some hf
  refine ⟨?_, prefix_len h2⟩
  have : ∀ y ∈ signL, 0 < y.length := by decide
  exact this x h1
/-- what quotes and backquotes begin ends behind its beginning -/
def Fwd (s : List UInt8) (RQ : Nat → (Tok × Int) × Nat) : Prop := ∀ k, k < s.length → (RQ k).1.2 = 0 → k < (RQ k).2 ∧ (RQ k).2 ≤ s.length
theorem nextV_bd {RQ RE : Nat → (Tok × Int) × Nat} {s : List UInt8} (hQ : Fwd s RQ) (hE : Fwd s RE) {k : Nat} {b : UInt8} (hk : k < s.length) (h : (nextV s k b (RQ k) (RE k)).1.2 = 0) :
  k < (nextV s k b (RQ k) (RE k)).2 ∧ (nextV s k b (RQ k) (RE k)).2 ≤ s.length := by
 have g : ∀ p, k < toW p s (k + 1) ∧ toW p s (k + 1) ≤ s.length := fun p => ⟨toW_ge (p := p) (s := s) (k := k + 1), toW_le (by omega)⟩
 revert h
 unfold nextV
 cases lowI b.toNat with
 | true => exact fun _ => g _
 | false =>
 cases uppI b.toNat with
 | true => exact fun _ => g _
 | false =>
 cases decide ((b.toNat : Int) = 95) with
 | true => intro _; simp only [cond_true, cond_false]; omega
 | false =>
 cases digI b.toNat with
 | true => exact fun _ => g _
 | false =>
 cases decide ((b.toNat : Int) = 45) && nextDig s k with
 | true => exact fun _ => g _
 | false =>
 cases decide ((b.toNat : Int) = 34) with
 | true => exact fun h => hQ k hk h
 | false =>
 cases decide ((b.toNat : Int) = 96) with
 | true => exact fun h => hE k hk h
 | false =>
  intro h
  have := signV_bd (t := s.drop k) h
  rw [List.length_drop] at this
  simp only [cond_false]
  omega
theorem scanV_step (RQ RE : Nat → (Tok × Int) × Nat) (s : List UInt8) (n k : Nat) (acc : List Tok) {b : UInt8} (hb : s[k]? = some b) {t : Tok} {e : Int} {k2 : Nat} (hr : nextV s k b (RQ k) (RE k) = ((t, e), k2)) :
  scanV RQ RE s (n + 1) k acc = bif decide (e = 0) then scanV RQ RE s n (skipTo s k2) (acc ++ [{ t with at_ := k }]) else ([], k, e) := by
 simp only [scanV, hb, hr]
theorem scanV_end (RQ RE : Nat → (Tok × Int) × Nat) (s : List UInt8) (n k : Nat) (acc : List Tok) (hk : s.length ≤ k) : scanV RQ RE s n k acc = (acc, 0, 0) := by
 cases n with
 | zero => rfl
 | succ n => simp only [scanV, List.getElem?_eq_none hk]
theorem tok_snoc (l : List Tok) (t : Tok) (k : Nat) : l.map encTok ++ [[.int .i64 t.kind, .str t.text, .int .i64 t.num, .int .i64 (k : Int)]] = (l ++ [{ t with at_ := (k : Int) }]).map encTok := by
 rw [List.map_append]; rfl
theorem wscan_c (s : List UInt8) (hs : s.length ≤ 1000000000) (RQ RE : Nat → (Tok × Int) × Nat) (hQ : Fwd s RQ) (hE : Fwd s RE)
  (hq : ∀ i b, s[i]? = some b → decide ((b.toNat : Int) = 34) = true → PCB Tryz.prog 58 [Scp pin] [(pin, scB s i)] (TkR (RQ i).1) [(pin, scB s (RQ i).2)])
  (he : ∀ i b, s[i]? = some b → decide ((b.toNat : Int) = 96) = true → PCB Tryz.prog 59 [Scp pin] [(pin, scB s i)] (TkR (RE i).1) [(pin, scB s (RE i).2)]) :
  PC Tryz.prog 17 [S s] (.tup [.one (.dat (.sl 4 ((scanV RQ RE s (s.length + 1) (skipTo s 0) []).1.map encTok))), I .i64 (scanV RQ RE s (s.length + 1) (skipTo s 0) []).2.1, I .i64 (scanV RQ RE s (s.length + 1) (skipTo s 0) []).2.2]) := by
 have h0 := PCBk.mk 12 (wskip_c s (by omega) 0 (Nat.zero_le _))
 have hk0 := skipTo_le (s := s) (k := 0) (Nat.zero_le _)
 generalize skipTo s 0 = k0 at h0 hk0 ⊢
 refine PCB.of_body Tryz.func17 rfl (by decide) Tryz.ntmps17 Tryz.results17 rfl rfl rfl ?_ rfl rfl
 repeat' (first | (simp only [go_sem, zA, zB, zC, zD, zE, zF, zG, reduceCtorEq, zH, zI, zJ, zK, zL]; all_goals fail_if_success guard_target =ₛ False) | (with_reducible first | ((first | refine seqVC_stepN rfl ?_ | refine AWP.seq ?_ | refine AWP.seqR (by kernel_rfl) ?_); intro K hK) | ((first | refine hK _ _ _ ?_ | refine hK _ _ ?_ | refine hK _ ?_); clear hK K) | refine seqVC_nil ?_ | refine AWP.block ?_ | (refine AWP.cond (by with_unfolding_all rfl) ?_ ?_ <;> intro h <;> (try simp only [zM, zN] at h) <;> try exact absurd h (by decide)) | refine AWP.skip ?_ | refine AWP.ret ?_ | refine AWP.exit ?_) | (refine ⟨12, _, _, _, h0, rfl, ?_⟩) | (with_reducible first | refine Or.inl ?_) | (clear hK K))
 refine AWP.gh (Gh.nilrow 6 900 rfl rfl rfl (by simp [Bx.fresh, Cell.freshs, Cell.fresh])) ?_
 refine AWP.loopF (X := Nat × Nat × List Tok) (fun x => [(6, .one (.own 900 x.2.2.length))]) (fun x => [(12, scB s x.2.1), (900, .row 4 (x.2.2.map encTok))]) [0, 5] [] (fun x => x.2.1 ≤ s.length ∧ s.length < x.1 + x.2.1 ∧ x.2.2.length ≤ x.2.1 ∧ scanV RQ RE s (s.length + 1) k0 [] = scanV RQ RE s x.1 x.2.1 x.2.2) (fun x => x.1) ((s.length + 1, k0, [])) (by simp only [go_sem, zA, zB, zC, zD, zE, zF, zG, reduceCtorEq, zH, zI, zJ, zK, zL]; exact Gh.to [] (by repeat (first | exact trivial | refine ⟨rfl, ?_⟩ | refine ⟨by (simp only [go_sem, zA, zB, zC, zD, zE, zF, zG, reduceCtorEq, zH, zI, zJ, zK, zL, List.length_append, List.length_map, List.length_cons, List.length_nil, Nat.zero_add]) <;> rfl, ?_⟩)) (by repeat (first | exact trivial | refine ⟨rfl, ?_⟩ | refine ⟨by (simp only [go_sem, zA, zB, zC, zD, zE, zF, zG, reduceCtorEq, zH, zI, zJ, zK, zL, List.length_append, List.length_map, List.length_cons, List.length_nil, Nat.zero_add]) <;> rfl, ?_⟩)) rfl rfl rfl) ?_ ?_
 ·exact ⟨hk0, by simp only; omega, Nat.zero_le _, rfl⟩
 rintro ⟨n, k, acc⟩ ⟨hkl, hn, hal, hok⟩
 simp only at hkl hn hal hok
 simp only [go_sem, zA, zB, zC, zD, zE, zF, zG, reduceCtorEq, zH, zI, zJ, zK, zL]
 by_cases hlt : k < s.length
 ·obtain ⟨b, hb⟩ := byte_at hlt
  have hd : decide ((k : Int) < (s.length : Int)) = true := by rw [decide_eq_true_eq]; omega
  have hnx := PCBk.mk 12 (next_c s hs k b hb (RQ k) (RE k) (hq k b hb) (he k b hb))
  obtain ⟨n, rfl⟩ : ∃ m, n = m + 1 := ⟨n - 1, by omega⟩
  have hbd := nextV_bd hQ hE (b := b) hlt
  have hst := fun t e k2 h => scanV_step RQ RE s n k acc hb (t := t) (e := e) (k2 := k2) h
  generalize nextV s k b (RQ k) (RE k) = r at hnx hst hbd
  obtain ⟨⟨t, e⟩, k2⟩ := r
  have hst := hst t e k2 rfl
  simp only at hnx hbd
  rw [hst] at hok
  cases hz : decide (e = 0) with
  | false =>
   rw [hz, cond_false] at hok
   repeat' (first | (simp only [go_sem, zA, zB, zC, zD, zE, zF, zG, reduceCtorEq, zH, zI, zJ, zK, zL, hd, hz, tok_eta, Bool.not_false]; all_goals fail_if_success guard_target =ₛ False) | (with_reducible first | ((first | refine seqVC_stepN rfl ?_ | refine AWP.seq ?_ | refine AWP.seqR (by kernel_rfl) ?_); intro K hK) | ((first | refine hK _ _ _ ?_ | refine hK _ _ ?_ | refine hK _ ?_); clear hK K) | refine seqVC_nil ?_ | refine AWP.block ?_ | (refine AWP.cond (by with_unfolding_all rfl) ?_ ?_ <;> intro h <;> (try simp only [zM, zN] at h) <;> try exact absurd h (by decide)) | refine AWP.skip ?_ | refine AWP.ret ?_ | refine AWP.exit ?_) | (refine ⟨12, _, _, _, hnx, rfl, ?_⟩) | (with_reducible first | refine Or.inl ?_) | (clear hK K))
   rw [hok]
   all_goals (first | exact fun _ h => absurd h List.not_mem_nil | refine fin0 ?_)
   all_goals rfl
  | true =>
   rw [hz, cond_true] at hok
   obtain ⟨hb1, hb2⟩ := hbd (by simpa using hz)
   have hsk := PCBk.mk 12 (wskip_c s (by omega) k2 hb2)
   have hk2 := skipTo_le hb2
   have hk3 := skipTo_ge (s := s) (k := k2)
   repeat' (first | (simp only [go_sem, zA, zB, zC, zD, zE, zF, zG, reduceCtorEq, zH, zI, zJ, zK, zL, hd, hz, tok_eta, tok_snoc, List.length_map, Bool.not_true]; all_goals fail_if_success guard_target =ₛ False) | (with_reducible first | ((first | refine seqVC_stepN rfl ?_ | refine AWP.seq ?_ | refine AWP.seqR (by kernel_rfl) ?_); intro K hK) | ((first | refine hK _ _ _ ?_ | refine hK _ _ ?_ | refine hK _ ?_); clear hK K) | refine seqVC_nil ?_ | refine AWP.block ?_ | (refine AWP.cond (by with_unfolding_all rfl) ?_ ?_ <;> intro h <;> (try simp only [zM, zN] at h) <;> try exact absurd h (by decide)) | refine AWP.skip ?_ | refine AWP.ret ?_ | refine AWP.exit ?_ | (refine ⟨(by first | omega | (simp only [List.length_append, List.length_map, List.length_take, List.length_drop, List.length_cons, List.length_nil, List.length_replicate]; omega) : _ ≤ _), ?_⟩) | refine ⟨by omega, by omega, ?_⟩) | (refine ⟨12, _, _, _, hnx, rfl, ?_⟩) | (refine ⟨12, _, _, _, hsk, rfl, ?_⟩) | (with_reducible first | refine Or.inl ?_) | (clear hK K))
   all_goals (refine ⟨(n, skipTo s k2, acc ++ [{ t with at_ := k }]), by simp only; omega, ⟨by simp only; omega, by simp only; omega, by simp only [List.length_append, List.length_cons, List.length_nil]; omega, hok⟩, Gh.to [(900, 42)] (by repeat (first | exact trivial | refine ⟨rfl, ?_⟩ | refine ⟨by (simp only [go_sem, zA, zB, zC, zD, zE, zF, zG, reduceCtorEq, zH, zI, zJ, zK, zL, List.length_append, List.length_map, List.length_cons, List.length_nil, Nat.zero_add]) <;> rfl, ?_⟩)) (by repeat (first | exact trivial | refine ⟨rfl, ?_⟩ | refine ⟨by (simp only [go_sem, zA, zB, zC, zD, zE, zF, zG, reduceCtorEq, zH, zI, zJ, zK, zL, List.length_append, List.length_map, List.length_cons, List.length_nil, Nat.zero_add]) <;> rfl, ?_⟩)) rfl rfl rfl⟩)
 ·have hd : decide ((k : Int) < (s.length : Int)) = false := by rw [decide_eq_false_iff_not]; omega
  rw [scanV_end RQ RE s n k acc (by omega)] at hok
  refine AWP.gh (Gh.freeze 900 rfl rfl (by simp only [go_sem, zA, zB, zC, zD, zE, zF, zG, reduceCtorEq, zH, zI, zJ, zK, zL, List.length_map]) (by simp only [go_sem, zA, zB, zC, zD, zE, zF, zG, reduceCtorEq, zH, zI, zJ, zK, zL, List.length_map])) ?_
  simp only [go_sem, zA, zB, zC, zD, zE, zF, zG, reduceCtorEq, zH, zI, zJ, zK, zL, List.length_map]
  repeat' (first | (simp only [go_sem, zA, zB, zC, zD, zE, zF, zG, reduceCtorEq, zH, zI, zJ, zK, zL, hd]; all_goals fail_if_success guard_target =ₛ False) | (with_reducible first | ((first | refine seqVC_stepN rfl ?_ | refine AWP.seq ?_ | refine AWP.seqR (by kernel_rfl) ?_); intro K hK) | ((first | refine hK _ _ _ ?_ | refine hK _ _ ?_ | refine hK _ ?_); clear hK K) | refine seqVC_nil ?_ | refine AWP.block ?_ | (refine AWP.cond (by with_unfolding_all rfl) ?_ ?_ <;> intro h <;> (try simp only [zM, zN] at h) <;> try exact absurd h (by decide)) | refine AWP.skip ?_ | refine AWP.ret ?_ | refine AWP.exit ?_ | refine Or.inl ?_) | (clear hK K))
  rw [hok]
  all_goals (first | exact fun _ h => absurd h List.not_mem_nil | refine fin0 ?_)
  all_goals rfl
abbrev ScR (r : List Tok × Int × Int) : T := .tup [.one (.dat (.sl 4 (r.1.map encTok))), I .i64 r.2.1, I .i64 r.2.2]
def tscanV (RQ RE : Nat → (Tok × Int) × Nat) (s : List UInt8) : List Tok × Int × Int :=
 bif decide ((4000 : Int) < (s.length : Int)) then ([], 0, 2) else scanV RQ RE s (s.length + 1) (skipTo s 0) []
theorem tscan_c (s : List UInt8) (hs : s.length ≤ 1000000000) (RQ RE : Nat → (Tok × Int) × Nat) (hQ : Fwd s RQ) (hE : Fwd s RE)
  (hq : ∀ i b, s[i]? = some b → decide ((b.toNat : Int) = 34) = true → PCB Tryz.prog 58 [Scp pin] [(pin, scB s i)] (TkR (RQ i).1) [(pin, scB s (RQ i).2)])
  (he : ∀ i b, s[i]? = some b → decide ((b.toNat : Int) = 96) = true → PCB Tryz.prog 59 [Scp pin] [(pin, scB s i)] (TkR (RE i).1) [(pin, scB s (RE i).2)]) :
  PC Tryz.prog 9 [S s] (ScR (tscanV RQ RE s)) := by
 have h1 := wscan_c s hs RQ RE hQ hE hq he
 unfold tscanV
 generalize scanV RQ RE s (s.length + 1) (skipTo s 0) [] = r at h1 ⊢
 cases h0 : decide ((4000 : Int) < (s.length : Int))
 ·
  refine PCB.of_body Tryz.func9 rfl (by decide) Tryz.ntmps9 Tryz.results9 rfl rfl rfl ?_ rfl rfl
  repeat' (first | (simp only [go_sem, zA, zB, zC, zD, zE, zF, zG, reduceCtorEq, zH, zI, zJ, zK, zL, h0]; all_goals fail_if_success guard_target =ₛ False) | (with_reducible first | ((first | refine seqVC_stepN rfl ?_ | refine AWP.seq ?_ | refine AWP.seqR (by kernel_rfl) ?_); intro K hK) | ((first | refine hK _ _ _ ?_ | refine hK _ _ ?_ | refine hK _ ?_); clear hK K) | refine seqVC_nil ?_ | refine AWP.block ?_ | (refine AWP.cond (by with_unfolding_all rfl) ?_ ?_ <;> intro h <;> (try simp only [zM, zN] at h) <;> try exact absurd h (by decide)) | refine AWP.skip ?_ | refine AWP.ret ?_ | refine AWP.exit ?_ | refine ⟨_, h1, ?_⟩ | refine Or.inl ?_) | (clear hK K))
  all_goals (first | exact fun _ h => absurd h List.not_mem_nil | refine fin0 ?_)
  all_goals rfl
 ·
  refine PCB.of_body Tryz.func9 rfl (by decide) Tryz.ntmps9 Tryz.results9 rfl rfl rfl ?_ rfl rfl
  repeat' (first | (simp only [go_sem, zA, zB, zC, zD, zE, zF, zG, reduceCtorEq, zH, zI, zJ, zK, zL, h0]; all_goals fail_if_success guard_target =ₛ False) | (with_reducible first | ((first | refine seqVC_stepN rfl ?_ | refine AWP.seq ?_ | refine AWP.seqR (by kernel_rfl) ?_); intro K hK) | ((first | refine hK _ _ _ ?_ | refine hK _ _ ?_ | refine hK _ ?_); clear hK K) | refine seqVC_nil ?_ | refine AWP.block ?_ | (refine AWP.cond (by with_unfolding_all rfl) ?_ ?_ <;> intro h <;> (try simp only [zM, zN] at h) <;> try exact absurd h (by decide)) | refine AWP.skip ?_ | refine AWP.ret ?_ | refine AWP.exit ?_ | refine Or.inl ?_) | (clear hK K))
  all_goals (first | exact fun _ h => absurd h List.not_mem_nil | refine fin0 ?_)
  all_goals rfl
/-- the bytes of the sample -/
def sampS : List UInt8 := [102, 40, 88, 41, 32, 45, 62, 32, 45, 49, 46]
def noV : Nat → (Tok × Int) × Nat := fun _ => ((zeroTok, 5), 0)
def sampT : List Tok := [⟨1, [102], 0, 0⟩, ⟨6, [40], 0, 1⟩, ⟨2, [88], 0, 2⟩, ⟨6, [41], 0, 3⟩, ⟨6, [45, 62], 0, 5⟩, ⟨3, [], -1, 8⟩, ⟨6, [46], 0, 10⟩]
theorem samp_no : ∀ b ∈ sampS, decide ((b.toNat : Int) = 34) = false ∧ decide ((b.toNat : Int) = 96) = false := by decide
theorem sk (k m : Nat) (h : skipL (sampS.drop k) = m) : skipTo sampS k = k + m := by unfold skipTo; rw [h]
theorem samp_v : tscanV noV noV sampS = (sampT, 0, 0) := by
 have e0 : skipTo sampS 0 = 0 := sk 0 0 (by simp [sampS, skipL, sepI])
 have e1 : skipTo sampS 1 = 1 := sk 1 0 (by simp [sampS, skipL, sepI])
 have e2 : skipTo sampS 2 = 2 := sk 2 0 (by simp [sampS, skipL, sepI])
 have e3 : skipTo sampS 3 = 3 := sk 3 0 (by simp [sampS, skipL, sepI])
 have e4 : skipTo sampS 4 = 5 := sk 4 1 (by simp [sampS, skipL, sepI])
 have e7 : skipTo sampS 7 = 8 := sk 7 1 (by simp [sampS, skipL, sepI])
 have e10 : skipTo sampS 10 = 10 := sk 10 0 (by simp [sampS, skipL, sepI])
 have e11 : skipTo sampS 11 = 11 := sk 11 0 (by simp [sampS, skipL, sepI])
 have st : ∀ (n k : Nat) (acc : List Tok) (b : UInt8) (t : Tok) (k2 : Nat), sampS[k]? = some b → nextV sampS k b (noV k) (noV k) = ((t, 0), k2) → scanV noV noV sampS (n + 1) k acc = scanV noV noV sampS n (skipTo sampS k2) (acc ++ [{ t with at_ := k }]) := fun n k acc b t k2 hb hr => by
  rw [scanV_step noV noV sampS n k acc hb hr]; rfl
 show scanV noV noV sampS 12 (skipTo sampS 0) [] = _
 rw [e0, st 11 0 _ 102 ⟨1, [102], 0, 0⟩ 1 rfl (by decide +kernel), e1, st 10 1 _ 40 ⟨6, [40], 0, 0⟩ 2 rfl (by decide +kernel), e2, st 9 2 _ 88 ⟨2, [88], 0, 0⟩ 3 rfl (by decide +kernel), e3, st 8 3 _ 41 ⟨6, [41], 0, 0⟩ 4 rfl (by decide +kernel), e4,
  st 7 5 _ 45 ⟨6, [45, 62], 0, 0⟩ 7 rfl (by decide +kernel), e7, st 6 8 _ 45 ⟨3, [], -1, 0⟩ 10 rfl (by decide +kernel), e10, st 5 10 _ 46 ⟨6, [46], 0, 0⟩ 11 rfl (by decide +kernel), e11, scanV_end noV noV sampS 5 11 _ (by decide)]
 rfl
theorem fwd_no (s : List UInt8) : Fwd s noV := fun k _ h => absurd (show (5 : Int) = 0 from h) (by decide)
theorem samp_c : PC Tryz.prog 9 [S sampS] (ScR (sampT, 0, 0)) := by
 have h := tscan_c sampS (by decide) noV noV (fwd_no _) (fwd_no _)
  (fun i b hb h => by have := (samp_no b (List.mem_of_getElem? hb)).1; rw [h] at this; cases this)
  (fun i b hb h => by have := (samp_no b (List.mem_of_getElem? hb)).2; rw [h] at this; cases this)
 rwa [samp_v] at h
theorem awake_c : PC Tryz.prog 7 [] (Bo true) := by
 have h1 := samp_c
 have h2 := reserved_c [99, 97, 115, 101]
 rw [show (resW.any fun x => decide (x = [99, 97, 115, 101])) = true by decide] at h2
 have h3 := reserved_c [102]
 rw [show (resW.any fun x => decide (x = [102])) = false by decide] at h3
 unfold sampS sampT at h1
 refine PCB.of_body Tryz.func7 rfl (by decide) Tryz.ntmps7 Tryz.results7 rfl rfl rfl ?_ rfl rfl
 repeat' (first | (simp only [go_sem, zA, zB, zC, zD, zE, zF, zG, reduceCtorEq, zH, zI, zJ, zK, zL, List.map_cons, List.map_nil, encTok]; all_goals fail_if_success guard_target =ₛ False) | (with_reducible first | ((first | refine seqVC_stepN rfl ?_ | refine seqVC_stepG rfl (by with_unfolding_all rfl) ?_ | refine AWP.seq ?_ | refine AWP.seqR (by kernel_rfl) ?_); intro K hK) | ((first | refine hK _ _ _ ?_ | refine hK _ _ ?_ | refine hK _ ?_); clear hK K) | refine seqVC_nil ?_ | refine AWP.block ?_ | (refine AWP.cond (by with_unfolding_all rfl) ?_ ?_ <;> intro h <;> (try simp only [zM, zN] at h) <;> try exact absurd h (by decide)) | refine AWP.skip ?_ | refine AWP.ret ?_ | refine AWP.exit ?_ | (refine ⟨fun h => ?_, fun h => ?_⟩ <;> (try simp only [zM, zN] at h) <;> try simp only [h]) | refine ⟨_, h1, ?_⟩ | refine ⟨_, h2, ?_⟩ | refine ⟨_, h3, ?_⟩ | refine ⟨by omega, _, rfl, ?_⟩ | refine Or.inl ?_) | (clear hK K))
 all_goals (first | exact fun _ h => absurd h List.not_mem_nil | refine fin0 ?_)
 all_goals rfl
theorem low_not_upp {n : Int} (h : lowI n = true) : uppI n = false := by
 simp only [lowI, uppI, Bool.and_eq_true, decide_eq_true_eq] at h ⊢
 rw [Bool.and_eq_false_iff]; simp only [decide_eq_false_iff_not]; omega
theorem one_c (s : List UInt8) (hs : s.length ≤ 100000000) (i : Nat) (b : UInt8) (hb : s[i]? = some b) : OneOk s i (nextV s i b (quoV s i) (encV s i)) := by
 have hi : i < s.length := (List.getElem?_eq_some_iff.1 hb).1
 unfold nextV
 cases hl : lowI b.toNat with
 | true =>
  have hu := low_not_upp hl
  have h95 : decide ((b.toNat : Int) = 95) = false := by simp only [lowI, Bool.and_eq_true, decide_eq_true_eq] at hl; rw [decide_eq_false_iff_not]; omega
  have h := one_word s (by omega) i b hb h95 (by rw [hl]; rfl) 1 (by rw [hu]; rfl)
  rw [show wordI b = nameI by unfold wordI; rw [hu]; rfl, text_cons hb] at h
  exact h
 | false =>
 cases hu : uppI b.toNat with
 | true =>
  have h95 : decide ((b.toNat : Int) = 95) = false := by simp only [uppI, Bool.and_eq_true, decide_eq_true_eq] at hu; rw [decide_eq_false_iff_not]; omega
  have h := one_word s (by omega) i b hb h95 (by rw [hu]; simp) 2 (by rw [hu]; rfl)
  rw [show wordI b = varI by unfold wordI; rw [hu]; rfl, text_cons hb] at h
  exact h
 | false =>
 cases h95 : decide ((b.toNat : Int) = 95) with
 | true => exact one_under s (by omega) i b hb h95
 | false =>
 have hsl : (spanW digI s (i + 1)).length ≤ 100000000 := by
  rw [spanW_eq, List.length_take, List.length_drop]; omega
 cases hd : digI b.toNat with
 | true =>
  have ha : allDig (b :: spanW digI s (i + 1)) := by
   intro x hx
   rcases List.mem_cons.1 hx with rfl | hx
   ·exact hd
   ·exact spanW_all digI s (i + 1) x hx
  have hnum := rnumber_p b (spanW digI s (i + 1)) ha (by rw [List.length_cons]; omega)
  rw [← text_cons hb] at hnum
  have h := one_num s (by omega) i b hb h95 hl hu (by rw [hd]; rfl) _ _ hnum
  simp only [cond_false, cond_true]
  rw [← text_cons hb]
  exact h
 | false =>
 cases h45 : decide ((b.toNat : Int) = 45) && nextDig s i with
 | true =>
  obtain ⟨h1, h2⟩ := Bool.and_eq_true_iff.1 h45
  have hb45 : b = 45 := by apply UInt8.toNat_inj.1; simp only [decide_eq_true_eq] at h1; show b.toNat = 45; omega
  obtain ⟨c, hc, hcd⟩ : ∃ c, s[i + 1]? = some c ∧ digI c.toNat = true := by
   unfold nextDig at h2
   cases hc : s[i + 1]? with
   | none => rw [hc] at h2; cases h2
   | some c => rw [hc] at h2; exact ⟨c, rfl, h2⟩
  have hne := spanW_ne hc hcd
  have ha := spanW_all digI s (i + 1)
  have ht := text_cons (p := digI) hb
  generalize spanW digI s (i + 1) = sp at hne ha ht hsl
  obtain ⟨x, r, rfl⟩ : ∃ x r, sp = x :: r := by cases sp with | nil => exact absurd rfl hne | cons x r => exact ⟨x, r, rfl⟩
  have hnum := rnumber_n x r ha (by omega)
  rw [hb45] at ht
  rw [← ht] at hnum
  exact one_num s (by omega) i b hb h95 hl hu (by rw [h45]; simp) _ _ hnum
 | false =>
 cases h34 : decide ((b.toNat : Int) = 34) with
 | true => exact one_quote s hs i b hb h95 hl hu hd (by simp only [decide_eq_true_eq] at h34; rw [decide_eq_false_iff_not]; omega) h34
 | false =>
 cases h96 : decide ((b.toNat : Int) = 96) with
 | true => exact one_enc s hs i b hb h95 hl hu hd (by simp only [decide_eq_true_eq] at h96; rw [decide_eq_false_iff_not]; omega) h34 h96
 | false => exact one_sign s hs i b hb h95 hl hu hd h45 h34 h96
theorem fwd_quo (s : List UInt8) : Fwd s (quoV s) := by
 intro k hk h
 unfold quoV at h ⊢
 cases hq : qAt s (k + 1) with
 | none => rw [hq] at h; exact absurd (show (5 : Int) = 0 from h) (by decide)
 | some j =>
  have := qAt_bd hq
  simp only
  omega
theorem fwd_enc (s : List UInt8) : Fwd s (encV s) := by
 intro k hk h
 have hge := toW_ge (p := noBq) (s := s) (k := k + 1)
 rw [encV_eq s k hk] at h ⊢
 cases hf : decide (toW noBq s (k + 1) < s.length) with
 | false => rw [hf] at h; exact absurd (show (5 : Int) = 0 from h) (by decide)
 | true =>
  simp only [decide_eq_true_eq] at hf
  simp only [cond_true]
  omega
/-- what both scanners give -/
def scanR (s : List UInt8) : List Tok × Int × Int := tscanV (quoV s) (encV s) s
theorem pscan_c (s : List UInt8) (hs : s.length ≤ 100000000) : PC Tryz.prog 9 [S s] (ScR (scanR s)) :=
 tscan_c s (by omega) _ _ (fwd_quo s) (fwd_enc s) (fun i b hb _ => quoted_c s (by omega) i (List.getElem?_eq_some_iff.1 hb).1) (fun i b hb _ => enclosed_c s (by omega) i (List.getElem?_eq_some_iff.1 hb).1)
theorem rscan_c (s : List UInt8) (hs : s.length ≤ 100000000) : PC Tryz.prog 12 [S s] (ScR (scanR s)) := by
 have h0 := rskip_c s (by omega) 0 (Nat.zero_le _)
 have hk0 := skipTo_le (s := s) (k := 0) (Nat.zero_le _)
 unfold scanR tscanV
 generalize skipTo s 0 = k0 at h0 hk0 ⊢
 cases hlim : decide ((4000 : Int) < (s.length : Int)) with
 | true =>
  refine PCB.of_body Tryz.func12 rfl (by decide) Tryz.ntmps12 Tryz.results12 rfl rfl rfl ?_ rfl rfl
  repeat' (first | (simp only [go_sem, zA, zB, zC, zD, zE, zF, zG, reduceCtorEq, zH, zI, zJ, zK, zL, hlim]; all_goals fail_if_success guard_target =ₛ False) | (with_reducible first | ((first | refine seqVC_stepN rfl ?_ | refine AWP.seq ?_ | refine AWP.seqR (by kernel_rfl) ?_); intro K hK) | ((first | refine hK _ _ _ ?_ | refine hK _ _ ?_ | refine hK _ ?_); clear hK K) | refine seqVC_nil ?_ | refine AWP.block ?_ | (refine AWP.cond (by with_unfolding_all rfl) ?_ ?_ <;> intro h <;> (try simp only [zM, zN] at h) <;> try exact absurd h (by decide)) | refine AWP.skip ?_ | refine AWP.ret ?_ | refine AWP.exit ?_ | refine Or.inl ?_) | (clear hK K))
  all_goals (first | exact fun _ h => absurd h List.not_mem_nil | refine fin0 ?_)
  all_goals rfl
 | false =>
 rw [cond_false]
 refine PCB.of_body Tryz.func12 rfl (by decide) Tryz.ntmps12 Tryz.results12 rfl rfl rfl ?_ rfl rfl
 repeat' (first | (simp only [go_sem, zA, zB, zC, zD, zE, zF, zG, reduceCtorEq, zH, zI, zJ, zK, zL, hlim]; all_goals fail_if_success guard_target =ₛ False) | (with_reducible first | ((first | refine seqVC_stepN rfl ?_ | refine AWP.seq ?_ | refine AWP.seqR (by kernel_rfl) ?_); intro K hK) | ((first | refine hK _ _ _ ?_ | refine hK _ _ ?_ | refine hK _ ?_); clear hK K) | refine seqVC_nil ?_ | refine AWP.block ?_ | (refine AWP.cond (by with_unfolding_all rfl) ?_ ?_ <;> intro h <;> (try simp only [zM, zN] at h) <;> try exact absurd h (by decide)) | refine AWP.skip ?_ | refine AWP.ret ?_ | refine AWP.exit ?_ | refine ⟨_, h0, ?_⟩ | refine Or.inl ?_) | (clear hK K))
 refine AWP.gh (Gh.nilrow 5 900 rfl rfl rfl (by simp [Bx.fresh, Cell.freshs, Cell.fresh])) ?_
 refine AWP.loopF (X := Nat × Nat × List Tok) (fun x => [(5, .one (.own 900 x.2.2.length)), (6, I .i64 (x.2.1 : Nat))]) (fun x => [(900, .row 4 (x.2.2.map encTok))]) [0] [] (fun x => x.2.1 ≤ s.length ∧ s.length < x.1 + x.2.1 ∧ x.2.2.length ≤ x.2.1 ∧ scanV (quoV s) (encV s) s (s.length + 1) k0 [] = scanV (quoV s) (encV s) s x.1 x.2.1 x.2.2) (fun x => x.1) ((s.length + 1, k0, [])) (by simp only [go_sem, zA, zB, zC, zD, zE, zF, zG, reduceCtorEq, zH, zI, zJ, zK, zL]; exact Gh.to [] (by repeat (first | exact trivial | refine ⟨rfl, ?_⟩ | refine ⟨by (simp only [go_sem, zA, zB, zC, zD, zE, zF, zG, reduceCtorEq, zH, zI, zJ, zK, zL, List.length_append, List.length_map, List.length_cons, List.length_nil, Nat.zero_add]) <;> rfl, ?_⟩)) (by repeat (first | exact trivial | refine ⟨rfl, ?_⟩ | refine ⟨by (simp only [go_sem, zA, zB, zC, zD, zE, zF, zG, reduceCtorEq, zH, zI, zJ, zK, zL, List.length_append, List.length_map, List.length_cons, List.length_nil, Nat.zero_add]) <;> rfl, ?_⟩)) rfl rfl rfl) ?_ ?_
 ·exact ⟨hk0, by simp only; omega, Nat.zero_le _, rfl⟩
 rintro ⟨n, k, acc⟩ ⟨hkl, hn, hal, hok⟩
 simp only at hkl hn hal hok
 simp only [go_sem, zA, zB, zC, zD, zE, zF, zG, reduceCtorEq, zH, zI, zJ, zK, zL]
 by_cases hlt : k < s.length
 ·obtain ⟨b, hb⟩ := byte_at hlt
  have hd : decide ((k : Int) < (s.length : Int)) = true := by rw [decide_eq_true_eq]; omega
  obtain ⟨t', kk, hone, heq⟩ := one_c s hs k b hb
  obtain ⟨n, rfl⟩ : ∃ m, n = m + 1 := ⟨n - 1, by omega⟩
  have hbd := nextV_bd (fwd_quo s) (fwd_enc s) (b := b) hlt
  have hst := fun t e k2 h => scanV_step (quoV s) (encV s) s n k acc hb (t := t) (e := e) (k2 := k2) h
  generalize nextV s k b (quoV s k) (encV s k) = r at hone heq hst hbd
  obtain ⟨⟨t, e⟩, k2⟩ := r
  have hst := hst t e k2 rfl
  simp only at hone heq hbd
  rw [hst] at hok
  cases hz : decide (e = 0) with
  | false =>
   rw [hz, cond_false] at hok
   repeat' (first | (simp only [go_sem, zA, zB, zC, zD, zE, zF, zG, reduceCtorEq, zH, zI, zJ, zK, zL, hd, hz, tok_eta, Bool.not_false]; all_goals fail_if_success guard_target =ₛ False) | (with_reducible first | ((first | refine seqVC_stepN rfl ?_ | refine AWP.seq ?_ | refine AWP.seqR (by kernel_rfl) ?_); intro K hK) | ((first | refine hK _ _ _ ?_ | refine hK _ _ ?_ | refine hK _ ?_); clear hK K) | refine seqVC_nil ?_ | refine AWP.block ?_ | (refine AWP.cond (by with_unfolding_all rfl) ?_ ?_ <;> intro h <;> (try simp only [zM, zN] at h) <;> try exact absurd h (by decide)) | refine AWP.skip ?_ | refine AWP.ret ?_ | refine AWP.exit ?_ | refine ⟨_, hone, ?_⟩ | refine Or.inl ?_) | (clear hK K))
   rw [hok]
   all_goals (first | exact fun _ h => absurd h List.not_mem_nil | refine fin0 ?_)
   all_goals rfl
  | true =>
   rw [hz, cond_true] at hok
   obtain ⟨ht, rfl⟩ := heq (by simpa using hz)
   obtain ⟨hb1, hb2⟩ := hbd (by simpa using hz)
   have hsk := rskip_c s (by omega) kk hb2
   have hk2 := skipTo_le hb2
   have hk3 := skipTo_ge (s := s) (k := kk)
   subst ht
   repeat' (first | (simp only [go_sem, zA, zB, zC, zD, zE, zF, zG, reduceCtorEq, zH, zI, zJ, zK, zL, hd, hz, tok_eta, tok_snoc, List.length_map, Bool.not_true]; all_goals fail_if_success guard_target =ₛ False) | (with_reducible first | ((first | refine seqVC_stepN rfl ?_ | refine AWP.seq ?_ | refine AWP.seqR (by kernel_rfl) ?_); intro K hK) | ((first | refine hK _ _ _ ?_ | refine hK _ _ ?_ | refine hK _ ?_); clear hK K) | refine seqVC_nil ?_ | refine AWP.block ?_ | (refine AWP.cond (by with_unfolding_all rfl) ?_ ?_ <;> intro h <;> (try simp only [zM, zN] at h) <;> try exact absurd h (by decide)) | refine AWP.skip ?_ | refine AWP.ret ?_ | refine AWP.exit ?_ | refine ⟨_, hone, ?_⟩ | refine ⟨_, hsk, ?_⟩ | (refine ⟨(by first | omega | (simp only [List.length_append, List.length_map, List.length_take, List.length_drop, List.length_cons, List.length_nil, List.length_replicate]; omega) : _ ≤ _), ?_⟩) | refine ⟨by omega, by omega, ?_⟩ | refine Or.inl ?_) | (clear hK K))
   all_goals (refine ⟨(n, skipTo s kk, acc ++ [{ t with at_ := k }]), by simp only; omega, ⟨by simp only; omega, by simp only; omega, by simp only [List.length_append, List.length_cons, List.length_nil]; omega, hok⟩, Gh.to [(900, 36)] (by repeat (first | exact trivial | refine ⟨rfl, ?_⟩ | refine ⟨by (simp only [go_sem, zA, zB, zC, zD, zE, zF, zG, reduceCtorEq, zH, zI, zJ, zK, zL, List.length_append, List.length_map, List.length_cons, List.length_nil, Nat.zero_add]) <;> rfl, ?_⟩)) (by repeat (first | exact trivial | refine ⟨rfl, ?_⟩ | refine ⟨by (simp only [go_sem, zA, zB, zC, zD, zE, zF, zG, reduceCtorEq, zH, zI, zJ, zK, zL, List.length_append, List.length_map, List.length_cons, List.length_nil, Nat.zero_add]) <;> rfl, ?_⟩)) rfl rfl rfl⟩)
 ·have hd : decide ((k : Int) < (s.length : Int)) = false := by rw [decide_eq_false_iff_not]; omega
  rw [scanV_end (quoV s) (encV s) s n k acc (by omega)] at hok
  refine AWP.gh (Gh.freeze 900 rfl rfl (by simp only [go_sem, zA, zB, zC, zD, zE, zF, zG, reduceCtorEq, zH, zI, zJ, zK, zL, List.length_map]) (by simp only [go_sem, zA, zB, zC, zD, zE, zF, zG, reduceCtorEq, zH, zI, zJ, zK, zL, List.length_map])) ?_
  simp only [go_sem, zA, zB, zC, zD, zE, zF, zG, reduceCtorEq, zH, zI, zJ, zK, zL, List.length_map]
  repeat' (first | (simp only [go_sem, zA, zB, zC, zD, zE, zF, zG, reduceCtorEq, zH, zI, zJ, zK, zL, hd]; all_goals fail_if_success guard_target =ₛ False) | (with_reducible first | ((first | refine seqVC_stepN rfl ?_ | refine AWP.seq ?_ | refine AWP.seqR (by kernel_rfl) ?_); intro K hK) | ((first | refine hK _ _ _ ?_ | refine hK _ _ ?_ | refine hK _ ?_); clear hK K) | refine seqVC_nil ?_ | refine AWP.block ?_ | (refine AWP.cond (by with_unfolding_all rfl) ?_ ?_ <;> intro h <;> (try simp only [zM, zN] at h) <;> try exact absurd h (by decide)) | refine AWP.skip ?_ | refine AWP.ret ?_ | refine AWP.exit ?_ | refine Or.inl ?_) | (clear hK K))
  rw [hok]
  all_goals (first | exact fun _ h => absurd h List.not_mem_nil | refine fin0 ?_)
  all_goals rfl
/-- a token, its position left out if so asked -/
def er (plain : Bool) (t : Tok) : Tok := bif plain then { t with at_ := 0 } else t
theorem same_c (a b : List Tok) (plain : Bool) (ha : a.length ≤ 1000000000) (hab : a.map (er plain) = b.map (er plain)) :
  PC Tryz.prog 11 [.one (.dat (.sl 4 (a.map encTok))), .one (.dat (.sl 4 (b.map encTok))), Bo plain] (Bo true) := by
 have hlen : a.length = b.length := by have := congrArg List.length hab; simpa using this
 have hz : decide ((a.length : Int) = (b.length : Int)) = true := by rw [decide_eq_true_eq]; omega
 refine PCB.of_body Tryz.func11 rfl (by decide) Tryz.ntmps11 Tryz.results11 rfl rfl rfl ?_ rfl rfl
 repeat' (first | (simp only [go_sem, zA, zB, zC, zD, zE, zF, zG, reduceCtorEq, zH, zI, zJ, zK, zL, List.length_map, hz]; all_goals fail_if_success guard_target =ₛ False) | (with_reducible first | ((first | refine seqVC_stepN rfl ?_ | refine AWP.seq ?_ | refine AWP.seqR (by kernel_rfl) ?_ | refine parVC_stepN rfl ?_ | refine parEVC_stepN rfl ?_ | refine genVC_stepN rfl ?_); intro K hK) | ((first | refine hK _ _ _ ?_ | refine hK _ _ ?_ | refine hK _ ?_); clear hK K) | refine seqVC_nil ?_ | refine parVC_nil ?_ | refine parEVC_nil ?_ | refine genVC_nil ?_ | refine AWP.block ?_ | (refine AWP.cond (by with_unfolding_all rfl) ?_ ?_ <;> intro h <;> (try simp only [zM, zN] at h) <;> try exact absurd h (by decide)) | refine AWP.skip ?_ | refine AWP.ret ?_ | refine AWP.exit ?_ | (refine AWP.segP (id := 6) 8 mixed (by kernel_rfl) fun K hK => ?_; simp only [List.take_succ_cons, List.take_zero, List.drop_succ_cons, List.drop_zero]) | refine AWP.parR mixed (by kernel_rfl) fun K hK => ?_ | refine ⟨(by kernel_rfl : depB _ _ _ = true), ?_⟩ | refine Or.inl ?_) | (clear hK K))
 refine AWP.len 15 rfl fun hlen0 => ?_
 (try rw [List.length_map] at hlen0)
 refine AWP.range (S := Unit) (a) encTok (fun k u => (17, I .i64 (k : Nat)) :: []) (fun k u => []) [0, 1, 2, 16] [] (fun k u => True) (()) (by simp only [go_sem, zA, zB, zC, zD, zE, zF, zG, reduceCtorEq, zH, zI, zJ, zK, zL]; exact Gh.to [] (by repeat (first | exact trivial | refine ⟨rfl, ?_⟩ | refine ⟨by (simp only [go_sem, zA, zB, zC, zD, zE, zF, zG, reduceCtorEq, zH, zI, zJ, zK, zL, List.length_append, List.length_map, List.length_cons, List.length_nil, Nat.zero_add]) <;> rfl, ?_⟩)) (by repeat (first | exact trivial | refine ⟨rfl, ?_⟩ | refine ⟨by (simp only [go_sem, zA, zB, zC, zD, zE, zF, zG, reduceCtorEq, zH, zI, zJ, zK, zL, List.length_append, List.length_map, List.length_cons, List.length_nil, Nat.zero_add]) <;> rfl, ?_⟩)) rfl rfl rfl) ?_ ?_ ?_
 ·trivial
 ·intro k u x hlt hx hx' hbb hok
  simp only [go_sem, zA, zB, zC, zD, zE, zF, zG, reduceCtorEq, zH, zI, zJ, zK, zL]
  obtain ⟨y, hy⟩ : ∃ y, b[k]? = some y := ⟨b[k]'(by omega), List.getElem?_eq_getElem (by omega)⟩
  have hy' : (b.map encTok)[k]? = some (encTok y) := by rw [List.getElem?_map, hy]; rfl
  have hxy : er plain x = er plain y := by
   have := congrArg (fun l => l[k]?) hab
   simp only [List.getElem?_map, hx, hy, Option.map_some, Option.some.injEq] at this
   exact this
  cases plain with
  | false =>
   simp only [er, cond_false] at hxy
   subst hxy
   repeat' (first | (simp only [go_sem, zA, zB, zC, zD, zE, zF, zG, reduceCtorEq, zH, zI, zJ, zK, zL, List.length_map, hbb, encTok]; all_goals fail_if_success guard_target =ₛ False) | (with_reducible first | ((first | refine seqVC_stepN rfl ?_ | refine AWP.seq ?_ | refine AWP.seqR (by kernel_rfl) ?_ | refine parVC_stepN rfl ?_ | refine parEVC_stepN rfl ?_ | refine genVC_stepN rfl ?_ | refine genMVC_stepN rfl ?_); intro K hK) | ((first | refine hK _ _ _ ?_ | refine hK _ _ ?_ | refine hK _ ?_); clear hK K) | refine seqVC_nil ?_ | refine parVC_nil ?_ | refine parEVC_nil ?_ | refine genVC_nil ?_ | refine genMVC_nil ?_ | refine AWP.block ?_ | (refine AWP.cond (by with_unfolding_all rfl) ?_ ?_ <;> intro h <;> (try simp only [zM, zN] at h) <;> try exact absurd h (by decide)) | refine AWP.skip ?_ | refine AWP.ret ?_ | refine AWP.exit ?_ | refine ⟨by omega, encTok x, hx', ?_⟩ | refine ⟨encTok x, hx', ?_⟩ | refine ⟨by omega, encTok x, hy', ?_⟩ | refine ⟨encTok x, hy', ?_⟩ | (refine AWP.genMT (id := 6) [8,9] 10 mixed (by kernel_rfl) fun K hK => ?_; simp only [List.take_succ_cons, List.take_zero, List.drop_succ_cons, List.drop_zero]) | refine AWP.parR mixed (by kernel_rfl) fun K hK => ?_ | refine ⟨(by kernel_rfl : depB _ _ _ = true), ?_⟩ | refine Or.inl ?_) | (clear hK K))
   all_goals (rw [wrap_succ hlt hlen0])
   all_goals first | exact ⟨(), trivial, Gh.to [] (by repeat (first | exact trivial | refine ⟨rfl, ?_⟩ | refine ⟨by (simp only [go_sem, zA, zB, zC, zD, zE, zF, zG, reduceCtorEq, zH, zI, zJ, zK, zL, List.length_append, List.length_map, List.length_cons, List.length_nil, Nat.zero_add]) <;> rfl, ?_⟩)) (by repeat (first | exact trivial | refine ⟨rfl, ?_⟩ | refine ⟨by (simp only [go_sem, zA, zB, zC, zD, zE, zF, zG, reduceCtorEq, zH, zI, zJ, zK, zL, List.length_append, List.length_map, List.length_cons, List.length_nil, Nat.zero_add]) <;> rfl, ?_⟩)) rfl rfl rfl⟩ | exact ⟨(), Gh.to [] (by repeat (first | exact trivial | refine ⟨rfl, ?_⟩ | refine ⟨by (simp only [go_sem, zA, zB, zC, zD, zE, zF, zG, reduceCtorEq, zH, zI, zJ, zK, zL, List.length_append, List.length_map, List.length_cons, List.length_nil, Nat.zero_add]) <;> rfl, ?_⟩)) (by repeat (first | exact trivial | refine ⟨rfl, ?_⟩ | refine ⟨by (simp only [go_sem, zA, zB, zC, zD, zE, zF, zG, reduceCtorEq, zH, zI, zJ, zK, zL, List.length_append, List.length_map, List.length_cons, List.length_nil, Nat.zero_add]) <;> rfl, ?_⟩)) rfl rfl rfl⟩ | exact Gh.to [] (by repeat (first | exact trivial | refine ⟨rfl, ?_⟩ | refine ⟨by (simp only [go_sem, zA, zB, zC, zD, zE, zF, zG, reduceCtorEq, zH, zI, zJ, zK, zL, List.length_append, List.length_map, List.length_cons, List.length_nil, Nat.zero_add]) <;> rfl, ?_⟩)) (by repeat (first | exact trivial | refine ⟨rfl, ?_⟩ | refine ⟨by (simp only [go_sem, zA, zB, zC, zD, zE, zF, zG, reduceCtorEq, zH, zI, zJ, zK, zL, List.length_append, List.length_map, List.length_cons, List.length_nil, Nat.zero_add]) <;> rfl, ?_⟩)) rfl rfl rfl
  | true =>
   obtain ⟨k1, t1, n1, a1⟩ := x
   obtain ⟨k2, t2, n2, a2⟩ := y
   simp only [er, cond_true, Tok.mk.injEq, and_true] at hxy
   obtain ⟨rfl, rfl, rfl⟩ := hxy
   repeat' (first | (simp only [go_sem, zA, zB, zC, zD, zE, zF, zG, reduceCtorEq, zH, zI, zJ, zK, zL, List.length_map, hbb, encTok]; all_goals fail_if_success guard_target =ₛ False) | (with_reducible first | ((first | refine seqVC_stepN rfl ?_ | refine AWP.seq ?_ | refine AWP.seqR (by kernel_rfl) ?_ | refine parVC_stepN rfl ?_ | refine parEVC_stepN rfl ?_ | refine genVC_stepN rfl ?_ | refine genMVC_stepN rfl ?_); intro K hK) | ((first | refine hK _ _ _ ?_ | refine hK _ _ ?_ | refine hK _ ?_); clear hK K) | refine seqVC_nil ?_ | refine parVC_nil ?_ | refine parEVC_nil ?_ | refine genVC_nil ?_ | refine genMVC_nil ?_ | refine AWP.block ?_ | (refine AWP.cond (by with_unfolding_all rfl) ?_ ?_ <;> intro h <;> (try simp only [zM, zN] at h) <;> try exact absurd h (by decide)) | refine AWP.skip ?_ | refine AWP.ret ?_ | refine AWP.exit ?_ | refine ⟨by omega, _, hx', ?_⟩ | refine ⟨_, hx', ?_⟩ | refine ⟨by omega, _, hy', ?_⟩ | refine ⟨_, hy', ?_⟩ | (refine AWP.genMT (id := 6) [8,9] 10 mixed (by kernel_rfl) fun K hK => ?_; simp only [List.take_succ_cons, List.take_zero, List.drop_succ_cons, List.drop_zero]) | refine AWP.parR mixed (by kernel_rfl) fun K hK => ?_ | refine ⟨(by kernel_rfl : depB _ _ _ = true), ?_⟩ | refine Or.inl ?_) | (clear hK K))
   all_goals (rw [wrap_succ hlt hlen0])
   all_goals first | exact ⟨(), trivial, Gh.to [] (by repeat (first | exact trivial | refine ⟨rfl, ?_⟩ | refine ⟨by (simp only [go_sem, zA, zB, zC, zD, zE, zF, zG, reduceCtorEq, zH, zI, zJ, zK, zL, List.length_append, List.length_map, List.length_cons, List.length_nil, Nat.zero_add]) <;> rfl, ?_⟩)) (by repeat (first | exact trivial | refine ⟨rfl, ?_⟩ | refine ⟨by (simp only [go_sem, zA, zB, zC, zD, zE, zF, zG, reduceCtorEq, zH, zI, zJ, zK, zL, List.length_append, List.length_map, List.length_cons, List.length_nil, Nat.zero_add]) <;> rfl, ?_⟩)) rfl rfl rfl⟩ | exact ⟨(), Gh.to [] (by repeat (first | exact trivial | refine ⟨rfl, ?_⟩ | refine ⟨by (simp only [go_sem, zA, zB, zC, zD, zE, zF, zG, reduceCtorEq, zH, zI, zJ, zK, zL, List.length_append, List.length_map, List.length_cons, List.length_nil, Nat.zero_add]) <;> rfl, ?_⟩)) (by repeat (first | exact trivial | refine ⟨rfl, ?_⟩ | refine ⟨by (simp only [go_sem, zA, zB, zC, zD, zE, zF, zG, reduceCtorEq, zH, zI, zJ, zK, zL, List.length_append, List.length_map, List.length_cons, List.length_nil, Nat.zero_add]) <;> rfl, ?_⟩)) rfl rfl rfl⟩ | exact Gh.to [] (by repeat (first | exact trivial | refine ⟨rfl, ?_⟩ | refine ⟨by (simp only [go_sem, zA, zB, zC, zD, zE, zF, zG, reduceCtorEq, zH, zI, zJ, zK, zL, List.length_append, List.length_map, List.length_cons, List.length_nil, Nat.zero_add]) <;> rfl, ?_⟩)) (by repeat (first | exact trivial | refine ⟨rfl, ?_⟩ | refine ⟨by (simp only [go_sem, zA, zB, zC, zD, zE, zF, zG, reduceCtorEq, zH, zI, zJ, zK, zL, List.length_append, List.length_map, List.length_cons, List.length_nil, Nat.zero_add]) <;> rfl, ?_⟩)) rfl rfl rfl
 ·intro u hbb hok
  simp only [go_sem, zA, zB, zC, zD, zE, zF, zG, reduceCtorEq, zH, zI, zJ, zK, zL]
  repeat' (first | (simp only [go_sem, zA, zB, zC, zD, zE, zF, zG, reduceCtorEq, zH, zI, zJ, zK, zL, List.length_map, hbb]; all_goals fail_if_success guard_target =ₛ False) | (with_reducible first | ((first | refine seqVC_stepN rfl ?_ | refine AWP.seq ?_ | refine AWP.seqR (by kernel_rfl) ?_ | refine parVC_stepN rfl ?_ | refine parEVC_stepN rfl ?_ | refine genVC_stepN rfl ?_); intro K hK) | ((first | refine hK _ _ _ ?_ | refine hK _ _ ?_ | refine hK _ ?_); clear hK K) | refine seqVC_nil ?_ | refine parVC_nil ?_ | refine parEVC_nil ?_ | refine genVC_nil ?_ | refine AWP.block ?_ | (refine AWP.cond (by with_unfolding_all rfl) ?_ ?_ <;> intro h <;> (try simp only [zM, zN] at h) <;> try exact absurd h (by decide)) | refine AWP.skip ?_ | refine AWP.ret ?_ | refine AWP.exit ?_ | (refine AWP.segP (id := 6) 8 mixed (by kernel_rfl) fun K hK => ?_; simp only [List.take_succ_cons, List.take_zero, List.drop_succ_cons, List.drop_zero]) | refine AWP.parR mixed (by kernel_rfl) fun K hK => ?_ | refine ⟨(by kernel_rfl : depB _ _ _ = true), ?_⟩ | refine Or.inl ?_) | (clear hK K))
  all_goals (first | exact fun _ h => absurd h List.not_mem_nil | refine fin0 ?_)
  all_goals rfl
theorem scanV_len (RQ RE : Nat → (Tok × Int) × Nat) (s : List UInt8) : ∀ (n k : Nat) (acc : List Tok), (scanV RQ RE s n k acc).1.length ≤ acc.length + n
 | 0, k, acc => by simp [scanV]
 | n + 1, k, acc => by
  unfold scanV
  cases s[k]? with
  | none => simp only; omega
  | some b =>
   simp only
   cases decide ((nextV s k b (RQ k) (RE k)).1.2 = 0) with
   | true =>
    have := scanV_len RQ RE s n (skipTo s (nextV s k b (RQ k) (RE k)).2) (acc ++ [{ (nextV s k b (RQ k) (RE k)).1.1 with at_ := k }])
    simp only [cond_true]
    simp only [List.length_append, List.length_cons, List.length_nil] at this
    omega
   | false => simp
theorem scanR_len (s : List UInt8) (hs : s.length ≤ 100000000) : (scanR s).1.length ≤ 1000000000 := by
 unfold scanR tscanV
 cases decide ((4000 : Int) < (s.length : Int)) with
 | true => simp
 | false =>
  have := scanV_len (quoV s) (encV s) s (s.length + 1) (skipTo s 0) []
  simp only [cond_false, List.length_nil] at this ⊢
  omega
theorem scans_c (s : List UInt8) (hs : s.length ≤ 100000000) : PC Tryz.prog 5 [S s] (Bo true) := by
 have h1 := pscan_c s hs
 have h2 := rscan_c s hs
 have hl : (scanR s).1.length ≤ 1000000000 := scanR_len s hs
 generalize scanR s = r at h1 h2 hl
 obtain ⟨l, k, e⟩ := r
 have h3 := same_c l l false hl rfl
 unfold ScR at h1 h2
 dsimp only at h1 h2
 refine PCB.of_body Tryz.func5 rfl (by decide) Tryz.ntmps5 Tryz.results5 rfl rfl rfl ?_ rfl rfl
 repeat' (first | (simp only [go_sem, zA, zB, zC, zD, zE, zF, zG, reduceCtorEq, zH, zI, zJ, zK, zL]; all_goals fail_if_success guard_target =ₛ False) | (with_reducible first | ((first | refine seqVC_stepN rfl ?_ | refine seqVC_stepG rfl (by with_unfolding_all rfl) ?_ | refine AWP.seq ?_ | refine AWP.seqR (by kernel_rfl) ?_); intro K hK) | ((first | refine hK _ _ _ ?_ | refine hK _ _ ?_ | refine hK _ ?_); clear hK K) | refine seqVC_nil ?_ | refine AWP.block ?_ | (refine AWP.cond (by with_unfolding_all rfl) ?_ ?_ <;> intro h <;> (try simp only [zM, zN] at h) <;> try exact absurd h (by decide)) | refine AWP.skip ?_ | refine AWP.ret ?_ | refine AWP.exit ?_ | (refine ⟨fun h => ?_, fun h => ?_⟩ <;> (try simp only [zM, zN] at h) <;> try simp only [h]) | refine ⟨_, h1, ?_⟩ | refine ⟨_, h2, ?_⟩ | refine ⟨_, h3, ?_⟩ | refine Or.inl ?_) | (clear hK K))
 all_goals (first | exact fun _ h => absurd h List.not_mem_nil | refine fin0 ?_)
 all_goals rfl
theorem tokenScans_c (l : List Int) (hl : l.length ≤ 9223372036854775807) (h : InI l) (at_ how : Int) (c : UInt8) (raw : List UInt8) : PC Tryz.prog 3 [.one (.dat (.sl 1 (l.map encZ))), I .i64 at_, I .i64 how, .one (.dat (.int .u8 (c.toNat : Int))), S raw] (Bo true) := by
 have htl := textV_len l h
 have hsp := spoilV_len (textV l) at_ how c
 have hm := made_c l hl h at_ how c
 have hs1 := scans_c (spoilV (textV l) at_ how c) (by omega)
 have haw := awake_c
 have hcut : raw.take (if 300 < (raw.length : Int) then 300 else (raw.length : Int)).toNat = raw.take 300 := by
  split
  ·rfl
  ·rw [Int.toNat_natCast, List.take_length, List.take_of_length_le (by omega)]
 have hs2 := scans_c (raw.take 300) (by rw [List.length_take]; omega)
 refine PCB.of_body Tryz.func3 rfl (by decide) Tryz.ntmps3 Tryz.results3 rfl rfl rfl ?_ rfl rfl
 repeat' (first | (simp only [go_sem, zA, zB, zC, zD, zE, zF, zG, reduceCtorEq, zH, zI, zJ, zK, zL, List.length_map, List.drop_zero, hcut]; all_goals fail_if_success guard_target =ₛ False) | (with_reducible first | ((first | refine seqVC_stepN rfl ?_ | refine seqVC_stepG rfl (by with_unfolding_all rfl) ?_ | refine AWP.seq ?_ | refine AWP.seqR (by kernel_rfl) ?_); intro K hK) | ((first | refine hK _ _ _ ?_ | refine hK _ _ ?_ | refine hK _ ?_); clear hK K) | refine seqVC_nil ?_ | refine AWP.block ?_ | (refine AWP.cond (by with_unfolding_all rfl) ?_ ?_ <;> intro h <;> (try simp only [zM, zN] at h) <;> try exact absurd h (by decide)) | refine AWP.skip ?_ | refine AWP.ret ?_ | refine AWP.exit ?_ | (refine ⟨fun h => ?_, fun h => ?_⟩ <;> (try simp only [zM, zN] at h) <;> try simp only [h]) | (refine ⟨by split <;> omega, by split <;> omega, ?_⟩) | refine ⟨_, hm, ?_⟩ | refine ⟨_, hs1, ?_⟩ | refine ⟨_, hs2, ?_⟩ | refine ⟨_, haw, ?_⟩ | refine Or.inl ?_) | (clear hK K))
 all_goals exact fun x hx => hx
end Go.Proofs.YtogponhonjiidaaGreatDoor

