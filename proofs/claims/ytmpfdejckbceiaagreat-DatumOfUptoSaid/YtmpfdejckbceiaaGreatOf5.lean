/- A part of the proof: lemmas about the walk of the program and about plain integers and lists. No conditions beyond those that each lemma states. -/
import Derived.Test.YtmpfdejckbceiaaGreatOf4
import Derived.Test.YtmpfdejckbceiaaGreatOf3
import Derived.Lib.SliceRun
import Derived.Lib.Bytealg
import Derived.Lib.Walk
set_option linter.unusedSimpArgs false
set_option linter.unusedVariables false
set_option maxRecDepth 20000
set_option maxHeartbeats 400000
namespace Go.Proofs.YtmpfdejckbceiaaGreat
open Go Go.Sx
open Nat renaming reduceBEq → zA, reduceBNe → zB, reduceAdd → zC, reduceSub → zD, reduceMul → zE, reduceLeDiff → zF, reduceLT → zG, reduceEqDiff → zH
open Int renaming reduceToNat → zI, reduceLE → zJ, reduceLT → zK, reduceEq → zL
open Bool renaming not_eq_true' → zM, not_eq_false' → zN
/-- the source of numbers -/
structure Src where
  l : List Int
  pos : Nat
def Src.ok (s : Src) : Prop := (∀ x ∈ s.l, -9223372036854775808 ≤ x ∧ x ≤ 9223372036854775807) ∧ s.l.length ≤ 1000000
abbrev srcB (s : Src) : Res := .cells [.dat (.sl 1 (s.l.map encInt)), .dat (.int .i64 s.pos)]
abbrev Sp (k : Nat) : T := .one (.ptr k 0)
def emptyS (s : Src) (n : Int) : Bool := decide (n < 1) || decide ((s.l.length : Int) ≤ (s.pos : Int))
def nextV (s : Src) (n : Int) : Int := bif emptyS s n then 0 else bif decide (((s.l[s.pos]?).getD 0).tmod n < 0) then ((s.l[s.pos]?).getD 0).tmod n + n else ((s.l[s.pos]?).getD 0).tmod n
def nextS (s : Src) (n : Int) : Src := bif emptyS s n then s else { s with pos := s.pos + 1 }
theorem ok_next {s : Src} (h : s.ok) (n : Int) : (nextS s n).ok := by
  unfold nextS; cases emptyS s n <;> exact h
theorem nextV_in (s : Src) {n : Int} (hn : 1 ≤ n) : 0 ≤ nextV s n ∧ nextV s n < n := by
  unfold nextV
  cases emptyS s n with
  | true => simp only [cond_true]; omega
  | false =>
    simp only [cond_false]
    generalize (s.l[s.pos]?).getD 0 = x
    have h1 : (x.tmod n) < n := Int.tmod_lt_of_pos x (by omega)
    have h2 : -n < x.tmod n := by
      have := Int.lt_tmod_of_pos x (show 0 < n by omega)
      omega
    cases hc : decide (x.tmod n < 0) with
    | true => simp only [decide_eq_true_eq] at hc; simp only [cond_true]; omega
    | false => simp only [decide_eq_false_iff_not] at hc; simp only [cond_false]; omega
theorem next_c (s : Src) (hs : s.ok) (n : Int) (hn : 1 ≤ n ∧ n ≤ 1000000) : PCB Tryz.prog 19 [Sp pin, I .i64 n] [(pin, srcB s)] (I .i64 (nextV s n)) [(pin, srcB (nextS s n))] := by
  refine PCB.of_body Tryz.func19 rfl (by decide) Tryz.ntmps19 Tryz.results19 rfl rfl rfl ?_ rfl rfl
  have h1 : decide (n < 1) = false := by simp; omega
  by_cases hp : s.pos < s.l.length
  · have h2 : decide ((s.l.length : Int) ≤ (s.pos : Int)) = false := by simp; omega
    have hx : s.l[s.pos]? = some s.l[s.pos] := by simp [hp]
    have hx' : (s.l.map encInt)[s.pos]? = some (encInt s.l[s.pos]) := by simp [hp]
    have hn0 : ¬ n = 0 := by omega
    have hw : IntKind.i64.wrap ((s.pos : Int) + 1) = ((s.pos + 1 : Nat) : Int) := wrap_succ hp (by have := hs.2; omega)
    have hb1 := Int.tmod_lt_of_pos s.l[s.pos] (show 0 < n by omega)
    have hb2 := Int.lt_tmod_of_pos s.l[s.pos] (show 0 < n by omega)
    have hw2 : IntKind.i64.wrap (s.l[s.pos].tmod n + n) = s.l[s.pos].tmod n + n := by rw [w64 (by omega)]
    have he : emptyS s n = false := by unfold emptyS; rw [h1, h2]; rfl
    repeat' (first | (simp only [go_sem, zA, zB, zC, zD, zE, zF, zG, reduceCtorEq, zH, zI, zJ, zK, zL, pin, List.length_map, h1, h2, hw, hw2]; all_goals fail_if_success guard_target =ₛ False) | (with_reducible first | ((first | refine seqVC_stepN rfl ?_ | refine seqVC_stepG rfl (by with_unfolding_all rfl) ?_ | refine AWP.seq ?_ | refine AWP.seqR (by kernel_rfl) ?_ | refine parVC_stepN rfl ?_ | refine parVC_stepG rfl (by with_unfolding_all rfl) ?_ | refine parEVC_stepN rfl ?_ | refine parEVC_stepG rfl (by with_unfolding_all rfl) ?_ | refine genVC_stepN rfl ?_ | refine genVC_stepG rfl (by with_unfolding_all rfl) ?_); intro K hK) | ((first | refine hK _ _ _ ?_ | refine hK _ _ ?_ | refine hK _ ?_); clear hK K) | refine seqVC_nil ?_ | refine parVC_nil ?_ | refine parEVC_nil ?_ | refine genVC_nil ?_ | refine AWP.block ?_ | (refine AWP.cond (by with_unfolding_all rfl) ?_ ?_ <;> intro h <;> (try simp only [zM, zN] at h) <;> try exact absurd h (by decide)) | refine AWP.skip ?_ | refine AWP.ret ?_ | refine AWP.exit ?_ | (refine ⟨fun h => ?_, fun h => ?_⟩ <;> (try simp only [zM, zN] at h) <;> try simp only [h]) | refine ⟨by omega, encInt s.l[s.pos], hx', ?_⟩ | refine ⟨by omega, ?_⟩ | refine ⟨hn0, ?_⟩ | refine AWP.parR mixed (by kernel_rfl) fun K hK => ?_ | refine ⟨(by kernel_rfl : depB _ _ _ = true), ?_⟩ | refine Or.inl ?_) | (clear hK K))
    all_goals (simp only [decide_eq_true_eq, decide_eq_false_iff_not] at h)
    all_goals (refine ⟨by simp only [nextV, he, cond_false, hx, Option.getD_some, h, decide_true, decide_false, cond_true], fun x hx => by simpa only [nextS, he, cond_false] using hx⟩)
  · have h2 : decide ((s.l.length : Int) ≤ (s.pos : Int)) = true := by simp; omega
    have he : emptyS s n = true := by unfold emptyS; rw [h1, h2]; rfl
    repeat' (first | (simp only [go_sem, zA, zB, zC, zD, zE, zF, zG, reduceCtorEq, zH, zI, zJ, zK, zL, pin, List.length_map, h1, h2]; all_goals fail_if_success guard_target =ₛ False) | (with_reducible first | ((first | refine seqVC_stepN rfl ?_ | refine seqVC_stepG rfl (by with_unfolding_all rfl) ?_ | refine AWP.seq ?_ | refine AWP.seqR (by kernel_rfl) ?_ | refine parVC_stepN rfl ?_ | refine parVC_stepG rfl (by with_unfolding_all rfl) ?_ | refine parEVC_stepN rfl ?_ | refine parEVC_stepG rfl (by with_unfolding_all rfl) ?_ | refine genVC_stepN rfl ?_ | refine genVC_stepG rfl (by with_unfolding_all rfl) ?_); intro K hK) | ((first | refine hK _ _ _ ?_ | refine hK _ _ ?_ | refine hK _ ?_); clear hK K) | refine seqVC_nil ?_ | refine parVC_nil ?_ | refine parEVC_nil ?_ | refine genVC_nil ?_ | refine AWP.block ?_ | (refine AWP.cond (by with_unfolding_all rfl) ?_ ?_ <;> intro h <;> (try simp only [zM, zN] at h) <;> try exact absurd h (by decide)) | refine AWP.skip ?_ | refine AWP.ret ?_ | refine AWP.exit ?_ | (refine ⟨fun h => ?_, fun h => ?_⟩ <;> (try simp only [zM, zN] at h) <;> try simp only [h]) | refine AWP.parR mixed (by kernel_rfl) fun K hK => ?_ | refine ⟨(by kernel_rfl : depB _ _ _ = true), ?_⟩ | refine Or.inl ?_) | (clear hK K))
    all_goals exact ⟨by simp only [nextV, he, cond_true], fun x hx => by simpa only [nextS, he, cond_true] using hx⟩
theorem next_k (k : Nat) (s : Src) (hs : s.ok) (n : Int) (hn : 1 ≤ n ∧ n ≤ 1000000) : PCBk Tryz.prog 19 [Sp k, I .i64 n] k (srcB s) (I .i64 (nextV s n)) (srcB (nextS s n)) := PCBk.mk k (next_c s hs n hn)
/-- a place of a literal -/
theorem lit_get {α : Type} (f : α → List C) (l : List α) (d : α) {v : Int} (hv : 0 ≤ v ∧ v < l.length) : (l.map f)[v.toNat]? = some (f (l.getD v.toNat d)) := by
  have h : v.toNat < l.length := by omega
  simp [List.getElem?_map, h]
def wordL : List (List UInt8) := [[], [115], [120, 32, 121], [97]]
def atomL : List (List UInt8) := [[97], [98], [111, 107], [101, 114, 114, 111, 114]]
def numL : List Int := [0, 1, -1, 2, 3, -2, 7, -9223372036854775808, 9223372036854775807, 10]
def wordV (s : Src) : List UInt8 := wordL.getD (nextV s 4).toNat []
def atomV (s : Src) : List UInt8 := atomL.getD (nextV s 4).toNat []
def numV (s : Src) : Int := numL.getD (nextV s 10).toNat 0
theorem word_c (s : Src) (hs : s.ok) : PCB Tryz.prog 20 [Sp pin] [(pin, srcB s)] (S (wordV s)) [(pin, srcB (nextS s 4))] := by
  refine PCB.of_body Tryz.func20 rfl (by decide) Tryz.ntmps20 Tryz.results20 rfl rfl rfl ?_ rfl rfl
  have hv := nextV_in s (n := 4) (by omega)
  repeat' (first | (simp only [go_sem, zA, zB, zC, zD, zE, zF, zG, reduceCtorEq, zH, zI, zJ, zK, zL, pin]; all_goals fail_if_success guard_target =ₛ False) | (with_reducible first | ((first | refine seqVC_stepN rfl ?_ | refine AWP.seq ?_ | refine AWP.seqR (by kernel_rfl) ?_); intro K hK) | ((first | refine hK _ _ _ ?_ | refine hK _ _ ?_ | refine hK _ ?_); clear hK K) | refine seqVC_nil ?_ | refine AWP.block ?_ | (refine AWP.cond (by with_unfolding_all rfl) ?_ ?_ <;> intro h <;> (try simp only [zM, zN] at h) <;> try exact absurd h (by decide)) | refine AWP.skip ?_ | refine AWP.ret ?_ | refine AWP.exit ?_) | (refine ⟨1000000, _, _, _, next_k 1000000 s hs 4 (by omega), rfl, ?_⟩) | ( refine ⟨hv.1, [.str (wordV s)], lit_get (fun x => [C.str x]) wordL [] hv, ?_⟩) | (with_reducible first | refine Or.inl ?_) | (clear hK K))
  all_goals exact fun x hx => hx
theorem atomName_c (s : Src) (hs : s.ok) : PCB Tryz.prog 48 [Sp pin] [(pin, srcB s)] (S (atomV s)) [(pin, srcB (nextS s 4))] := by
  refine PCB.of_body Tryz.func48 rfl (by decide) Tryz.ntmps48 Tryz.results48 rfl rfl rfl ?_ rfl rfl
  have hv := nextV_in s (n := 4) (by omega)
  repeat' (first | (simp only [go_sem, zA, zB, zC, zD, zE, zF, zG, reduceCtorEq, zH, zI, zJ, zK, zL, pin]; all_goals fail_if_success guard_target =ₛ False) | (with_reducible first | ((first | refine seqVC_stepN rfl ?_ | refine AWP.seq ?_ | refine AWP.seqR (by kernel_rfl) ?_); intro K hK) | ((first | refine hK _ _ _ ?_ | refine hK _ _ ?_ | refine hK _ ?_); clear hK K) | refine seqVC_nil ?_ | refine AWP.block ?_ | (refine AWP.cond (by with_unfolding_all rfl) ?_ ?_ <;> intro h <;> (try simp only [zM, zN] at h) <;> try exact absurd h (by decide)) | refine AWP.skip ?_ | refine AWP.ret ?_ | refine AWP.exit ?_) | (refine ⟨1000000, _, _, _, next_k 1000000 s hs 4 (by omega), rfl, ?_⟩) | ( refine ⟨hv.1, [.str (atomV s)], lit_get (fun x => [C.str x]) atomL [] hv, ?_⟩) | (with_reducible first | refine Or.inl ?_) | (clear hK K))
  all_goals exact fun x hx => hx
theorem number_c (s : Src) (hs : s.ok) : PCB Tryz.prog 21 [Sp pin] [(pin, srcB s)] (I .i64 (numV s)) [(pin, srcB (nextS s 10))] := by
  refine PCB.of_body Tryz.func21 rfl (by decide) Tryz.ntmps21 Tryz.results21 rfl rfl rfl ?_ rfl rfl
  have hv := nextV_in s (n := 10) (by omega)
  repeat' (first | (simp only [go_sem, zA, zB, zC, zD, zE, zF, zG, reduceCtorEq, zH, zI, zJ, zK, zL, pin]; all_goals fail_if_success guard_target =ₛ False) | (with_reducible first | ((first | refine seqVC_stepN rfl ?_ | refine AWP.seq ?_ | refine AWP.seqR (by kernel_rfl) ?_); intro K hK) | ((first | refine hK _ _ _ ?_ | refine hK _ _ ?_ | refine hK _ ?_); clear hK K) | refine seqVC_nil ?_ | refine AWP.block ?_ | (refine AWP.cond (by with_unfolding_all rfl) ?_ ?_ <;> intro h <;> (try simp only [zM, zN] at h) <;> try exact absurd h (by decide)) | refine AWP.skip ?_ | refine AWP.ret ?_ | refine AWP.exit ?_) | (refine ⟨1000000, _, _, _, next_k 1000000 s hs 10 (by omega), rfl, ?_⟩) | ( refine ⟨hv.1, [.int .i64 (numV s)], lit_get (fun x => [C.int .i64 x]) numL 0 hv, ?_⟩) | (with_reducible first | refine Or.inl ?_) | (clear hK K))
  all_goals exact fun x hx => hx
theorem word_k (k : Nat) (s : Src) (hs : s.ok) : PCBk Tryz.prog 20 [Sp k] k (srcB s) (S (wordV s)) (srcB (nextS s 4)) := PCBk.mk k (word_c s hs)
theorem atomName_k (k : Nat) (s : Src) (hs : s.ok) : PCBk Tryz.prog 48 [Sp k] k (srcB s) (S (atomV s)) (srcB (nextS s 4)) := PCBk.mk k (atomName_c s hs)
theorem number_k (k : Nat) (s : Src) (hs : s.ok) : PCBk Tryz.prog 21 [Sp k] k (srcB s) (I .i64 (numV s)) (srcB (nextS s 10)) := PCBk.mk k (number_c s hs)
def keyV (s : Src) : KeyD × Src := bif decide (nextV s 2 = 0) then (⟨0, atomV (nextS s 2)⟩, nextS (nextS s 2) 4) else (⟨1, wordV (nextS s 2)⟩, nextS (nextS s 2) 4)
theorem key_c (s : Src) (hs : s.ok) : PCB Tryz.prog 23 [Sp pin] [(pin, srcB s)] (.st (encKey (keyV s).1)) [(pin, srcB (keyV s).2)] := by
  refine PCB.of_body Tryz.func23 rfl (by decide) Tryz.ntmps23 Tryz.results23 rfl rfl rfl ?_ rfl rfl
  have hs2 := ok_next hs 2
  repeat' (first | (simp only [go_sem, zA, zB, zC, zD, zE, zF, zG, reduceCtorEq, zH, zI, zJ, zK, zL, pin]; all_goals fail_if_success guard_target =ₛ False) | (with_reducible first | ((first | refine seqVC_stepN rfl ?_ | refine AWP.seq ?_ | refine AWP.seqR (by kernel_rfl) ?_); intro K hK) | ((first | refine hK _ _ _ ?_ | refine hK _ _ ?_ | refine hK _ ?_); clear hK K) | refine seqVC_nil ?_ | refine AWP.block ?_ | (refine AWP.cond (by with_unfolding_all rfl) ?_ ?_ <;> intro h <;> (try simp only [zM, zN] at h) <;> try exact absurd h (by decide)) | refine AWP.skip ?_ | refine AWP.ret ?_ | refine AWP.exit ?_) | (refine ⟨1000000, _, _, _, next_k 1000000 s hs 2 (by omega), rfl, ?_⟩) | (refine ⟨1000000, _, _, _, atomName_k 1000000 _ hs2, rfl, ?_⟩) | (refine ⟨1000000, _, _, _, word_k 1000000 _ hs2, rfl, ?_⟩) | (with_reducible first | refine Or.inl ?_) | (clear hK K))
  all_goals (simp only [keyV, h, cond_true, cond_false]; exact ⟨rfl, fun x hx => by simp only [List.mem_singleton] at hx; subst hx; simp⟩)
theorem key_k (k : Nat) (s : Src) (hs : s.ok) : PCBk Tryz.prog 23 [Sp k] k (srcB s) (.st (encKey (keyV s).1)) (srcB (keyV s).2) := PCBk.mk k (key_c s hs)
theorem ok_key {s : Src} (h : s.ok) : (keyV s).2.ok := by unfold keyV; cases decide (nextV s 2 = 0) <;> exact ok_next (ok_next h 2) 4
def lowB (b : UInt8) : Bool := decide ((97 : Int) ≤ (b.toNat : Int)) && decide ((b.toNat : Int) ≤ 122)
def digB (b : UInt8) : Bool := decide ((48 : Int) ≤ (b.toNat : Int)) && decide ((b.toNat : Int) ≤ 57)
theorem lower_c (b : UInt8) : PC Tryz.prog 80 [I .u8 b.toNat] (Bo (lowB b)) := by
  refine PCB.of_body Tryz.func80 rfl (by decide) Tryz.ntmps80 Tryz.results80 rfl rfl rfl ?_ rfl rfl
  repeat' (first | (simp only [go_sem, zA, zB, zC, zD, zE, zF, zG, reduceCtorEq, zH, zI, zJ, zK, zL]; all_goals fail_if_success guard_target =ₛ False) | (with_reducible first | ((first | refine seqVC_stepN rfl ?_ | refine seqVC_stepG rfl (by with_unfolding_all rfl) ?_ | refine AWP.seq ?_ | refine AWP.seqR (by kernel_rfl) ?_); intro K hK) | ((first | refine hK _ _ _ ?_ | refine hK _ _ ?_ | refine hK _ ?_); clear hK K) | refine seqVC_nil ?_ | refine AWP.block ?_ | (refine AWP.cond (by with_unfolding_all rfl) ?_ ?_ <;> intro h <;> (try simp only [zM, zN] at h) <;> try exact absurd h (by decide)) | refine AWP.skip ?_ | refine AWP.ret ?_ | refine AWP.exit ?_ | (refine ⟨fun h => ?_, fun h => ?_⟩ <;> (try simp only [zM, zN] at h) <;> try simp only [h]) | refine Or.inl ?_) | (clear hK K))
  all_goals (refine fin0 ?_; simp only [lowB, h, Bool.true_and, Bool.false_and])
theorem digit_c (b : UInt8) : PC Tryz.prog 81 [I .u8 b.toNat] (Bo (digB b)) := by
  refine PCB.of_body Tryz.func81 rfl (by decide) Tryz.ntmps81 Tryz.results81 rfl rfl rfl ?_ rfl rfl
  repeat' (first | (simp only [go_sem, zA, zB, zC, zD, zE, zF, zG, reduceCtorEq, zH, zI, zJ, zK, zL]; all_goals fail_if_success guard_target =ₛ False) | (with_reducible first | ((first | refine seqVC_stepN rfl ?_ | refine seqVC_stepG rfl (by with_unfolding_all rfl) ?_ | refine AWP.seq ?_ | refine AWP.seqR (by kernel_rfl) ?_); intro K hK) | ((first | refine hK _ _ _ ?_ | refine hK _ _ ?_ | refine hK _ ?_); clear hK K) | refine seqVC_nil ?_ | refine AWP.block ?_ | (refine AWP.cond (by with_unfolding_all rfl) ?_ ?_ <;> intro h <;> (try simp only [zM, zN] at h) <;> try exact absurd h (by decide)) | refine AWP.skip ?_ | refine AWP.ret ?_ | refine AWP.exit ?_ | (refine ⟨fun h => ?_, fun h => ?_⟩ <;> (try simp only [zM, zN] at h) <;> try simp only [h]) | refine Or.inl ?_) | (clear hK K))
  all_goals (refine fin0 ?_; simp only [digB, h, Bool.true_and, Bool.false_and])
def tailB (b : UInt8) : Bool := lowB b || (digB b || decide ((b.toNat : Int) = 95))
def isAtomB (s : List UInt8) : Bool := !(decide ((s.length : Int) < 1) || (decide ((16 : Int) < (s.length : Int)) || !lowB (s.headD 0))) && (s.drop 1).all tailB
theorem isAtom_c (s : List UInt8) : PC Tryz.prog 65 [S s] (Bo (isAtomB s)) := by
  refine PCB.of_body Tryz.func65 rfl (by decide) Tryz.ntmps65 Tryz.results65 rfl rfl rfl ?_ rfl rfl
  cases hl1 : decide ((s.length : Int) < 1) with
  | true =>
    repeat' (first | (simp only [go_sem, zA, zB, zC, zD, zE, zF, zG, reduceCtorEq, zH, zI, zJ, zK, zL, hl1]; all_goals fail_if_success guard_target =ₛ False) | (with_reducible first | ((first | refine seqVC_stepN rfl ?_ | refine seqVC_stepG rfl (by with_unfolding_all rfl) ?_ | refine AWP.seq ?_ | refine AWP.seqR (by kernel_rfl) ?_); intro K hK) | ((first | refine hK _ _ _ ?_ | refine hK _ _ ?_ | refine hK _ ?_); clear hK K) | refine seqVC_nil ?_ | refine AWP.block ?_ | (refine AWP.cond (by with_unfolding_all rfl) ?_ ?_ <;> intro h <;> (try simp only [zM, zN] at h) <;> try exact absurd h (by decide)) | refine AWP.skip ?_ | refine AWP.ret ?_ | refine AWP.exit ?_ | (refine ⟨fun h => ?_, fun h => ?_⟩ <;> (try simp only [zM, zN] at h) <;> try simp only [h]) | refine Or.inl ?_) | (clear hK K))
    all_goals (first | exact fun _ h => (by cases h) | refine fin0 ?_)
    all_goals simp only [isAtomB, hl1, Bool.true_or, Bool.not_true, Bool.false_and]
  | false =>
    have hpos : 0 < s.length := by simp only [decide_eq_false_iff_not] at hl1; omega
    obtain ⟨b, hb0⟩ : ∃ b, s[0]? = some b := ⟨s[0], by simp [hpos]⟩
    have hhd : s.headD 0 = b := by cases s <;> simp at hb0 hpos ⊢; exact hb0
    cases hlong : decide ((16 : Int) < (s.length : Int)) with
    | true =>
      repeat' (first | (simp only [go_sem, zA, zB, zC, zD, zE, zF, zG, reduceCtorEq, zH, zI, zJ, zK, zL, hl1, hlong]; all_goals fail_if_success guard_target =ₛ False) | (with_reducible first | ((first | refine seqVC_stepN rfl ?_ | refine seqVC_stepG rfl (by with_unfolding_all rfl) ?_ | refine AWP.seq ?_ | refine AWP.seqR (by kernel_rfl) ?_); intro K hK) | ((first | refine hK _ _ _ ?_ | refine hK _ _ ?_ | refine hK _ ?_); clear hK K) | refine seqVC_nil ?_ | refine AWP.block ?_ | (refine AWP.cond (by with_unfolding_all rfl) ?_ ?_ <;> intro h <;> (try simp only [zM, zN] at h) <;> try exact absurd h (by decide)) | refine AWP.skip ?_ | refine AWP.ret ?_ | refine AWP.exit ?_ | (refine ⟨fun h => ?_, fun h => ?_⟩ <;> (try simp only [zM, zN] at h) <;> try simp only [h]) | refine Or.inl ?_) | (clear hK K))
      all_goals (first | exact fun _ h => (by cases h) | refine fin0 ?_)
      all_goals simp only [isAtomB, hlong, Bool.true_or, Bool.or_true, Bool.not_true, Bool.false_and]
    | false =>
      have hlen : s.length ≤ 9223372036854775807 := by simp only [decide_eq_false_iff_not] at hlong; omega
      cases hlow : lowB b with
      | false =>
        repeat' (first | (simp only [go_sem, zA, zB, zC, zD, zE, zF, zG, reduceCtorEq, zH, zI, zJ, zK, zL, hl1, hlong, hlow]; all_goals fail_if_success guard_target =ₛ False) | (with_reducible first | ((first | refine seqVC_stepN rfl ?_ | refine seqVC_stepG rfl (by with_unfolding_all rfl) ?_ | refine AWP.seq ?_ | refine AWP.seqR (by kernel_rfl) ?_); intro K hK) | ((first | refine hK _ _ _ ?_ | refine hK _ _ ?_ | refine hK _ ?_); clear hK K) | refine seqVC_nil ?_ | refine AWP.block ?_ | (refine AWP.cond (by with_unfolding_all rfl) ?_ ?_ <;> intro h <;> (try simp only [zM, zN] at h) <;> try exact absurd h (by decide)) | refine AWP.skip ?_ | refine AWP.ret ?_ | refine AWP.exit ?_ | (refine ⟨fun h => ?_, fun h => ?_⟩ <;> (try simp only [zM, zN] at h) <;> try simp only [h]) | refine ⟨_, lower_c b, ?_⟩ | refine ⟨by omega, b, hb0, ?_⟩ | refine ⟨b, hb0, ?_⟩ | refine Or.inl ?_) | (clear hK K))
        all_goals (first | exact fun _ h => (by cases h) | refine fin0 ?_)
        all_goals simp only [isAtomB, hl1, hlong, hhd, hlow, Bool.false_or, Bool.not_false, Bool.not_true, Bool.false_and]
      | true =>
        have hmod : isAtomB s = (s.drop 1).all tailB := by simp only [isAtomB, hl1, hlong, hhd, hlow, Bool.not_true, Bool.false_or, Bool.not_false, Bool.true_and]
        repeat' (first | (simp only [go_sem, zA, zB, zC, zD, zE, zF, zG, reduceCtorEq, zH, zI, zJ, zK, zL, hl1, hlong, hlow]; all_goals fail_if_success guard_target =ₛ False) | (with_reducible first | ((first | refine seqVC_stepN rfl ?_ | refine seqVC_stepG rfl (by with_unfolding_all rfl) ?_ | refine AWP.seq ?_ | refine AWP.seqR (by kernel_rfl) ?_); intro K hK) | ((first | refine hK _ _ _ ?_ | refine hK _ _ ?_ | refine hK _ ?_); clear hK K) | refine seqVC_nil ?_ | refine AWP.block ?_ | (refine AWP.cond (by with_unfolding_all rfl) ?_ ?_ <;> intro h <;> (try simp only [zM, zN] at h) <;> try exact absurd h (by decide)) | refine AWP.skip ?_ | refine AWP.ret ?_ | refine AWP.exit ?_ | (refine ⟨fun h => ?_, fun h => ?_⟩ <;> (try simp only [zM, zN] at h) <;> try simp only [h]) | refine ⟨_, lower_c b, ?_⟩ | refine ⟨by omega, b, hb0, ?_⟩ | refine ⟨b, hb0, ?_⟩ | refine Or.inl ?_) | (clear hK K))
        refine AWP.loopS (X := Nat) (fun k => [(3, I .i64 k), (0, S s)]) (fun _ => []) (fun k => 1 ≤ k ∧ k ≤ s.length ∧ (s.drop 1).all tailB = (s.drop k).all tailB) (fun k => s.length - k) 1 (Gh.to [] (by repeat (first | exact trivial | refine ⟨rfl, ?_⟩ | refine ⟨by (simp only [go_sem, zA, zB, zC, zD, zE, zF, zG, reduceCtorEq, zH, zI, zJ, zK, zL, List.length_append, List.length_map, List.length_cons, List.length_nil, Nat.zero_add]) <;> rfl, ?_⟩)) (by repeat (first | exact trivial | refine ⟨rfl, ?_⟩ | refine ⟨by (simp only [go_sem, zA, zB, zC, zD, zE, zF, zG, reduceCtorEq, zH, zI, zJ, zK, zL, List.length_append, List.length_map, List.length_cons, List.length_nil, Nat.zero_add]) <;> rfl, ?_⟩)) rfl rfl rfl) ⟨Nat.le_refl _, by omega, rfl⟩ ?_
        rintro k ⟨hk1, hk, hp⟩
        by_cases hlt : k < s.length
        · have hdrop := List.drop_eq_getElem_cons hlt
          have hd : s[k]? = some s[k] := List.getElem?_eq_getElem hlt
          have hbt : decide ((k : Int) < (s.length : Int)) = true := by simpa using hlt
          generalize s[k] = d at hd hdrop
          rw [hdrop, List.all_cons] at hp
          cases ht1 : lowB d <;> cases ht2 : digB d <;> cases ht3 : decide ((d.toNat : Int) = 95)
          all_goals simp only [tailB, ht1, ht2, ht3, Bool.or_true, Bool.or_false, Bool.true_or, Bool.true_and, Bool.false_and] at hp
          repeat' (first | (simp only [go_sem, zA, zB, zC, zD, zE, zF, zG, reduceCtorEq, zH, zI, zJ, zK, zL, hbt, ht1, ht2, ht3]; all_goals fail_if_success guard_target =ₛ False) | (with_reducible first | ((first | refine seqVC_stepN rfl ?_ | refine seqVC_stepG rfl (by with_unfolding_all rfl) ?_ | refine AWP.seq ?_ | refine AWP.seqR (by kernel_rfl) ?_); intro K hK) | ((first | refine hK _ _ _ ?_ | refine hK _ _ ?_ | refine hK _ ?_); clear hK K) | refine seqVC_nil ?_ | refine AWP.block ?_ | (refine AWP.cond (by with_unfolding_all rfl) ?_ ?_ <;> intro h <;> (try simp only [zM, zN] at h) <;> try exact absurd h (by decide)) | refine AWP.skip ?_ | refine AWP.ret ?_ | refine AWP.exit ?_ | (refine ⟨fun h => ?_, fun h => ?_⟩ <;> (try simp only [zM, zN] at h) <;> try simp only [h]) | refine ⟨_, lower_c d, ?_⟩ | refine ⟨_, digit_c d, ?_⟩ | refine ⟨by omega, d, hd, ?_⟩ | refine ⟨d, hd, ?_⟩ | refine Or.inl ?_) | (clear hK K))
          all_goals first
            | (refine fin0 ?_; rw [hmod, hp])
            | (rw [wrap_succ hlt hlen]; refine ⟨k + 1, by omega, ⟨by omega, by omega, hp⟩, Gh.to [] (by repeat (first | exact trivial | refine ⟨rfl, ?_⟩ | refine ⟨by (simp only [go_sem, zA, zB, zC, zD, zE, zF, zG, reduceCtorEq, zH, zI, zJ, zK, zL, List.length_append, List.length_map, List.length_cons, List.length_nil, Nat.zero_add]) <;> rfl, ?_⟩)) (by repeat (first | exact trivial | refine ⟨rfl, ?_⟩ | refine ⟨by (simp only [go_sem, zA, zB, zC, zD, zE, zF, zG, reduceCtorEq, zH, zI, zJ, zK, zL, List.length_append, List.length_map, List.length_cons, List.length_nil, Nat.zero_add]) <;> rfl, ?_⟩)) rfl rfl rfl⟩)
        · have hbt : decide ((k : Int) < (s.length : Int)) = false := by simpa using hlt
          rw [show s.drop k = [] from List.drop_eq_nil_of_le (by omega)] at hp
          repeat' (first | (simp only [go_sem, zA, zB, zC, zD, zE, zF, zG, reduceCtorEq, zH, zI, zJ, zK, zL, hbt]; all_goals fail_if_success guard_target =ₛ False) | (with_reducible first | ((first | refine seqVC_stepN rfl ?_ | refine seqVC_stepG rfl (by with_unfolding_all rfl) ?_ | refine AWP.seq ?_ | refine AWP.seqR (by kernel_rfl) ?_); intro K hK) | ((first | refine hK _ _ _ ?_ | refine hK _ _ ?_ | refine hK _ ?_); clear hK K) | refine seqVC_nil ?_ | refine AWP.block ?_ | (refine AWP.cond (by with_unfolding_all rfl) ?_ ?_ <;> intro h <;> (try simp only [zM, zN] at h) <;> try exact absurd h (by decide)) | refine AWP.skip ?_ | refine AWP.ret ?_ | refine AWP.exit ?_ | (refine ⟨fun h => ?_, fun h => ?_⟩ <;> (try simp only [zM, zN] at h) <;> try simp only [h]) | refine Or.inl ?_) | (clear hK K))
          all_goals (refine fin0 ?_; rw [hmod, hp]; rfl)
def validKeyB (k : KeyD) : Bool := (decide (k.kind = 0) && isAtomB k.text) || (decide (k.kind = 1) && decide ((k.text.length : Int) ≤ 64))
theorem validKey_c (k : KeyD) : PC Tryz.prog 46 [.st (encKey k)] (Bo (validKeyB k)) := by
  refine PCB.of_body Tryz.func46 rfl (by decide) Tryz.ntmps46 Tryz.results46 rfl rfl rfl ?_ rfl rfl
  repeat' (first | (simp only [go_sem, zA, zB, zC, zD, zE, zF, zG, reduceCtorEq, zH, zI, zJ, zK, zL]; all_goals fail_if_success guard_target =ₛ False) | (with_reducible first | ((first | refine seqVC_stepN rfl ?_ | refine seqVC_stepG rfl (by with_unfolding_all rfl) ?_ | refine AWP.seq ?_ | refine AWP.seqR (by kernel_rfl) ?_); intro K hK) | ((first | refine hK _ _ _ ?_ | refine hK _ _ ?_ | refine hK _ ?_); clear hK K) | refine seqVC_nil ?_ | refine AWP.block ?_ | (refine AWP.cond (by with_unfolding_all rfl) ?_ ?_ <;> intro h <;> (try simp only [zM, zN] at h) <;> try exact absurd h (by decide)) | refine AWP.skip ?_ | refine AWP.ret ?_ | refine AWP.exit ?_ | (refine ⟨fun h => ?_, fun h => ?_⟩ <;> (try simp only [zM, zN] at h) <;> try simp only [h]) | refine ⟨_, isAtom_c _, ?_⟩ | refine Or.inl ?_) | (clear hK K))
  all_goals (refine fin0 ?_; simp only [validKeyB, *, Bool.true_and, Bool.false_and, Bool.true_or, Bool.false_or, Bool.or_false])
theorem order_c (a b : Int) : PC Tryz.prog 52 [I .i64 a, I .i64 b] (I .i64 (bif decide (a < b) then -1 else bif decide (b < a) then 1 else 0)) := by
  refine PCB.of_body Tryz.func52 rfl (by decide) Tryz.ntmps52 Tryz.results52 rfl rfl rfl ?_ rfl rfl
  repeat' (first | (simp only [go_sem, zA, zB, zC, zD, zE, zF, zG, reduceCtorEq, zH, zI, zJ, zK, zL]; all_goals fail_if_success guard_target =ₛ False) | (with_reducible first | ((first | refine seqVC_stepN rfl ?_ | refine AWP.seq ?_ | refine AWP.seqR (by kernel_rfl) ?_); intro K hK) | ((first | refine hK _ _ _ ?_ | refine hK _ _ ?_ | refine hK _ ?_); clear hK K) | refine seqVC_nil ?_ | refine AWP.block ?_ | (refine AWP.cond (by with_unfolding_all rfl) ?_ ?_ <;> intro h <;> (try simp only [zM, zN] at h) <;> try exact absurd h (by decide)) | refine AWP.skip ?_ | refine AWP.ret ?_ | refine AWP.exit ?_ | refine Or.inl ?_) | (clear hK K))
  all_goals (refine fin0 ?_; simp only [*, cond_true, cond_false])
def textCmp (a b : List UInt8) : Int := bif Op.bytesLess a b then -1 else bif Op.bytesLess a b || decide (a = b) then 0 else 1
theorem text_c (a b : List UInt8) : PC Tryz.prog 53 [S a, S b] (I .i64 (textCmp a b)) := by
  refine PCB.of_body Tryz.func53 rfl (by decide) Tryz.ntmps53 Tryz.results53 rfl rfl rfl ?_ rfl rfl
  repeat' (first | (simp only [go_sem, zA, zB, zC, zD, zE, zF, zG, reduceCtorEq, zH, zI, zJ, zK, zL]; all_goals fail_if_success guard_target =ₛ False) | (with_reducible first | ((first | refine seqVC_stepN rfl ?_ | refine AWP.seq ?_ | refine AWP.seqR (by kernel_rfl) ?_); intro K hK) | ((first | refine hK _ _ _ ?_ | refine hK _ _ ?_ | refine hK _ ?_); clear hK K) | refine seqVC_nil ?_ | refine AWP.block ?_ | (refine AWP.cond (by with_unfolding_all rfl) ?_ ?_ <;> intro h <;> (try simp only [zM, zN] at h) <;> try exact absurd h (by decide)) | refine AWP.skip ?_ | refine AWP.ret ?_ | refine AWP.exit ?_ | refine Or.inl ?_) | (clear hK K))
  all_goals first
    | (refine fin0 ?_; simp only [textCmp, h, cond_true]; done)
    | (rename_i h1; rw [h1, Bool.false_or] at h; refine fin0 ?_; simp only [textCmp, h1, h, Bool.false_or, cond_true, cond_false])
def keyCmp (a b : KeyD) : Int := bif !decide (a.kind = b.kind) then (bif decide (a.kind < b.kind) then -1 else bif decide (b.kind < a.kind) then 1 else 0) else textCmp a.text b.text
theorem compareKeys_c (a b : KeyD) : PC Tryz.prog 47 [.st (encKey a), .st (encKey b)] (I .i64 (keyCmp a b)) := by
  refine PCB.of_body Tryz.func47 rfl (by decide) Tryz.ntmps47 Tryz.results47 rfl rfl rfl ?_ rfl rfl
  repeat' (first | (simp only [go_sem, zA, zB, zC, zD, zE, zF, zG, reduceCtorEq, zH, zI, zJ, zK, zL]; all_goals fail_if_success guard_target =ₛ False) | (with_reducible first | ((first | refine seqVC_stepN rfl ?_ | refine AWP.seq ?_ | refine AWP.seqR (by kernel_rfl) ?_); intro K hK) | ((first | refine hK _ _ _ ?_ | refine hK _ _ ?_ | refine hK _ ?_); clear hK K) | refine seqVC_nil ?_ | refine AWP.block ?_ | (refine AWP.cond (by with_unfolding_all rfl) ?_ ?_ <;> intro h <;> (try simp only [zM, zN] at h) <;> try exact absurd h (by decide)) | refine AWP.skip ?_ | refine AWP.ret ?_ | refine AWP.exit ?_ | refine ⟨_, order_c _ _, ?_⟩ | refine ⟨_, text_c _ _, ?_⟩ | refine Or.inl ?_) | (clear hK K))
  all_goals (refine fin0 ?_; simp only [keyCmp, h, Bool.not_true, Bool.not_false, cond_true, cond_false])
end Go.Proofs.YtmpfdejckbceiaaGreat
set_option linter.unusedVariables false
namespace Go.Sx
variable {P : Program} {n : Nat}
theorem Gh.soft {env : Env} {B : Bx} (j : Nat) {cs : List Cell} (hb : B.lookup j = some (.cells cs)) : Gh n ⟨env, B⟩ ⟨env, Bx.put j (.cells (cs.map Cell.soft)) B⟩ := by
  intro κ M0 a w s
  obtain ⟨M, ν, h1, h2, h3, h4, h5, h6⟩ := s
  have hmem := lookup_box hb
  have hkeys : ∀ i r, (i, r) ∈ Bx.put j (.cells (cs.map Cell.soft)) B → ∃ r0, (i, r0) ∈ B := by
    intro i r hm
    rcases Bx.mem_put h5.nodup hm with e | ⟨hm, _⟩
    · cases e; exact ⟨_, hmem⟩
    · exact ⟨r, hm⟩
  refine ⟨M, ν, h1, h2, h3, h4, ⟨h5.os, h5.tape, h5.output, h5.dr, h5.size, h5.unch, h5.fro, ?_, ?_, ?_, ?_⟩, h6⟩
  · intro i r hm
    rcases Bx.mem_put h5.nodup hm with e | ⟨hm, _⟩
    · cases e
      have h0 := h5.res j _ hmem
      simp only [Res.ok] at h0 ⊢
      obtain ⟨b, c, et, g1, g2, g3⟩ := h0
      exact ⟨b, c, et, g1, g2, Cell.reps_soft g3⟩
    · exact h5.res i r hm
  · intro i r b hm hbk
    obtain ⟨r0, h0⟩ := hkeys i r hm
    exact h5.away i r0 b h0 hbk
  · intro i r i' r' b hm hm' hbk hbk'
    obtain ⟨r0, h0⟩ := hkeys i r hm
    obtain ⟨r1, h1⟩ := hkeys i' r' hm'
    exact h5.inj i r0 i' r1 b h0 h1 hbk hbk'
  · rw [Bx.put_keys]; exact h5.nodup
/-- two parts; in the first the box j is turned, in the second the box j2 -/
theorem AWP.segEE {Q : Exit → AS → Prop} {id : Nat} {l : List Oper} {env : Env} {B : Bx} (k j j2 : Nat) (hm : P.follows .mixedOrders = true) (hl : segsOk n l [(k, .eff), (l.length - k, .eff)] = true)
    (h : ∀ K : Env → Bx → Prop, (∀ e b, Q .normal ⟨e, b⟩ → K e b) → parEVC P l (Bx.drop j B) (l.take k) env B fun env B => parEVC P l (Bx.drop j2 B) (l.drop k) env B K) : AWP P n (.region id l.toArray true) ⟨env, B⟩ Q := by
  simp only [segsOk, Bool.and_eq_true] at hl
  refine AWP.region_parts [(k, .eff), (l.length - k, .eff)] hm hl.1 hl.2.2 fun K hK => ?_
  simp only [segSem]
  refine ⟨Bx.drop j B, fun x hx => Bx.drop_sub hx, parSem_mono (fun e b k2 => ?_) _ _ _ (parEVC_sound l (Bx.drop j B) (fun e b => parEVC P l (Bx.drop j2 b) (l.drop k) e b fun e b => K ⟨e, b⟩) _ env B (fun x hx => Bx.drop_sub hx) (dstsOk_take hl.2.1 0 k) (h _ fun e b q => hK _ q))⟩
  have e2 : (l.drop (0 + k)).take (l.length - k) = l.drop k := by rw [Nat.zero_add]; exact List.take_of_length_le (by simp)
  refine ⟨Bx.drop j2 b, fun x hx => Bx.drop_sub hx, parEVC_sound l (Bx.drop j2 b) (fun e b => K ⟨e, b⟩) _ e b (fun x hx => Bx.drop_sub hx) (dstsOk_take hl.2.1 (0 + k) (l.length - k)) ?_⟩
  rw [e2]; exact k2
/-- l == nil, at a row whose cells alone are known -/
theorem AWP.nilR {Q : Exit → AS → Prop} {id d x b k : Nat} {ty t1 t2 : TypeId} {p1 p2 : String} {af1 af2 : Array Edge} {e : TypeId} {rows : List (List C)} {env : Env} {B : Bx} (hd : env.lookup d = some (.one (.dat (.sl k rows)))) (hx : x < n) (hb : b < n)
    (hty : P.underlying ty = some (.slice e)) (ht : rows = [] → Q .normal ⟨(b, Bo true) :: (x, .one (.dat (.sl k rows))) :: env, B⟩) (hf : Q .normal ⟨(b, Bo false) :: (x, .one (.dat (.sl k rows))) :: env, B⟩) :
    AWP P n (.region id #[⟨some x, .move (.tmp d), t1, p1, af1, none⟩, ⟨some b, .binOp .eql ty (.tmp x) (.const (.slice none 0 0)) ty, t2, p2, af2, none⟩] false) ⟨env, B⟩ Q := by
  intro κ M0 a w hs
  refine wp_region_lit (l := [_, _]) ?_
  obtain ⟨M, ν, h1, h2, h3, h4, h5, h6⟩ := hs
  have hv := h4 d _ hd
  simp only [T.rep, Cell.rep, C.rep] at hv
  obtain ⟨ad, cap, mid, ev, hc1, hc2, hc3, hc4⟩ := hv
  have hrep : (T.one (.dat (.sl k rows))).rep M ν (a.tmps.getD d undef) := h4 d _ hd
  have hst1 := put_St (t := .one (.dat (.sl k rows))) (v := a.eval (.tmp d)) (dst := some x) h1 h2 h3 h4 (Mem.ext.refl κ M) (by intro d' e'; cases e'; exact hx) hrep h5 h6
  unfold wpList
  rw [if_pos (by rfl)]
  left
  have er1 : (execOp a.eval ⟨some x, .move (.tmp d), t1, p1, af1, none⟩).run P w = .ok (.value (a.eval (.tmp d))) w := rfl
  unfold Oper.wp
  rw [er1]
  simp only [Oper.upon]
  unfold wpList
  rw [if_pos (by rfl)]
  left
  obtain ⟨a1, ea1⟩ : ∃ a1, a1 = a.put (some x) (a.eval (.tmp d)) := ⟨_, rfl⟩
  rw [← ea1] at hst1 ⊢
  obtain ⟨M1, ν1, g1, g2, g3, g4, g5, g6⟩ := hst1
  have hx1 := g4 x (.one (.dat (.sl k rows))) (by simp [AS.put])
  have hv := hx1
  simp only [T.rep, Cell.rep, C.rep] at hv
  obtain ⟨ad, cap, mid, ev, hc1, hc2, hc3, hc4⟩ := hv
  have ex : a1.eval (.tmp x) = .slice ad rows.length cap := ev
  have er2 : (execOp a1.eval ⟨some b, .binOp .eql ty (.tmp x) (.const (.slice none 0 0)) ty, t2, p2, af2, none⟩).run P w = .ok (.value (.bool ad.isNone)) w := by
    have hrun : (execOp a1.eval ⟨some b, .binOp .eql ty (.tmp x) (.const (.slice none 0 0)) ty, t2, p2, af2, none⟩).run P w = ((eqGuard .eql ty (.tmp x) (.const (.slice none 0 0)) (a1.eval (.tmp x)) (a1.eval (.const (.slice none 0 0)))).run P w).andThen fun _ w => ((binOp .eql ty (a1.eval (.tmp x)) (a1.eval (.const (.slice none 0 0)))).run P w).andThen fun v w => .ok (.value v) w := by
      unfold execOp
      simp only [Sem.run_bind, Sem.run_pure]
      cases (eqGuard .eql ty (.tmp x) (.const (.slice none 0 0)) (a1.eval (.tmp x)) (a1.eval (.const (.slice none 0 0)))).run P w <;> rfl
    rw [hrun, run_guard .eql ty _ _ w (by rw [ex]; simp) (by intro c; rw [ex]; simp), ex]
    have : a1.eval (.const (.slice none 0 0)) = .slice none 0 0 := rfl
    rw [this]
    simp only [Result.andThen_ok, Lib.run_eql_slice_nil w ty e ad _ _ _ _ hty]
  unfold Oper.wp
  rw [er2]
  simp only [Oper.upon]
  have hst2 := put_St (t := Bo ad.isNone) (v := .bool ad.isNone) (dst := some b) g1 g2 g3 g4 (Mem.ext.refl κ M1) (by intro d' e'; cases e'; exact hb) (rep_bool.2 rfl) g5 g6
  unfold wpList
  refine ⟨_, hst2, ?_⟩
  cases ad with
  | none =>
    refine ht ?_
    rcases hc4 with h | ⟨_, _, h, _⟩
    · exact h
    · cases h
  | some _ => exact hf
end Go.Sx
set_option linter.unusedVariables false
namespace Go.Sx
variable {P : Program} {n : Nat} {Q : Exit → AS → Prop}
/-- equality that the walk's rewriting leaves alone -/
def Is {α : Type} (a b : α) : Prop := a = b
/-- the boxes of these names -/
def keepB (B : Bx) : List Nat → Bx
  | [] => []
  | d :: ds => match B.lookup d with
    | some t => (d, t) :: keepB B ds
    | none => keepB B ds
attribute [go_sem] keepB
/-- a loop of which only some slots and boxes change -/
theorem AWP.loopF {c : Code} {env : Env} {B : Bx} {X : Type} (chg : X → Env) (chB : X → Bx) (ks kb : List Nat) (ok : X → Prop) (meas : X → Nat) (x₀ : X)
    (hs : Gh n ⟨env, B⟩ ⟨chg x₀ ++ keepL env ks, chB x₀ ++ keepB B kb⟩) (h₀ : ok x₀)
    (round : ∀ x, ok x → AWP P n c ⟨chg x ++ keepL env ks, chB x ++ keepB B kb⟩ (Then (fun σ' => ∃ x', meas x' < meas x ∧ ok x' ∧ Gh n σ' ⟨chg x' ++ keepL env ks, chB x' ++ keepB B kb⟩) Q)) : AWP P n (.loop c) ⟨env, B⟩ Q :=
  AWP.loopS (fun x => chg x ++ keepL env ks) (fun x => chB x ++ keepB B kb) ok meas x₀ hs h₀ round
/-- a range over a list -/
theorem AWP.range {c : Code} {env : Env} {B : Bx} {α S : Type} (l : List α) (enc : α → List C) (chg : Nat → S → Env) (chB : Nat → S → Bx) (ks kb : List Nat) (ok : Nat → S → Prop) (s₀ : S)
    (hs : Gh n ⟨env, B⟩ ⟨chg 0 s₀ ++ keepL env ks, chB 0 s₀ ++ keepB B kb⟩) (h₀ : ok 0 s₀)
    (step : ∀ (k : Nat) (s : S) (x : α), k < l.length → l[k]? = some x → (l.map enc)[k]? = some (enc x) → decide ((k : Int) < (l.length : Int)) = true → ok k s →
      AWP P n c ⟨chg k s ++ keepL env ks, chB k s ++ keepB B kb⟩ (Then (fun σ' => ∃ s', ok (k + 1) s' ∧ Gh n σ' ⟨chg (k + 1) s' ++ keepL env ks, chB (k + 1) s' ++ keepB B kb⟩) Q))
    (done : ∀ s : S, decide ((l.length : Int) < (l.length : Int)) = false → ok l.length s → AWP P n c ⟨chg l.length s ++ keepL env ks, chB l.length s ++ keepB B kb⟩ (Then (fun _ => False) Q)) : AWP P n (.loop c) ⟨env, B⟩ Q := by
  refine AWP.loopF (X := Nat × S) (fun x => chg x.1 x.2) (fun x => chB x.1 x.2) ks kb (fun x => x.1 ≤ l.length ∧ ok x.1 x.2) (fun x => l.length - x.1) (0, s₀) hs ⟨Nat.zero_le _, h₀⟩ ?_
  rintro ⟨k, s⟩ ⟨hk, hok⟩
  simp only at hk hok ⊢
  by_cases hlt : k < l.length
  · obtain ⟨x, hx, hx', hb, _⟩ := at_lt (enc := enc) hlt
    refine (step k s x hlt hx hx' hb hok).mono ?_
    intro e σ' hq
    cases e with
    | normal => obtain ⟨s', h1, h2⟩ := hq; exact ⟨(k + 1, s'), by simp only; omega, ⟨by simp only; omega, h1⟩, h2⟩
    | exit id => exact hq
    | goto l => exact hq
    | ret => exact hq
    | panic ch => exact hq
    | outgrown => exact hq
  · have : k = l.length := by omega
    subst this
    refine (done s (by simp) hok).mono ?_
    intro e σ' hq
    cases e with
    | normal => exact hq.elim
    | exit id => exact hq
    | goto l => exact hq
    | ret => exact hq
    | panic ch => exact hq
    | outgrown => exact hq
theorem Cell.reps_get {M : Mem} {ν : Nu} : ∀ {cs : List Cell} {vs : List Value} {j : Nat} {c : Cell}, Cell.reps M ν cs vs → cs[j]? = some c → ∃ v, Cell.rep M ν c v
  | [], _, j, c, _, h => by simp at h
  | d :: cs, vs, 0, c, h, e => by
    simp only [Cell.reps] at h
    obtain ⟨v, vs', _, h1, _⟩ := h
    simp at e; subst e
    exact ⟨v, h1⟩
  | d :: cs, vs, j + 1, c, h, e => by
    simp only [Cell.reps] at h
    obtain ⟨v, vs', _, _, h2⟩ := h
    exact Cell.reps_get h2 (by simpa using e)
/-- a slice in a box is no longer than an int can tell -/
theorem AWP.lenB {c : Code} {env : Env} {B : Bx} (k j : Nat) {cs : List Cell} {sz : Nat} {rows : List (List C)} (hb : B.lookup k = some (.cells cs)) (hj : cs[j]? = some (.dat (.sl sz rows)))
    (h : rows.length ≤ 9223372036854775807 → AWP P n c ⟨env, B⟩ Q) : AWP P n c ⟨env, B⟩ Q := by
  intro κ M0 a w s
  refine h ?_ κ M0 a w s
  obtain ⟨M, ν, _, _, _, _, h5, _⟩ := s
  have := h5.res k _ (lookup_box hb)
  obtain ⟨b, c, et, _, _, hr⟩ := this
  obtain ⟨v, hv⟩ := Cell.reps_get hr hj
  simp only [Cell.rep, C.rep] at hv
  obtain ⟨_, cap, _, _, h1, h2, _⟩ := hv
  unfold maxLen at h2
  omega
end Go.Sx
set_option linter.unusedSimpArgs false
set_option linter.unusedVariables false
set_option maxRecDepth 20000
set_option maxHeartbeats 1000000
namespace Go.Proofs.YtmpfdejckbceiaaGreat
open Go Go.Sx
open Nat renaming reduceBEq → zA, reduceBNe → zB, reduceAdd → zC, reduceSub → zD, reduceMul → zE, reduceLeDiff → zF, reduceLT → zG, reduceEqDiff → zH
open Int renaming reduceToNat → zI, reduceLE → zJ, reduceLT → zK, reduceEq → zL
open Bool renaming not_eq_true' → zM, not_eq_false' → zN
/-- names -/
def uppB (b : UInt8) : Bool := decide ((65 : Int) ≤ (b.toNat : Int)) && decide ((b.toNat : Int) ≤ 90)
theorem refUpper_c (b : UInt8) : PC Tryz.prog 88 [I .u8 b.toNat] (Bo (uppB b)) := by
  refine PCB.of_body Tryz.func88 rfl (by decide) Tryz.ntmps88 Tryz.results88 rfl rfl rfl ?_ rfl rfl
  repeat' (first | (simp only [go_sem, zA, zB, zC, zD, zE, zF, zG, reduceCtorEq, zH, zI, zJ, zK, zL]; all_goals fail_if_success guard_target =ₛ False) | (with_reducible first | ((first | refine seqVC_stepN rfl ?_ | refine seqVC_stepG rfl (by with_unfolding_all rfl) ?_ | refine AWP.seq ?_ | refine AWP.seqR (by kernel_rfl) ?_); intro K hK) | ((first | refine hK _ _ _ ?_ | refine hK _ _ ?_ | refine hK _ ?_); clear hK K) | refine seqVC_nil ?_ | refine AWP.block ?_ | (refine AWP.cond (by with_unfolding_all rfl) ?_ ?_ <;> intro h <;> (try simp only [zM, zN] at h) <;> try exact absurd h (by decide)) | refine AWP.skip ?_ | refine AWP.ret ?_ | refine AWP.exit ?_ | (refine ⟨fun h => ?_, fun h => ?_⟩ <;> (try simp only [zM, zN] at h) <;> try simp only [h]) | refine Or.inl ?_) | (clear hK K))
  all_goals (refine fin0 ?_; simp only [uppB, h, Bool.true_and, Bool.false_and])
theorem isUpper_c (b : UInt8) : PC Tryz.prog 104 [I .u8 b.toNat] (Bo (uppB b)) := by
  refine PCB.of_body Tryz.func104 rfl (by decide) Tryz.ntmps104 Tryz.results104 rfl rfl rfl ?_ rfl rfl
  repeat' (first | (simp only [go_sem, zA, zB, zC, zD, zE, zF, zG, reduceCtorEq, zH, zI, zJ, zK, zL]; all_goals fail_if_success guard_target =ₛ False) | (with_reducible first | ((first | refine seqVC_stepN rfl ?_ | refine seqVC_stepG rfl (by with_unfolding_all rfl) ?_ | refine AWP.seq ?_ | refine AWP.seqR (by kernel_rfl) ?_); intro K hK) | ((first | refine hK _ _ _ ?_ | refine hK _ _ ?_ | refine hK _ ?_); clear hK K) | refine seqVC_nil ?_ | refine AWP.block ?_ | (refine AWP.cond (by with_unfolding_all rfl) ?_ ?_ <;> intro h <;> (try simp only [zM, zN] at h) <;> try exact absurd h (by decide)) | refine AWP.skip ?_ | refine AWP.ret ?_ | refine AWP.exit ?_ | (refine ⟨fun h => ?_, fun h => ?_⟩ <;> (try simp only [zM, zN] at h) <;> try simp only [h]) | refine Or.inl ?_) | (clear hK K))
  all_goals (refine fin0 ?_; simp only [uppB, h, Bool.true_and, Bool.false_and])
theorem isLower_c (b : UInt8) : PC Tryz.prog 96 [I .u8 b.toNat] (Bo (lowB b)) := by
  refine PCB.of_body Tryz.func96 rfl (by decide) Tryz.ntmps96 Tryz.results96 rfl rfl rfl ?_ rfl rfl
  repeat' (first | (simp only [go_sem, zA, zB, zC, zD, zE, zF, zG, reduceCtorEq, zH, zI, zJ, zK, zL]; all_goals fail_if_success guard_target =ₛ False) | (with_reducible first | ((first | refine seqVC_stepN rfl ?_ | refine seqVC_stepG rfl (by with_unfolding_all rfl) ?_ | refine AWP.seq ?_ | refine AWP.seqR (by kernel_rfl) ?_); intro K hK) | ((first | refine hK _ _ _ ?_ | refine hK _ _ ?_ | refine hK _ ?_); clear hK K) | refine seqVC_nil ?_ | refine AWP.block ?_ | (refine AWP.cond (by with_unfolding_all rfl) ?_ ?_ <;> intro h <;> (try simp only [zM, zN] at h) <;> try exact absurd h (by decide)) | refine AWP.skip ?_ | refine AWP.ret ?_ | refine AWP.exit ?_ | (refine ⟨fun h => ?_, fun h => ?_⟩ <;> (try simp only [zM, zN] at h) <;> try simp only [h]) | refine Or.inl ?_) | (clear hK K))
  all_goals (refine fin0 ?_; simp only [lowB, h, Bool.true_and, Bool.false_and])
theorem isDigit_c (b : UInt8) : PC Tryz.prog 98 [I .u8 b.toNat] (Bo (digB b)) := by
  refine PCB.of_body Tryz.func98 rfl (by decide) Tryz.ntmps98 Tryz.results98 rfl rfl rfl ?_ rfl rfl
  repeat' (first | (simp only [go_sem, zA, zB, zC, zD, zE, zF, zG, reduceCtorEq, zH, zI, zJ, zK, zL]; all_goals fail_if_success guard_target =ₛ False) | (with_reducible first | ((first | refine seqVC_stepN rfl ?_ | refine seqVC_stepG rfl (by with_unfolding_all rfl) ?_ | refine AWP.seq ?_ | refine AWP.seqR (by kernel_rfl) ?_); intro K hK) | ((first | refine hK _ _ _ ?_ | refine hK _ _ ?_ | refine hK _ ?_); clear hK K) | refine seqVC_nil ?_ | refine AWP.block ?_ | (refine AWP.cond (by with_unfolding_all rfl) ?_ ?_ <;> intro h <;> (try simp only [zM, zN] at h) <;> try exact absurd h (by decide)) | refine AWP.skip ?_ | refine AWP.ret ?_ | refine AWP.exit ?_ | (refine ⟨fun h => ?_, fun h => ?_⟩ <;> (try simp only [zM, zN] at h) <;> try simp only [h]) | refine Or.inl ?_) | (clear hK K))
  all_goals (refine fin0 ?_; simp only [digB, h, Bool.true_and, Bool.false_and])
theorem atomTail_c (b : UInt8) : PC Tryz.prog 97 [I .u8 b.toNat] (Bo (tailB b)) := by
  refine PCB.of_body Tryz.func97 rfl (by decide) Tryz.ntmps97 Tryz.results97 rfl rfl rfl ?_ rfl rfl
  repeat' (first | (simp only [go_sem, zA, zB, zC, zD, zE, zF, zG, reduceCtorEq, zH, zI, zJ, zK, zL]; all_goals fail_if_success guard_target =ₛ False) | (with_reducible first | ((first | refine seqVC_stepN rfl ?_ | refine seqVC_stepG rfl (by with_unfolding_all rfl) ?_ | refine AWP.seq ?_ | refine AWP.seqR (by kernel_rfl) ?_); intro K hK) | ((first | refine hK _ _ _ ?_ | refine hK _ _ ?_ | refine hK _ ?_); clear hK K) | refine seqVC_nil ?_ | refine AWP.block ?_ | (refine AWP.cond (by with_unfolding_all rfl) ?_ ?_ <;> intro h <;> (try simp only [zM, zN] at h) <;> try exact absurd h (by decide)) | refine AWP.skip ?_ | refine AWP.ret ?_ | refine AWP.exit ?_ | (refine ⟨fun h => ?_, fun h => ?_⟩ <;> (try simp only [zM, zN] at h) <;> try simp only [h]) | refine ⟨_, isLower_c _, ?_⟩ | refine ⟨_, isDigit_c _, ?_⟩ | refine Or.inl ?_) | (clear hK K))
  all_goals (refine fin0 ?_; simp only [tailB, *, Bool.true_or, Bool.false_or])
def vtailB (b : UInt8) : Bool := lowB b || (uppB b || (digB b || decide ((b.toNat : Int) = 95)))
theorem varTail_c (b : UInt8) : PC Tryz.prog 105 [I .u8 b.toNat] (Bo (vtailB b)) := by
  refine PCB.of_body Tryz.func105 rfl (by decide) Tryz.ntmps105 Tryz.results105 rfl rfl rfl ?_ rfl rfl
  repeat' (first | (simp only [go_sem, zA, zB, zC, zD, zE, zF, zG, reduceCtorEq, zH, zI, zJ, zK, zL]; all_goals fail_if_success guard_target =ₛ False) | (with_reducible first | ((first | refine seqVC_stepN rfl ?_ | refine seqVC_stepG rfl (by with_unfolding_all rfl) ?_ | refine AWP.seq ?_ | refine AWP.seqR (by kernel_rfl) ?_); intro K hK) | ((first | refine hK _ _ _ ?_ | refine hK _ _ ?_ | refine hK _ ?_); clear hK K) | refine seqVC_nil ?_ | refine AWP.block ?_ | (refine AWP.cond (by with_unfolding_all rfl) ?_ ?_ <;> intro h <;> (try simp only [zM, zN] at h) <;> try exact absurd h (by decide)) | refine AWP.skip ?_ | refine AWP.ret ?_ | refine AWP.exit ?_ | (refine ⟨fun h => ?_, fun h => ?_⟩ <;> (try simp only [zM, zN] at h) <;> try simp only [h]) | refine ⟨_, isLower_c _, ?_⟩ | refine ⟨_, isDigit_c _, ?_⟩ | refine ⟨_, isUpper_c _, ?_⟩ | refine Or.inl ?_) | (clear hK K))
  all_goals (refine fin0 ?_; simp only [vtailB, *, Bool.true_or, Bool.false_or])
def nameB (p q : UInt8 → Bool) (s : List UInt8) : Bool := !(decide ((s.length : Int) < 1) || (decide ((16 : Int) < (s.length : Int)) || !p (s.headD 0))) && (s.drop 1).all q
theorem isName_c (s : List UInt8) (g h : FuncId) (p q : UInt8 → Bool) (hg : ∀ b : UInt8, PC Tryz.prog g [I .u8 b.toNat] (Bo (p b))) (hh : ∀ b : UInt8, PC Tryz.prog h [I .u8 b.toNat] (Bo (q b))) :
    PC Tryz.prog 95 [S s, .one (.dat (.fn g)), .one (.dat (.fn h))] (Bo (nameB p q s)) := by
  refine PCB.of_body Tryz.func95 rfl (by decide) Tryz.ntmps95 Tryz.results95 rfl rfl rfl ?_ rfl rfl
  cases hl1 : decide ((s.length : Int) < 1) with
  | true =>
    repeat' (first | (simp only [go_sem, zA, zB, zC, zD, zE, zF, zG, reduceCtorEq, zH, zI, zJ, zK, zL, hl1]; all_goals fail_if_success guard_target =ₛ False) | (with_reducible first | ((first | refine seqVC_stepN rfl ?_ | refine seqVC_stepG rfl (by with_unfolding_all rfl) ?_ | refine AWP.seq ?_ | refine AWP.seqR (by kernel_rfl) ?_); intro K hK) | ((first | refine hK _ _ _ ?_ | refine hK _ _ ?_ | refine hK _ ?_); clear hK K) | refine seqVC_nil ?_ | refine AWP.block ?_ | (refine AWP.cond (by with_unfolding_all rfl) ?_ ?_ <;> intro h <;> (try simp only [zM, zN] at h) <;> try exact absurd h (by decide)) | refine AWP.skip ?_ | refine AWP.ret ?_ | refine AWP.exit ?_ | (refine ⟨fun h => ?_, fun h => ?_⟩ <;> (try simp only [zM, zN] at h) <;> try simp only [h]) | refine Or.inl ?_) | (clear hK K))
    all_goals (first | exact fun _ h => (by cases h) | refine fin0 ?_)
    all_goals simp only [nameB, hl1, Bool.true_or, Bool.not_true, Bool.false_and]
  | false =>
    have hpos : 0 < s.length := by simp only [decide_eq_false_iff_not] at hl1; omega
    obtain ⟨b, hb0⟩ : ∃ b, s[0]? = some b := ⟨s[0], by simp [hpos]⟩
    have hhd : s.headD 0 = b := by cases s <;> simp at hb0 hpos ⊢; exact hb0
    cases hlong : decide ((16 : Int) < (s.length : Int)) with
    | true =>
      repeat' (first | (simp only [go_sem, zA, zB, zC, zD, zE, zF, zG, reduceCtorEq, zH, zI, zJ, zK, zL, hl1, hlong]; all_goals fail_if_success guard_target =ₛ False) | (with_reducible first | ((first | refine seqVC_stepN rfl ?_ | refine seqVC_stepG rfl (by with_unfolding_all rfl) ?_ | refine AWP.seq ?_ | refine AWP.seqR (by kernel_rfl) ?_); intro K hK) | ((first | refine hK _ _ _ ?_ | refine hK _ _ ?_ | refine hK _ ?_); clear hK K) | refine seqVC_nil ?_ | refine AWP.block ?_ | (refine AWP.cond (by with_unfolding_all rfl) ?_ ?_ <;> intro h <;> (try simp only [zM, zN] at h) <;> try exact absurd h (by decide)) | refine AWP.skip ?_ | refine AWP.ret ?_ | refine AWP.exit ?_ | (refine ⟨fun h => ?_, fun h => ?_⟩ <;> (try simp only [zM, zN] at h) <;> try simp only [h]) | refine Or.inl ?_) | (clear hK K))
      all_goals (first | exact fun _ h => (by cases h) | refine fin0 ?_)
      all_goals simp only [nameB, hlong, Bool.true_or, Bool.or_true, Bool.not_true, Bool.false_and]
    | false =>
      have hlen : s.length ≤ 9223372036854775807 := by simp only [decide_eq_false_iff_not] at hlong; omega
      cases hlow : p b with
      | false =>
        repeat' (first | (simp only [go_sem, zA, zB, zC, zD, zE, zF, zG, reduceCtorEq, zH, zI, zJ, zK, zL, hl1, hlong, hlow]; all_goals fail_if_success guard_target =ₛ False) | (with_reducible first | ((first | refine seqVC_stepN rfl ?_ | refine seqVC_stepG rfl (by with_unfolding_all rfl) ?_ | refine AWP.seq ?_ | refine AWP.seqR (by kernel_rfl) ?_); intro K hK) | ((first | refine hK _ _ _ ?_ | refine hK _ _ ?_ | refine hK _ ?_); clear hK K) | refine seqVC_nil ?_ | refine AWP.block ?_ | (refine AWP.cond (by with_unfolding_all rfl) ?_ ?_ <;> intro h <;> (try simp only [zM, zN] at h) <;> try exact absurd h (by decide)) | refine AWP.skip ?_ | refine AWP.ret ?_ | refine AWP.exit ?_ | (refine ⟨fun h => ?_, fun h => ?_⟩ <;> (try simp only [zM, zN] at h) <;> try simp only [h]) | refine ⟨_, hg b, ?_⟩ | refine ⟨by omega, b, hb0, ?_⟩ | refine ⟨b, hb0, ?_⟩ | refine Or.inl ?_) | (clear hK K))
        all_goals (first | exact fun _ h => (by cases h) | refine fin0 ?_)
        all_goals simp only [nameB, hl1, hlong, hhd, hlow, Bool.false_or, Bool.not_false, Bool.not_true, Bool.false_and]
      | true =>
        have hmod : nameB p q s = (s.drop 1).all q := by simp only [nameB, hl1, hlong, hhd, hlow, Bool.not_true, Bool.false_or, Bool.not_false, Bool.true_and]
        repeat' (first | (simp only [go_sem, zA, zB, zC, zD, zE, zF, zG, reduceCtorEq, zH, zI, zJ, zK, zL, hl1, hlong, hlow]; all_goals fail_if_success guard_target =ₛ False) | (with_reducible first | ((first | refine seqVC_stepN rfl ?_ | refine seqVC_stepG rfl (by with_unfolding_all rfl) ?_ | refine AWP.seq ?_ | refine AWP.seqR (by kernel_rfl) ?_); intro K hK) | ((first | refine hK _ _ _ ?_ | refine hK _ _ ?_ | refine hK _ ?_); clear hK K) | refine seqVC_nil ?_ | refine AWP.block ?_ | (refine AWP.cond (by with_unfolding_all rfl) ?_ ?_ <;> intro h <;> (try simp only [zM, zN] at h) <;> try exact absurd h (by decide)) | refine AWP.skip ?_ | refine AWP.ret ?_ | refine AWP.exit ?_ | (refine ⟨fun h => ?_, fun h => ?_⟩ <;> (try simp only [zM, zN] at h) <;> try simp only [h]) | refine ⟨_, hg b, ?_⟩ | refine ⟨by omega, b, hb0, ?_⟩ | refine ⟨b, hb0, ?_⟩ | refine Or.inl ?_) | (clear hK K))
        refine AWP.loopF (X := Nat) (fun k => [(7, I .i64 k)]) (fun k => []) [0, 2] [] (fun k => 1 ≤ k ∧ k ≤ s.length ∧ (s.drop 1).all q = (s.drop k).all q) (fun k => s.length - k) (1) (by simp only [go_sem, zA, zB, zC, zD, zE, zF, zG, reduceCtorEq, zH, zI, zJ, zK, zL]; exact Gh.to [] (by repeat (first | exact trivial | refine ⟨rfl, ?_⟩ | refine ⟨by (simp only [go_sem, zA, zB, zC, zD, zE, zF, zG, reduceCtorEq, zH, zI, zJ, zK, zL, List.length_append, List.length_map, List.length_cons, List.length_nil, Nat.zero_add]) <;> rfl, ?_⟩)) (by repeat (first | exact trivial | refine ⟨rfl, ?_⟩ | refine ⟨by (simp only [go_sem, zA, zB, zC, zD, zE, zF, zG, reduceCtorEq, zH, zI, zJ, zK, zL, List.length_append, List.length_map, List.length_cons, List.length_nil, Nat.zero_add]) <;> rfl, ?_⟩)) rfl rfl rfl) ?_ ?_
        · exact ⟨Nat.le_refl _, by omega, rfl⟩
        rintro k ⟨hk1, hk, hp⟩
        simp only [go_sem, zA, zB, zC, zD, zE, zF, zG, reduceCtorEq, zH, zI, zJ, zK, zL]
        by_cases hlt : k < s.length
        · have hdrop := List.drop_eq_getElem_cons hlt
          have hd : s[k]? = some s[k] := List.getElem?_eq_getElem hlt
          have hbt : decide ((k : Int) < (s.length : Int)) = true := by simpa using hlt
          generalize s[k] = d at hd hdrop
          rw [hdrop, List.all_cons] at hp
          cases hq : q d
          all_goals simp only [hq, Bool.true_and, Bool.false_and] at hp
          repeat' (first | (simp only [go_sem, zA, zB, zC, zD, zE, zF, zG, reduceCtorEq, zH, zI, zJ, zK, zL, hbt, hq]; all_goals fail_if_success guard_target =ₛ False) | (with_reducible first | ((first | refine seqVC_stepN rfl ?_ | refine seqVC_stepG rfl (by with_unfolding_all rfl) ?_ | refine AWP.seq ?_ | refine AWP.seqR (by kernel_rfl) ?_); intro K hK) | ((first | refine hK _ _ _ ?_ | refine hK _ _ ?_ | refine hK _ ?_); clear hK K) | refine seqVC_nil ?_ | refine AWP.block ?_ | (refine AWP.cond (by with_unfolding_all rfl) ?_ ?_ <;> intro h <;> (try simp only [zM, zN] at h) <;> try exact absurd h (by decide)) | refine AWP.skip ?_ | refine AWP.ret ?_ | refine AWP.exit ?_ | (refine ⟨fun h => ?_, fun h => ?_⟩ <;> (try simp only [zM, zN] at h) <;> try simp only [h]) | refine ⟨_, hh d, ?_⟩ | refine ⟨by omega, d, hd, ?_⟩ | refine ⟨d, hd, ?_⟩ | refine Or.inl ?_) | (clear hK K))
          all_goals first
            | (refine fin0 ?_; rw [hmod, hp])
            | (rw [wrap_succ hlt hlen]; refine ⟨k + 1, by omega, ⟨by omega, by omega, hp⟩, Gh.to [] (by repeat (first | exact trivial | refine ⟨rfl, ?_⟩ | refine ⟨by (simp only [go_sem, zA, zB, zC, zD, zE, zF, zG, reduceCtorEq, zH, zI, zJ, zK, zL, List.length_append, List.length_map, List.length_cons, List.length_nil, Nat.zero_add]) <;> rfl, ?_⟩)) (by repeat (first | exact trivial | refine ⟨rfl, ?_⟩ | refine ⟨by (simp only [go_sem, zA, zB, zC, zD, zE, zF, zG, reduceCtorEq, zH, zI, zJ, zK, zL, List.length_append, List.length_map, List.length_cons, List.length_nil, Nat.zero_add]) <;> rfl, ?_⟩)) rfl rfl rfl⟩)
        · have hbt : decide ((k : Int) < (s.length : Int)) = false := by simpa using hlt
          rw [show s.drop k = [] from List.drop_eq_nil_of_le (by omega)] at hp
          repeat' (first | (simp only [go_sem, zA, zB, zC, zD, zE, zF, zG, reduceCtorEq, zH, zI, zJ, zK, zL, hbt]; all_goals fail_if_success guard_target =ₛ False) | (with_reducible first | ((first | refine seqVC_stepN rfl ?_ | refine seqVC_stepG rfl (by with_unfolding_all rfl) ?_ | refine AWP.seq ?_ | refine AWP.seqR (by kernel_rfl) ?_); intro K hK) | ((first | refine hK _ _ _ ?_ | refine hK _ _ ?_ | refine hK _ ?_); clear hK K) | refine seqVC_nil ?_ | refine AWP.block ?_ | (refine AWP.cond (by with_unfolding_all rfl) ?_ ?_ <;> intro h <;> (try simp only [zM, zN] at h) <;> try exact absurd h (by decide)) | refine AWP.skip ?_ | refine AWP.ret ?_ | refine AWP.exit ?_ | (refine ⟨fun h => ?_, fun h => ?_⟩ <;> (try simp only [zM, zN] at h) <;> try simp only [h]) | refine Or.inl ?_) | (clear hK K))
          all_goals (refine fin0 ?_; rw [hmod, hp]; rfl)
theorem identIsAtom_c (s : List UInt8) : PC Tryz.prog 84 [S s] (Bo (isAtomB s)) := by
  have h := isName_c s 96 97 lowB tailB isLower_c atomTail_c
  refine PCB.of_body Tryz.func84 rfl (by decide) Tryz.ntmps84 Tryz.results84 rfl rfl rfl ?_ rfl rfl
  repeat' (first | (simp only [go_sem, zA, zB, zC, zD, zE, zF, zG, reduceCtorEq, zH, zI, zJ, zK, zL]; all_goals fail_if_success guard_target =ₛ False) | (with_reducible first | ((first | refine seqVC_stepN rfl ?_ | refine AWP.seq ?_ | refine AWP.seqR (by kernel_rfl) ?_); intro K hK) | ((first | refine hK _ _ _ ?_ | refine hK _ _ ?_ | refine hK _ ?_); clear hK K) | refine seqVC_nil ?_ | refine AWP.block ?_ | (refine AWP.cond (by with_unfolding_all rfl) ?_ ?_ <;> intro h <;> (try simp only [zM, zN] at h) <;> try exact absurd h (by decide)) | refine AWP.skip ?_ | refine AWP.ret ?_ | refine AWP.exit ?_ | refine ⟨_, h, ?_⟩ | refine Or.inl ?_) | (clear hK K))
  all_goals (first | exact fun _ h => (by cases h) | refine fin0 ?_)
  all_goals rfl
def isVarB (s : List UInt8) : Bool := nameB uppB vtailB s
theorem identIsVariable_c (s : List UInt8) : PC Tryz.prog 94 [S s] (Bo (isVarB s)) := by
  have h := isName_c s 104 105 uppB vtailB isUpper_c varTail_c
  refine PCB.of_body Tryz.func94 rfl (by decide) Tryz.ntmps94 Tryz.results94 rfl rfl rfl ?_ rfl rfl
  repeat' (first | (simp only [go_sem, zA, zB, zC, zD, zE, zF, zG, reduceCtorEq, zH, zI, zJ, zK, zL]; all_goals fail_if_success guard_target =ₛ False) | (with_reducible first | ((first | refine seqVC_stepN rfl ?_ | refine AWP.seq ?_ | refine AWP.seqR (by kernel_rfl) ?_); intro K hK) | ((first | refine hK _ _ _ ?_ | refine hK _ _ ?_ | refine hK _ ?_); clear hK K) | refine seqVC_nil ?_ | refine AWP.block ?_ | (refine AWP.cond (by with_unfolding_all rfl) ?_ ?_ <;> intro h <;> (try simp only [zM, zN] at h) <;> try exact absurd h (by decide)) | refine AWP.skip ?_ | refine AWP.ret ?_ | refine AWP.exit ?_ | refine ⟨_, h, ?_⟩ | refine Or.inl ?_) | (clear hK K))
  all_goals (first | exact fun _ h => (by cases h) | refine fin0 ?_)
  all_goals rfl
theorem identValidKey_c (k : KeyD) : PC Tryz.prog 100 [.st (encKey k)] (Bo (validKeyB k)) := by
  refine PCB.of_body Tryz.func100 rfl (by decide) Tryz.ntmps100 Tryz.results100 rfl rfl rfl ?_ rfl rfl
  cases h0 : decide (k.kind = 0) <;> cases h1 : decide (k.kind = 1)
  · 
    repeat' (first | (simp only [go_sem, zA, zB, zC, zD, zE, zF, zG, reduceCtorEq, zH, zI, zJ, zK, zL, encKey, h0, h1]; all_goals fail_if_success guard_target =ₛ False) | (with_reducible first | ((first | refine seqVC_stepN rfl ?_ | refine AWP.seq ?_ | refine AWP.seqR (by kernel_rfl) ?_); intro K hK) | ((first | refine hK _ _ _ ?_ | refine hK _ _ ?_ | refine hK _ ?_); clear hK K) | refine seqVC_nil ?_ | refine AWP.block ?_ | (refine AWP.cond (by with_unfolding_all rfl) ?_ ?_ <;> intro h <;> (try simp only [zM, zN] at h) <;> try exact absurd h (by decide)) | refine AWP.skip ?_ | refine AWP.ret ?_ | refine AWP.exit ?_ | refine ⟨_, identIsAtom_c _, ?_⟩ | refine Or.inl ?_) | (clear hK K))
    all_goals (refine fin0 ?_; simp only [validKeyB, h0, h1, Bool.true_and, Bool.false_and, Bool.or_false, Bool.false_or])
  · 
    repeat' (first | (simp only [go_sem, zA, zB, zC, zD, zE, zF, zG, reduceCtorEq, zH, zI, zJ, zK, zL, encKey, h0, h1]; all_goals fail_if_success guard_target =ₛ False) | (with_reducible first | ((first | refine seqVC_stepN rfl ?_ | refine AWP.seq ?_ | refine AWP.seqR (by kernel_rfl) ?_); intro K hK) | ((first | refine hK _ _ _ ?_ | refine hK _ _ ?_ | refine hK _ ?_); clear hK K) | refine seqVC_nil ?_ | refine AWP.block ?_ | (refine AWP.cond (by with_unfolding_all rfl) ?_ ?_ <;> intro h <;> (try simp only [zM, zN] at h) <;> try exact absurd h (by decide)) | refine AWP.skip ?_ | refine AWP.ret ?_ | refine AWP.exit ?_ | refine ⟨_, identIsAtom_c _, ?_⟩ | refine Or.inl ?_) | (clear hK K))
    all_goals (refine fin0 ?_; simp only [validKeyB, h0, h1, Bool.true_and, Bool.false_and, Bool.or_false, Bool.false_or])
  · 
    repeat' (first | (simp only [go_sem, zA, zB, zC, zD, zE, zF, zG, reduceCtorEq, zH, zI, zJ, zK, zL, encKey, h0, h1]; all_goals fail_if_success guard_target =ₛ False) | (with_reducible first | ((first | refine seqVC_stepN rfl ?_ | refine AWP.seq ?_ | refine AWP.seqR (by kernel_rfl) ?_); intro K hK) | ((first | refine hK _ _ _ ?_ | refine hK _ _ ?_ | refine hK _ ?_); clear hK K) | refine seqVC_nil ?_ | refine AWP.block ?_ | (refine AWP.cond (by with_unfolding_all rfl) ?_ ?_ <;> intro h <;> (try simp only [zM, zN] at h) <;> try exact absurd h (by decide)) | refine AWP.skip ?_ | refine AWP.ret ?_ | refine AWP.exit ?_ | refine ⟨_, identIsAtom_c _, ?_⟩ | refine Or.inl ?_) | (clear hK K))
    all_goals (refine fin0 ?_; simp only [validKeyB, h0, h1, Bool.true_and, Bool.false_and, Bool.or_false, Bool.false_or])
  · exfalso
    simp only [decide_eq_true_eq] at h0 h1
    omega
theorem refIsVariable_c (s : List UInt8) : PC Tryz.prog 68 [S s] (Bo (isVarB s)) := by
  refine PCB.of_body Tryz.func68 rfl (by decide) Tryz.ntmps68 Tryz.results68 rfl rfl rfl ?_ rfl rfl
  cases hl1 : decide ((s.length : Int) < 1) with
  | true =>
    repeat' (first | (simp only [go_sem, zA, zB, zC, zD, zE, zF, zG, reduceCtorEq, zH, zI, zJ, zK, zL, hl1]; all_goals fail_if_success guard_target =ₛ False) | (with_reducible first | ((first | refine seqVC_stepN rfl ?_ | refine seqVC_stepG rfl (by with_unfolding_all rfl) ?_ | refine AWP.seq ?_ | refine AWP.seqR (by kernel_rfl) ?_); intro K hK) | ((first | refine hK _ _ _ ?_ | refine hK _ _ ?_ | refine hK _ ?_); clear hK K) | refine seqVC_nil ?_ | refine AWP.block ?_ | (refine AWP.cond (by with_unfolding_all rfl) ?_ ?_ <;> intro h <;> (try simp only [zM, zN] at h) <;> try exact absurd h (by decide)) | refine AWP.skip ?_ | refine AWP.ret ?_ | refine AWP.exit ?_ | (refine ⟨fun h => ?_, fun h => ?_⟩ <;> (try simp only [zM, zN] at h) <;> try simp only [h]) | refine Or.inl ?_) | (clear hK K))
    all_goals (first | exact fun _ h => (by cases h) | refine fin0 ?_)
    all_goals simp only [isVarB, nameB, hl1, Bool.true_or, Bool.not_true, Bool.false_and]
  | false =>
    have hpos : 0 < s.length := by simp only [decide_eq_false_iff_not] at hl1; omega
    obtain ⟨b, hb0⟩ : ∃ b, s[0]? = some b := ⟨s[0], by simp [hpos]⟩
    have hhd : s.headD 0 = b := by cases s <;> simp at hb0 hpos ⊢; exact hb0
    cases hlong : decide ((16 : Int) < (s.length : Int)) with
    | true =>
      repeat' (first | (simp only [go_sem, zA, zB, zC, zD, zE, zF, zG, reduceCtorEq, zH, zI, zJ, zK, zL, hl1, hlong]; all_goals fail_if_success guard_target =ₛ False) | (with_reducible first | ((first | refine seqVC_stepN rfl ?_ | refine seqVC_stepG rfl (by with_unfolding_all rfl) ?_ | refine AWP.seq ?_ | refine AWP.seqR (by kernel_rfl) ?_); intro K hK) | ((first | refine hK _ _ _ ?_ | refine hK _ _ ?_ | refine hK _ ?_); clear hK K) | refine seqVC_nil ?_ | refine AWP.block ?_ | (refine AWP.cond (by with_unfolding_all rfl) ?_ ?_ <;> intro h <;> (try simp only [zM, zN] at h) <;> try exact absurd h (by decide)) | refine AWP.skip ?_ | refine AWP.ret ?_ | refine AWP.exit ?_ | (refine ⟨fun h => ?_, fun h => ?_⟩ <;> (try simp only [zM, zN] at h) <;> try simp only [h]) | refine Or.inl ?_) | (clear hK K))
      all_goals (first | exact fun _ h => (by cases h) | refine fin0 ?_)
      all_goals simp only [isVarB, nameB, hlong, Bool.true_or, Bool.or_true, Bool.not_true, Bool.false_and]
    | false =>
      have hlen : s.length ≤ 9223372036854775807 := by simp only [decide_eq_false_iff_not] at hlong; omega
      cases hlow : uppB b with
      | false =>
        repeat' (first | (simp only [go_sem, zA, zB, zC, zD, zE, zF, zG, reduceCtorEq, zH, zI, zJ, zK, zL, hl1, hlong, hlow]; all_goals fail_if_success guard_target =ₛ False) | (with_reducible first | ((first | refine seqVC_stepN rfl ?_ | refine seqVC_stepG rfl (by with_unfolding_all rfl) ?_ | refine AWP.seq ?_ | refine AWP.seqR (by kernel_rfl) ?_); intro K hK) | ((first | refine hK _ _ _ ?_ | refine hK _ _ ?_ | refine hK _ ?_); clear hK K) | refine seqVC_nil ?_ | refine AWP.block ?_ | (refine AWP.cond (by with_unfolding_all rfl) ?_ ?_ <;> intro h <;> (try simp only [zM, zN] at h) <;> try exact absurd h (by decide)) | refine AWP.skip ?_ | refine AWP.ret ?_ | refine AWP.exit ?_ | (refine ⟨fun h => ?_, fun h => ?_⟩ <;> (try simp only [zM, zN] at h) <;> try simp only [h]) | refine ⟨_, refUpper_c b, ?_⟩ | refine ⟨by omega, b, hb0, ?_⟩ | refine ⟨b, hb0, ?_⟩ | refine Or.inl ?_) | (clear hK K))
        all_goals (first | exact fun _ h => (by cases h) | refine fin0 ?_)
        all_goals simp only [isVarB, nameB, hl1, hlong, hhd, hlow, Bool.false_or, Bool.not_false, Bool.not_true, Bool.false_and]
      | true =>
        have hmod : isVarB s = (s.drop 1).all vtailB := by simp only [isVarB, nameB, hl1, hlong, hhd, hlow, Bool.not_true, Bool.false_or, Bool.not_false, Bool.true_and]
        repeat' (first | (simp only [go_sem, zA, zB, zC, zD, zE, zF, zG, reduceCtorEq, zH, zI, zJ, zK, zL, hl1, hlong, hlow]; all_goals fail_if_success guard_target =ₛ False) | (with_reducible first | ((first | refine seqVC_stepN rfl ?_ | refine seqVC_stepG rfl (by with_unfolding_all rfl) ?_ | refine AWP.seq ?_ | refine AWP.seqR (by kernel_rfl) ?_); intro K hK) | ((first | refine hK _ _ _ ?_ | refine hK _ _ ?_ | refine hK _ ?_); clear hK K) | refine seqVC_nil ?_ | refine AWP.block ?_ | (refine AWP.cond (by with_unfolding_all rfl) ?_ ?_ <;> intro h <;> (try simp only [zM, zN] at h) <;> try exact absurd h (by decide)) | refine AWP.skip ?_ | refine AWP.ret ?_ | refine AWP.exit ?_ | (refine ⟨fun h => ?_, fun h => ?_⟩ <;> (try simp only [zM, zN] at h) <;> try simp only [h]) | refine ⟨_, refUpper_c b, ?_⟩ | refine ⟨by omega, b, hb0, ?_⟩ | refine ⟨b, hb0, ?_⟩ | refine Or.inl ?_) | (clear hK K))
        refine AWP.loopF (X := Nat) (fun k => [(3, I .i64 k)]) (fun k => []) [0] [] (fun k => 1 ≤ k ∧ k ≤ s.length ∧ (s.drop 1).all vtailB = (s.drop k).all vtailB) (fun k => s.length - k) (1) (by simp only [go_sem, zA, zB, zC, zD, zE, zF, zG, reduceCtorEq, zH, zI, zJ, zK, zL]; exact Gh.to [] (by repeat (first | exact trivial | refine ⟨rfl, ?_⟩ | refine ⟨by (simp only [go_sem, zA, zB, zC, zD, zE, zF, zG, reduceCtorEq, zH, zI, zJ, zK, zL, List.length_append, List.length_map, List.length_cons, List.length_nil, Nat.zero_add]) <;> rfl, ?_⟩)) (by repeat (first | exact trivial | refine ⟨rfl, ?_⟩ | refine ⟨by (simp only [go_sem, zA, zB, zC, zD, zE, zF, zG, reduceCtorEq, zH, zI, zJ, zK, zL, List.length_append, List.length_map, List.length_cons, List.length_nil, Nat.zero_add]) <;> rfl, ?_⟩)) rfl rfl rfl) ?_ ?_
        · exact ⟨Nat.le_refl _, by omega, rfl⟩
        rintro k ⟨hk1, hk, hp⟩
        simp only [go_sem, zA, zB, zC, zD, zE, zF, zG, reduceCtorEq, zH, zI, zJ, zK, zL]
        by_cases hlt : k < s.length
        · have hdrop := List.drop_eq_getElem_cons hlt
          have hd : s[k]? = some s[k] := List.getElem?_eq_getElem hlt
          have hbt : decide ((k : Int) < (s.length : Int)) = true := by simpa using hlt
          generalize s[k] = d at hd hdrop
          rw [hdrop, List.all_cons] at hp
          cases ht1 : lowB d <;> cases ht4 : uppB d <;> cases ht2 : digB d <;> cases ht3 : decide ((d.toNat : Int) = 95)
          all_goals simp only [vtailB, ht1, ht2, ht3, ht4, Bool.or_true, Bool.or_false, Bool.true_or, Bool.true_and, Bool.false_and] at hp
          repeat' (first | (simp only [go_sem, zA, zB, zC, zD, zE, zF, zG, reduceCtorEq, zH, zI, zJ, zK, zL, hbt, ht1, ht2, ht3, ht4]; all_goals fail_if_success guard_target =ₛ False) | (with_reducible first | ((first | refine seqVC_stepN rfl ?_ | refine seqVC_stepG rfl (by with_unfolding_all rfl) ?_ | refine AWP.seq ?_ | refine AWP.seqR (by kernel_rfl) ?_); intro K hK) | ((first | refine hK _ _ _ ?_ | refine hK _ _ ?_ | refine hK _ ?_); clear hK K) | refine seqVC_nil ?_ | refine AWP.block ?_ | (refine AWP.cond (by with_unfolding_all rfl) ?_ ?_ <;> intro h <;> (try simp only [zM, zN] at h) <;> try exact absurd h (by decide)) | refine AWP.skip ?_ | refine AWP.ret ?_ | refine AWP.exit ?_ | (refine ⟨fun h => ?_, fun h => ?_⟩ <;> (try simp only [zM, zN] at h) <;> try simp only [h]) | refine ⟨_, lower_c d, ?_⟩ | refine ⟨_, digit_c d, ?_⟩ | refine ⟨_, refUpper_c d, ?_⟩ | refine ⟨by omega, d, hd, ?_⟩ | refine ⟨d, hd, ?_⟩ | refine Or.inl ?_) | (clear hK K))
          all_goals first
            | (refine fin0 ?_; rw [hmod, hp])
            | (rw [wrap_succ hlt hlen]; refine ⟨k + 1, by omega, ⟨by omega, by omega, hp⟩, Gh.to [] (by repeat (first | exact trivial | refine ⟨rfl, ?_⟩ | refine ⟨by (simp only [go_sem, zA, zB, zC, zD, zE, zF, zG, reduceCtorEq, zH, zI, zJ, zK, zL, List.length_append, List.length_map, List.length_cons, List.length_nil, Nat.zero_add]) <;> rfl, ?_⟩)) (by repeat (first | exact trivial | refine ⟨rfl, ?_⟩ | refine ⟨by (simp only [go_sem, zA, zB, zC, zD, zE, zF, zG, reduceCtorEq, zH, zI, zJ, zK, zL, List.length_append, List.length_map, List.length_cons, List.length_nil, Nat.zero_add]) <;> rfl, ?_⟩)) rfl rfl rfl⟩)
        · have hbt : decide ((k : Int) < (s.length : Int)) = false := by simpa using hlt
          rw [show s.drop k = [] from List.drop_eq_nil_of_le (by omega)] at hp
          repeat' (first | (simp only [go_sem, zA, zB, zC, zD, zE, zF, zG, reduceCtorEq, zH, zI, zJ, zK, zL, hbt]; all_goals fail_if_success guard_target =ₛ False) | (with_reducible first | ((first | refine seqVC_stepN rfl ?_ | refine seqVC_stepG rfl (by with_unfolding_all rfl) ?_ | refine AWP.seq ?_ | refine AWP.seqR (by kernel_rfl) ?_); intro K hK) | ((first | refine hK _ _ _ ?_ | refine hK _ _ ?_ | refine hK _ ?_); clear hK K) | refine seqVC_nil ?_ | refine AWP.block ?_ | (refine AWP.cond (by with_unfolding_all rfl) ?_ ?_ <;> intro h <;> (try simp only [zM, zN] at h) <;> try exact absurd h (by decide)) | refine AWP.skip ?_ | refine AWP.ret ?_ | refine AWP.exit ?_ | (refine ⟨fun h => ?_, fun h => ?_⟩ <;> (try simp only [zM, zN] at h) <;> try simp only [h]) | refine Or.inl ?_) | (clear hK K))
          all_goals (refine fin0 ?_; rw [hmod, hp]; rfl)
structure PutA where
  keys : List KeyD
  kids : List Dat
  placed : Bool
def putStep (k : KeyD) (d : Dat) (a : PutA) (x : KeyD × Dat) : PutA :=
  let b : PutA := bif decide (keyCmp k x.1 ≤ 0) && !a.placed then ⟨a.keys ++ [k], a.kids ++ [d], true⟩ else a
  bif !decide (keyCmp k x.1 = 0) then ⟨b.keys ++ [x.1], b.kids ++ [x.2], b.placed⟩ else b
def putEnd (k : KeyD) (d : Dat) (a : PutA) : PutA := bif !a.placed then ⟨a.keys ++ [k], a.kids ++ [d], true⟩ else a
def mapDat (a : PutA) : Dat := { zeroDat with kind := 8, kids := a.kids, keys := a.keys }
def putBad (m : Dat) (k : KeyD) : Bool := !decide (m.kind = 8) || (!validKeyB k || !decide ((m.keys.length : Int) = (m.kids.length : Int)))
def putR (m : Dat) (k : KeyD) (d : Dat) : Dat × Bool := bif putBad m k then (zeroDat, false) else (mapDat (putEnd k d ((m.keys.zip m.kids).foldl (putStep k d) ⟨[], [], false⟩)), true)
abbrev Kr (n : Nat) (l : List KeyD) : Nat × Res := (n, .row 2 (l.map encKey))
abbrev Dr (n : Nat) (l : List Dat) : Nat × Res := (n, .row 13 (l.map encDat))
/-- a datum under way -/
abbrev outB (kn dn : Nat) (a : PutA) : Res := .cells [.dat (.int .i64 8), .dat (.int .i64 0), .dat (.str []), .own dn a.kids.length, .own kn a.keys.length, .dat (.str []), .dat (.int .i64 0), .dat (.int .i64 0), .dat (.bool false), .dat (.nil 8), .dat (.int .i64 0), .dat (.str []), .dat (.str [])]
abbrev zeroB : Res := .cells [.dat (.int .i64 0), .dat (.int .i64 0), .dat (.str []), .dat (.nil 13), .dat (.nil 2), .dat (.str []), .dat (.int .i64 0), .dat (.int .i64 0), .dat (.bool false), .dat (.nil 8), .dat (.int .i64 0), .dat (.str []), .dat (.str [])]
theorem key_snoc (l : List KeyD) (x : KeyD) : l.map encKey ++ [encKey x] = (l ++ [x]).map encKey := by simp
theorem dat_snoc (l : List Dat) (x : Dat) : l.map encDat ++ [encDat x] = (l ++ [x]).map encDat := by simp
theorem put_c (m : Dat) (k : KeyD) (d : Dat) (hm : m.kids.length ≤ 1000000) : PC Tryz.prog 22 [Dt m, .st (encKey k), Dt d] (.tup [Dt (putR m k d).1, Bo (putR m k d).2]) := by
  refine PCB.of_body Tryz.func22 rfl (by decide) Tryz.ntmps22 Tryz.results22 rfl rfl rfl ?_ rfl rfl
  refine AWP.ghQ ?_
  cases hbad : putBad m k with
  | true =>
    cases h8 : decide (m.kind = 8) <;> cases hv : validKeyB k <;> cases hl : decide ((m.keys.length : Int) = (m.kids.length : Int))
    all_goals first
      | (exfalso; simp only [putBad, h8, hv, hl, Bool.not_true, Bool.or_false] at hbad; exact Bool.false_ne_true hbad)
      | skip
    repeat' (first | (simp only [go_sem, zA, zB, zC, zD, zE, zF, zG, reduceCtorEq, zH, zI, zJ, zK, zL, List.length_map, h8, hv, hl]; all_goals fail_if_success guard_target =ₛ False) | (with_reducible first | ((first | refine seqVC_stepN rfl ?_ | refine seqVC_stepG rfl (by with_unfolding_all rfl) ?_ | refine AWP.seq ?_ | refine AWP.seqR (by kernel_rfl) ?_ | refine parVC_stepN rfl ?_ | refine parVC_stepG rfl (by with_unfolding_all rfl) ?_ | refine parEVC_stepN rfl ?_ | refine parEVC_stepG rfl (by with_unfolding_all rfl) ?_ | refine genVC_stepN rfl ?_ | refine genVC_stepG rfl (by with_unfolding_all rfl) ?_); intro K hK) | ((first | refine hK _ _ _ ?_ | refine hK _ _ ?_ | refine hK _ ?_); clear hK K) | refine seqVC_nil ?_ | refine parVC_nil ?_ | refine parEVC_nil ?_ | refine genVC_nil ?_ | refine AWP.block ?_ | (refine AWP.cond (by with_unfolding_all rfl) ?_ ?_ <;> intro h <;> (try simp only [zM, zN] at h) <;> try exact absurd h (by decide)) | refine AWP.skip ?_ | refine AWP.ret ?_ | refine AWP.exit ?_ | (refine ⟨fun h => ?_, fun h => ?_⟩ <;> (try simp only [zM, zN] at h) <;> try simp only [h]) | refine ⟨_, validKey_c k, ?_⟩ | (refine AWP.segP (id := 15) 8 mixed (by kernel_rfl) fun K hK => ?_; simp only [List.take_succ_cons, List.take_zero, List.drop_succ_cons, List.drop_zero]) | refine AWP.parR mixed (by kernel_rfl) fun K hK => ?_ | refine ⟨(by kernel_rfl : depB _ _ _ = true), ?_⟩ | refine Or.inl ?_) | (clear hK K))
    all_goals (refine ⟨_, Gh.refl _, ?_⟩)
    all_goals simp only [go_sem, zA, zB, zC, zD, zE, zF, zG, reduceCtorEq, zH, zI, zJ, zK, zL]
    all_goals (refine fin0 ?_; simp only [putR, hbad, cond_true]; rfl)
  | false =>
    have hR : putR m k d = (mapDat (putEnd k d ((m.keys.zip m.kids).foldl (putStep k d) ⟨[], [], false⟩)), true) := by simp only [putR, hbad, cond_false]
    simp only [putBad, Bool.or_eq_false_iff, Bool.not_eq_false'] at hbad
    obtain ⟨h8, hv, hl⟩ := hbad
    have hlk : m.keys.length = m.kids.length := by simp only [decide_eq_true_eq] at hl; omega
    rw [hR]
    repeat' (first | (simp only [go_sem, zA, zB, zC, zD, zE, zF, zG, reduceCtorEq, zH, zI, zJ, zK, zL, List.length_map, h8, hv, hl]; all_goals fail_if_success guard_target =ₛ False) | (with_reducible first | ((first | refine seqVC_stepN rfl ?_ | refine seqVC_stepG rfl (by with_unfolding_all rfl) ?_ | refine AWP.seq ?_ | refine AWP.seqR (by kernel_rfl) ?_ | refine parVC_stepN rfl ?_ | refine parVC_stepG rfl (by with_unfolding_all rfl) ?_ | refine parEVC_stepN rfl ?_ | refine parEVC_stepG rfl (by with_unfolding_all rfl) ?_ | refine genVC_stepN rfl ?_ | refine genVC_stepG rfl (by with_unfolding_all rfl) ?_); intro K hK) | ((first | refine hK _ _ _ ?_ | refine hK _ _ ?_ | refine hK _ ?_); clear hK K) | refine seqVC_nil ?_ | refine parVC_nil ?_ | refine parEVC_nil ?_ | refine genVC_nil ?_ | refine AWP.block ?_ | (refine AWP.cond (by with_unfolding_all rfl) ?_ ?_ <;> intro h <;> (try simp only [zM, zN] at h) <;> try exact absurd h (by decide)) | refine AWP.skip ?_ | refine AWP.ret ?_ | refine AWP.exit ?_ | (refine ⟨fun h => ?_, fun h => ?_⟩ <;> (try simp only [zM, zN] at h) <;> try simp only [h]) | refine ⟨_, validKey_c k, ?_⟩ | (refine AWP.segP (id := 15) 8 mixed (by kernel_rfl) fun K hK => ?_; simp only [List.take_succ_cons, List.take_zero, List.drop_succ_cons, List.drop_zero]) | refine AWP.parR mixed (by kernel_rfl) fun K hK => ?_ | refine ⟨(by kernel_rfl : depB _ _ _ = true), ?_⟩ | refine Or.inl ?_) | (clear hK K))
    refine AWP.gh (Gh.nilcell 8 4 900 rfl rfl rfl (by simp only [go_sem, zA, zB, zC, zD, zE, zF, zG, reduceCtorEq, zH, zI, zJ, zK, zL]) (by simp only [go_sem, zA, zB, zC, zD, zE, zF, zG, reduceCtorEq, zH, zI, zJ, zK, zL])) ?_
    refine AWP.gh (Gh.nilcell 8 3 901 rfl rfl rfl (by simp only [go_sem, zA, zB, zC, zD, zE, zF, zG, reduceCtorEq, zH, zI, zJ, zK, zL]) (by simp only [go_sem, zA, zB, zC, zD, zE, zF, zG, reduceCtorEq, zH, zI, zJ, zK, zL])) ?_
    refine AWP.loopS (X := Nat × PutA) (fun x => [(35, I .i64 x.1), (34, I .i64 m.keys.length), (33, .one (.dat (.sl 2 (m.keys.map encKey)))), (9, Bo x.2.placed), (3, Sp 3), (4, Sp 4), (5, Sp 5), (6, Sp 6), (8, Sp 8)])
      (fun x => [(3, .cells ((encDat m).map .dat)), (4, .cells ((encKey k).map .dat)), (5, .cells ((encDat d).map .dat)), (6, zeroB), (8, outB 900 901 x.2), Kr 900 x.2.keys, Dr 901 x.2.kids])
      (fun x => x.1 ≤ m.keys.length ∧ (m.keys.zip m.kids).foldl (putStep k d) ⟨[], [], false⟩ = ((m.keys.zip m.kids).drop x.1).foldl (putStep k d) x.2 ∧ x.2.keys.length ≤ 2 * x.1 ∧ x.2.kids.length ≤ 2 * x.1) (fun x => m.keys.length - x.1) (0, ⟨[], [], false⟩) ?_ ⟨Nat.zero_le _, rfl, by simp, by simp⟩ ?_
    · exact Gh.to [] (by repeat (first | exact trivial | refine ⟨rfl, ?_⟩ | refine ⟨by (simp only [go_sem, zA, zB, zC, zD, zE, zF, zG, reduceCtorEq, zH, zI, zJ, zK, zL, List.length_append, List.length_map, List.length_cons, List.length_nil, Nat.zero_add]) <;> rfl, ?_⟩)) (by repeat (first | exact trivial | refine ⟨rfl, ?_⟩ | refine ⟨by (simp only [go_sem, zA, zB, zC, zD, zE, zF, zG, reduceCtorEq, zH, zI, zJ, zK, zL, List.length_append, List.length_map, List.length_cons, List.length_nil, Nat.zero_add]) <;> rfl, ?_⟩)) rfl rfl rfl
    rintro ⟨i, a⟩ ⟨hi, hp, hk1, hk2⟩
    simp only at hi hp hk1 hk2
    by_cases hlt : i < m.keys.length
    · obtain ⟨kx, hkx, hkx', hb, _⟩ := at_lt (enc := encKey) hlt
      obtain ⟨dx, hdx, hdx', _, _⟩ := at_lt (enc := encDat) (show i < m.kids.length by omega)
      have hz : (m.keys.zip m.kids).drop i = (kx, dx) :: (m.keys.zip m.kids).drop (i + 1) := by
        have hlz : i < (m.keys.zip m.kids).length := by simp; omega
        rw [List.drop_eq_getElem_cons hlz]
        congr 1
        have e1 := List.getElem?_eq_getElem hlt
        have e2 := List.getElem?_eq_getElem (show i < m.kids.length by omega)
        rw [hkx] at e1
        rw [hdx] at e2
        simp only [List.getElem_zip]
        rw [← Option.some.inj e1, ← Option.some.inj e2]
      rw [hz, List.foldl_cons] at hp
      obtain ⟨ak, ad, ap⟩ := a
      simp only at hk1 hk2
      cases hc0 : decide (keyCmp k kx ≤ 0) <;> cases hc1 : decide (keyCmp k kx = 0) <;> cases ap
      all_goals (simp only [putStep, hc0, hc1, Bool.not_true, Bool.not_false, Bool.and_true, Bool.and_false, Bool.true_and, Bool.false_and, cond_true, cond_false] at hp)
      repeat' (first | (simp only [go_sem, zA, zB, zC, zD, zE, zF, zG, reduceCtorEq, zH, zI, zJ, zK, zL, List.length_map, hb, hc0, hc1, key_snoc, dat_snoc]; all_goals fail_if_success guard_target =ₛ False) | (with_reducible first | ((first | refine seqVC_stepN rfl ?_ | refine seqVC_stepG rfl (by with_unfolding_all rfl) ?_ | refine AWP.seq ?_ | refine AWP.seqR (by kernel_rfl) ?_ | refine parVC_stepN rfl ?_ | refine parVC_stepG rfl (by with_unfolding_all rfl) ?_ | refine parEVC_stepN rfl ?_ | refine parEVC_stepG rfl (by with_unfolding_all rfl) ?_ | refine genVC_stepN rfl ?_ | refine genVC_stepG rfl (by with_unfolding_all rfl) ?_); intro K hK) | ((first | refine hK _ _ _ ?_ | refine hK _ _ ?_ | refine hK _ ?_); clear hK K) | refine seqVC_nil ?_ | refine parVC_nil ?_ | refine parEVC_nil ?_ | refine genVC_nil ?_ | refine AWP.block ?_ | (refine AWP.cond (by with_unfolding_all rfl) ?_ ?_ <;> intro h <;> (try simp only [zM, zN] at h) <;> try exact absurd h (by decide)) | refine AWP.skip ?_ | refine AWP.ret ?_ | refine AWP.exit ?_ | (refine ⟨fun h => ?_, fun h => ?_⟩ <;> (try simp only [zM, zN] at h) <;> try simp only [h]) | refine ⟨_, compareKeys_c k kx, ?_⟩ | refine ⟨by omega, encKey kx, hkx', ?_⟩ | refine ⟨by omega, encDat dx, hdx', ?_⟩ | refine ⟨by omega, ?_⟩ | (refine ⟨by simp only [List.length_append, List.length_cons, List.length_nil]; omega, ?_⟩) | (refine AWP.segP (id := 15) 8 mixed (by kernel_rfl) fun K hK => ?_; simp only [List.take_succ_cons, List.take_zero, List.drop_succ_cons, List.drop_zero]) | refine AWP.parR mixed (by kernel_rfl) fun K hK => ?_ | refine ⟨(by kernel_rfl : depB _ _ _ = true), ?_⟩ | refine Or.inl ?_) | (clear hK K))
      all_goals (rw [wrap_succ hlt (by omega)])
      all_goals first
        | refine ⟨(i + 1, ⟨ak, ad, _⟩), by simp only; omega, ⟨by simp only; omega, hp, by simp only; omega, by simp only; omega⟩, Gh.to [] (by repeat (first | exact trivial | refine ⟨rfl, ?_⟩ | refine ⟨by (simp only [go_sem, zA, zB, zC, zD, zE, zF, zG, reduceCtorEq, zH, zI, zJ, zK, zL, List.length_append, List.length_map, List.length_cons, List.length_nil, Nat.zero_add]) <;> rfl, ?_⟩)) (by repeat (first | exact trivial | refine ⟨rfl, ?_⟩ | refine ⟨by (simp only [go_sem, zA, zB, zC, zD, zE, zF, zG, reduceCtorEq, zH, zI, zJ, zK, zL, List.length_append, List.length_map, List.length_cons, List.length_nil, Nat.zero_add]) <;> rfl, ?_⟩)) rfl rfl rfl⟩
        | refine ⟨(i + 1, ⟨ak ++ [k], ad ++ [d], _⟩), by simp only; omega, ⟨by simp only; omega, hp, by simp; omega, by simp; omega⟩, Gh.to [(900, 53), (901, 59)] (by repeat (first | exact trivial | refine ⟨rfl, ?_⟩ | refine ⟨by (simp only [go_sem, zA, zB, zC, zD, zE, zF, zG, reduceCtorEq, zH, zI, zJ, zK, zL, List.length_append, List.length_map, List.length_cons, List.length_nil, Nat.zero_add]) <;> rfl, ?_⟩)) (by repeat (first | exact trivial | refine ⟨rfl, ?_⟩ | refine ⟨by (simp only [go_sem, zA, zB, zC, zD, zE, zF, zG, reduceCtorEq, zH, zI, zJ, zK, zL, List.length_append, List.length_map, List.length_cons, List.length_nil, Nat.zero_add]) <;> rfl, ?_⟩)) rfl rfl rfl⟩
        | refine ⟨(i + 1, ⟨ak ++ [kx], ad ++ [dx], _⟩), by simp only; omega, ⟨by simp only; omega, hp, by simp; omega, by simp; omega⟩, Gh.to [(900, 67), (901, 77)] (by repeat (first | exact trivial | refine ⟨rfl, ?_⟩ | refine ⟨by (simp only [go_sem, zA, zB, zC, zD, zE, zF, zG, reduceCtorEq, zH, zI, zJ, zK, zL, List.length_append, List.length_map, List.length_cons, List.length_nil, Nat.zero_add]) <;> rfl, ?_⟩)) (by repeat (first | exact trivial | refine ⟨rfl, ?_⟩ | refine ⟨by (simp only [go_sem, zA, zB, zC, zD, zE, zF, zG, reduceCtorEq, zH, zI, zJ, zK, zL, List.length_append, List.length_map, List.length_cons, List.length_nil, Nat.zero_add]) <;> rfl, ?_⟩)) rfl rfl rfl⟩
        | refine ⟨(i + 1, ⟨ak ++ [k] ++ [kx], ad ++ [d] ++ [dx], _⟩), by simp only; omega, ⟨by simp only; omega, hp, by simp; omega, by simp; omega⟩, Gh.to [(900, 67), (901, 77)] (by repeat (first | exact trivial | refine ⟨rfl, ?_⟩ | refine ⟨by (simp only [go_sem, zA, zB, zC, zD, zE, zF, zG, reduceCtorEq, zH, zI, zJ, zK, zL, List.length_append, List.length_map, List.length_cons, List.length_nil, Nat.zero_add]) <;> rfl, ?_⟩)) (by repeat (first | exact trivial | refine ⟨rfl, ?_⟩ | refine ⟨by (simp only [go_sem, zA, zB, zC, zD, zE, zF, zG, reduceCtorEq, zH, zI, zJ, zK, zL, List.length_append, List.length_map, List.length_cons, List.length_nil, Nat.zero_add]) <;> rfl, ?_⟩)) rfl rfl rfl⟩
    · have hb : decide ((i : Int) < (m.keys.length : Int)) = false := by simpa using hlt
      rw [show (m.keys.zip m.kids).drop i = [] from List.drop_eq_nil_of_le (by simp; omega), List.foldl_nil] at hp
      rw [hp]
      obtain ⟨ak, ad, ap⟩ := a
      simp only at hk1 hk2
      cases ap
      ·
        repeat' (first | (simp only [go_sem, zA, zB, zC, zD, zE, zF, zG, reduceCtorEq, zH, zI, zJ, zK, zL, List.length_map, hb, key_snoc, dat_snoc]; all_goals fail_if_success guard_target =ₛ False) | (with_reducible first | ((first | refine seqVC_stepN rfl ?_ | refine seqVC_stepG rfl (by with_unfolding_all rfl) ?_ | refine AWP.seq ?_ | refine AWP.seqR (by kernel_rfl) ?_ | refine parVC_stepN rfl ?_ | refine parVC_stepG rfl (by with_unfolding_all rfl) ?_ | refine parEVC_stepN rfl ?_ | refine parEVC_stepG rfl (by with_unfolding_all rfl) ?_ | refine genVC_stepN rfl ?_ | refine genVC_stepG rfl (by with_unfolding_all rfl) ?_); intro K hK) | ((first | refine hK _ _ _ ?_ | refine hK _ _ ?_ | refine hK _ ?_); clear hK K) | refine seqVC_nil ?_ | refine parVC_nil ?_ | refine parEVC_nil ?_ | refine genVC_nil ?_ | refine AWP.block ?_ | (refine AWP.cond (by with_unfolding_all rfl) ?_ ?_ <;> intro h <;> (try simp only [zM, zN] at h) <;> try exact absurd h (by decide)) | refine AWP.skip ?_ | refine AWP.ret ?_ | refine AWP.exit ?_ | (refine ⟨fun h => ?_, fun h => ?_⟩ <;> (try simp only [zM, zN] at h) <;> try simp only [h]) | refine ⟨by omega, ?_⟩ | (refine AWP.segP (id := 15) 8 mixed (by kernel_rfl) fun K hK => ?_; simp only [List.take_succ_cons, List.take_zero, List.drop_succ_cons, List.drop_zero]) | refine AWP.parR mixed (by kernel_rfl) fun K hK => ?_ | refine ⟨(by kernel_rfl : depB _ _ _ = true), ?_⟩ | refine Or.inl ?_) | (clear hK K))
        refine GhQ.step (Gh.freeze 86 rfl rfl (by simp only [go_sem, zA, zB, zC, zD, zE, zF, zG, reduceCtorEq, zH, zI, zJ, zK, zL, List.length_map]) (by simp only [go_sem, zA, zB, zC, zD, zE, zF, zG, reduceCtorEq, zH, zI, zJ, zK, zL, List.length_map])) ?_
        simp only [go_sem, zA, zB, zC, zD, zE, zF, zG, reduceCtorEq, zH, zI, zJ, zK, zL, List.length_map]
        refine ⟨_, Gh.freeze 92 rfl rfl (by simp only [go_sem, zA, zB, zC, zD, zE, zF, zG, reduceCtorEq, zH, zI, zJ, zK, zL, List.length_map]) (by simp only [go_sem, zA, zB, zC, zD, zE, zF, zG, reduceCtorEq, zH, zI, zJ, zK, zL, List.length_map]), ?_⟩
        simp only [go_sem, zA, zB, zC, zD, zE, zF, zG, reduceCtorEq, zH, zI, zJ, zK, zL, List.length_map]
        all_goals (first | exact fun _ h => (by cases h) | refine fin0 ?_)
        all_goals (simp only [hp, putEnd, Bool.not_false, cond_true, mapDat, Dt, encDat_eq, zeroDat]; rfl)
      ·
        repeat' (first | (simp only [go_sem, zA, zB, zC, zD, zE, zF, zG, reduceCtorEq, zH, zI, zJ, zK, zL, List.length_map, hb, key_snoc, dat_snoc]; all_goals fail_if_success guard_target =ₛ False) | (with_reducible first | ((first | refine seqVC_stepN rfl ?_ | refine seqVC_stepG rfl (by with_unfolding_all rfl) ?_ | refine AWP.seq ?_ | refine AWP.seqR (by kernel_rfl) ?_ | refine parVC_stepN rfl ?_ | refine parVC_stepG rfl (by with_unfolding_all rfl) ?_ | refine parEVC_stepN rfl ?_ | refine parEVC_stepG rfl (by with_unfolding_all rfl) ?_ | refine genVC_stepN rfl ?_ | refine genVC_stepG rfl (by with_unfolding_all rfl) ?_); intro K hK) | ((first | refine hK _ _ _ ?_ | refine hK _ _ ?_ | refine hK _ ?_); clear hK K) | refine seqVC_nil ?_ | refine parVC_nil ?_ | refine parEVC_nil ?_ | refine genVC_nil ?_ | refine AWP.block ?_ | (refine AWP.cond (by with_unfolding_all rfl) ?_ ?_ <;> intro h <;> (try simp only [zM, zN] at h) <;> try exact absurd h (by decide)) | refine AWP.skip ?_ | refine AWP.ret ?_ | refine AWP.exit ?_ | (refine ⟨fun h => ?_, fun h => ?_⟩ <;> (try simp only [zM, zN] at h) <;> try simp only [h]) | refine ⟨by omega, ?_⟩ | (refine AWP.segP (id := 15) 8 mixed (by kernel_rfl) fun K hK => ?_; simp only [List.take_succ_cons, List.take_zero, List.drop_succ_cons, List.drop_zero]) | refine AWP.parR mixed (by kernel_rfl) fun K hK => ?_ | refine ⟨(by kernel_rfl : depB _ _ _ = true), ?_⟩ | refine Or.inl ?_) | (clear hK K))
        refine GhQ.step (Gh.freeze 900 rfl rfl (by simp only [go_sem, zA, zB, zC, zD, zE, zF, zG, reduceCtorEq, zH, zI, zJ, zK, zL, List.length_map]) (by simp only [go_sem, zA, zB, zC, zD, zE, zF, zG, reduceCtorEq, zH, zI, zJ, zK, zL, List.length_map])) ?_
        simp only [go_sem, zA, zB, zC, zD, zE, zF, zG, reduceCtorEq, zH, zI, zJ, zK, zL, List.length_map]
        refine ⟨_, Gh.freeze 901 rfl rfl (by simp only [go_sem, zA, zB, zC, zD, zE, zF, zG, reduceCtorEq, zH, zI, zJ, zK, zL, List.length_map]) (by simp only [go_sem, zA, zB, zC, zD, zE, zF, zG, reduceCtorEq, zH, zI, zJ, zK, zL, List.length_map]), ?_⟩
        simp only [go_sem, zA, zB, zC, zD, zE, zF, zG, reduceCtorEq, zH, zI, zJ, zK, zL, List.length_map]
        all_goals (first | exact fun _ h => (by cases h) | refine fin0 ?_)
        all_goals (simp only [hp, putEnd, Bool.not_true, cond_false, mapDat, Dt, encDat_eq, zeroDat]; rfl)
def cmpI (a b : Int) : Int := bif decide (a < b) then -1 else bif decide (b < a) then 1 else 0
theorem isNaN_c (a : Int) : PC Tryz.prog 89 [I .i64 a] (Bo false) := by
  refine PCB.of_body Tryz.func89 rfl (by decide) Tryz.ntmps89 Tryz.results89 rfl rfl rfl ?_ rfl rfl
  repeat' (first | (simp only [go_sem, zA, zB, zC, zD, zE, zF, zG, reduceCtorEq, zH, zI, zJ, zK, zL, decide_true]; all_goals fail_if_success guard_target =ₛ False) | (with_reducible first | ((first | refine seqVC_stepN rfl ?_ | refine AWP.seq ?_ | refine AWP.seqR (by kernel_rfl) ?_); intro K hK) | ((first | refine hK _ _ _ ?_ | refine hK _ _ ?_ | refine hK _ ?_); clear hK K) | refine seqVC_nil ?_ | refine AWP.block ?_ | (refine AWP.cond (by with_unfolding_all rfl) ?_ ?_ <;> intro h <;> (try simp only [zM, zN] at h) <;> try exact absurd h (by decide)) | refine AWP.skip ?_ | refine AWP.ret ?_ | refine AWP.exit ?_ | refine Or.inl ?_) | (clear hK K))
  all_goals (first | exact fun _ h => (by cases h) | refine fin0 ?_)
  all_goals (simp)
theorem isNaN64_c (a : Int) : PC Tryz.prog 90 [I .i64 a] (Bo false) := by
  refine PCB.of_body Tryz.func90 rfl (by decide) Tryz.ntmps90 Tryz.results90 rfl rfl rfl ?_ rfl rfl
  repeat' (first | (simp only [go_sem, zA, zB, zC, zD, zE, zF, zG, reduceCtorEq, zH, zI, zJ, zK, zL, decide_true]; all_goals fail_if_success guard_target =ₛ False) | (with_reducible first | ((first | refine seqVC_stepN rfl ?_ | refine AWP.seq ?_ | refine AWP.seqR (by kernel_rfl) ?_); intro K hK) | ((first | refine hK _ _ _ ?_ | refine hK _ _ ?_ | refine hK _ ?_); clear hK K) | refine seqVC_nil ?_ | refine AWP.block ?_ | (refine AWP.cond (by with_unfolding_all rfl) ?_ ?_ <;> intro h <;> (try simp only [zM, zN] at h) <;> try exact absurd h (by decide)) | refine AWP.skip ?_ | refine AWP.ret ?_ | refine AWP.exit ?_ | refine Or.inl ?_) | (clear hK K))
  all_goals (first | exact fun _ h => (by cases h) | refine fin0 ?_)
  all_goals (simp)
theorem cmpInt_c (a b : Int) : PC Tryz.prog 71 [I .i64 a, I .i64 b] (I .i64 (cmpI a b)) := by
  refine PCB.of_body Tryz.func71 rfl (by decide) Tryz.ntmps71 Tryz.results71 rfl rfl rfl ?_ rfl rfl
  cases h1 : decide (a < b) <;> cases h2 : decide (b < a)
  repeat' (first | (simp only [go_sem, zA, zB, zC, zD, zE, zF, zG, reduceCtorEq, zH, zI, zJ, zK, zL, h1, h2, gt_iff_lt]; all_goals fail_if_success guard_target =ₛ False) | (with_reducible first | ((first | refine seqVC_stepN rfl ?_ | refine AWP.seq ?_ | refine AWP.seqR (by kernel_rfl) ?_); intro K hK) | ((first | refine hK _ _ _ ?_ | refine hK _ _ ?_ | refine hK _ ?_); clear hK K) | refine seqVC_nil ?_ | refine AWP.block ?_ | (refine AWP.cond (by with_unfolding_all rfl) ?_ ?_ <;> intro h <;> (try simp only [zM, zN] at h) <;> try exact absurd h (by decide)) | refine AWP.skip ?_ | refine AWP.ret ?_ | refine AWP.exit ?_ | refine ⟨_, isNaN_c _, ?_⟩ | refine Or.inl ?_) | (clear hK K))
  all_goals (refine fin0 ?_; simp only [cmpI, h1, h2, cond_true, cond_false])
theorem cmpInt64_c (a b : Int) : PC Tryz.prog 72 [I .i64 a, I .i64 b] (I .i64 (cmpI a b)) := by
  refine PCB.of_body Tryz.func72 rfl (by decide) Tryz.ntmps72 Tryz.results72 rfl rfl rfl ?_ rfl rfl
  cases h1 : decide (a < b) <;> cases h2 : decide (b < a)
  repeat' (first | (simp only [go_sem, zA, zB, zC, zD, zE, zF, zG, reduceCtorEq, zH, zI, zJ, zK, zL, h1, h2, gt_iff_lt]; all_goals fail_if_success guard_target =ₛ False) | (with_reducible first | ((first | refine seqVC_stepN rfl ?_ | refine AWP.seq ?_ | refine AWP.seqR (by kernel_rfl) ?_); intro K hK) | ((first | refine hK _ _ _ ?_ | refine hK _ _ ?_ | refine hK _ ?_); clear hK K) | refine seqVC_nil ?_ | refine AWP.block ?_ | (refine AWP.cond (by with_unfolding_all rfl) ?_ ?_ <;> intro h <;> (try simp only [zM, zN] at h) <;> try exact absurd h (by decide)) | refine AWP.skip ?_ | refine AWP.ret ?_ | refine AWP.exit ?_ | refine ⟨_, isNaN64_c _, ?_⟩ | refine Or.inl ?_) | (clear hK K))
  all_goals (refine fin0 ?_; simp only [cmpI, h1, h2, cond_true, cond_false])
def firstC {α : Type} (f : α → α → Int) : List α → List α → Int
  | x :: a, y :: b => bif decide (f x y = 0) then firstC f a b else f x y
  | _, _ => 0
theorem firstC_nil {α : Type} (f : α → α → Int) (l : List α) : firstC f [] l = 0 := by cases l <;> rfl
def listCmp {α : Type} (f : α → α → Int) (a b : List α) : Int := bif decide (cmpI a.length b.length = 0) then firstC f a b else cmpI a.length b.length
theorem cmpI_zero {a b : Int} : cmpI a b = 0 ↔ a = b := by
  unfold cmpI
  cases h1 : decide (a < b) <;> cases h2 : decide (b < a) <;> simp only [decide_eq_true_eq, decide_eq_false_iff_not] at h1 h2 <;> simp <;> omega
theorem cmpKeys_c (g : FuncId) (f : KeyD → KeyD → Int) (a b : List KeyD) (hg : ∀ x ∈ a, ∀ y ∈ b, PC Tryz.prog g [T.st (encKey x), T.st (encKey y)] (I .i64 (f x y))) :
    PC Tryz.prog 74 [.one (.dat (.sl 2 (a.map encKey))), .one (.dat (.sl 2 (b.map encKey))), .one (.dat (.fn g))] (I .i64 (listCmp f a b)) := by
  refine PCB.of_body Tryz.func74 rfl (by decide) Tryz.ntmps74 Tryz.results74 rfl rfl rfl ?_ rfl rfl
  refine AWP.len 0 rfl fun hlen => ?_
  rw [List.length_map] at hlen
  cases h0 : decide (cmpI a.length b.length = 0) with
  | false =>
    repeat' (first | (simp only [go_sem, zA, zB, zC, zD, zE, zF, zG, reduceCtorEq, zH, zI, zJ, zK, zL, List.length_map, h0]; all_goals fail_if_success guard_target =ₛ False) | (with_reducible first | ((first | refine seqVC_stepN rfl ?_ | refine AWP.seq ?_ | refine AWP.seqR (by kernel_rfl) ?_ | refine parVC_stepN rfl ?_ | refine parEVC_stepN rfl ?_ | refine genVC_stepN rfl ?_); intro K hK) | ((first | refine hK _ _ _ ?_ | refine hK _ _ ?_ | refine hK _ ?_); clear hK K) | refine seqVC_nil ?_ | refine parVC_nil ?_ | refine parEVC_nil ?_ | refine genVC_nil ?_ | refine AWP.block ?_ | (refine AWP.cond (by with_unfolding_all rfl) ?_ ?_ <;> intro h <;> (try simp only [zM, zN] at h) <;> try exact absurd h (by decide)) | refine AWP.skip ?_ | refine AWP.ret ?_ | refine AWP.exit ?_ | refine ⟨_, cmpInt_c _ _, ?_⟩ | refine AWP.parR mixed (by kernel_rfl) fun K hK => ?_ | refine ⟨(by kernel_rfl : depB _ _ _ = true), ?_⟩ | refine Or.inl ?_) | (clear hK K))
    all_goals (refine fin0 ?_; simp only [listCmp, h0, cond_false])
  | true =>
    have hl : a.length = b.length := by
      have := cmpI_zero.1 (of_decide_eq_true h0)
      omega
    repeat' (first | (simp only [go_sem, zA, zB, zC, zD, zE, zF, zG, reduceCtorEq, zH, zI, zJ, zK, zL, List.length_map, h0]; all_goals fail_if_success guard_target =ₛ False) | (with_reducible first | ((first | refine seqVC_stepN rfl ?_ | refine AWP.seq ?_ | refine AWP.seqR (by kernel_rfl) ?_ | refine parVC_stepN rfl ?_ | refine parEVC_stepN rfl ?_ | refine genVC_stepN rfl ?_); intro K hK) | ((first | refine hK _ _ _ ?_ | refine hK _ _ ?_ | refine hK _ ?_); clear hK K) | refine seqVC_nil ?_ | refine parVC_nil ?_ | refine parEVC_nil ?_ | refine genVC_nil ?_ | refine AWP.block ?_ | (refine AWP.cond (by with_unfolding_all rfl) ?_ ?_ <;> intro h <;> (try simp only [zM, zN] at h) <;> try exact absurd h (by decide)) | refine AWP.skip ?_ | refine AWP.ret ?_ | refine AWP.exit ?_ | refine ⟨_, cmpInt_c _ _, ?_⟩ | refine AWP.parR mixed (by kernel_rfl) fun K hK => ?_ | refine ⟨(by kernel_rfl : depB _ _ _ = true), ?_⟩ | refine Or.inl ?_) | (clear hK K))
    refine AWP.loopS (X := Nat × Unit) (fun x => [(20, I .i64 x.1), (19, I .i64 a.length), (0, .one (.dat (.sl 2 (a.map encKey)))), (1, .one (.dat (.sl 2 (b.map encKey)))), (2, .one (.dat (.fn g)))]) (fun _ => [])
      (fun x => x.1 ≤ a.length ∧ firstC f a b = firstC f (a.drop x.1) (b.drop x.1)) (fun x => a.length - x.1) (0, ()) (Gh.to [] (by repeat (first | exact trivial | refine ⟨rfl, ?_⟩ | refine ⟨by (simp only [go_sem, zA, zB, zC, zD, zE, zF, zG, reduceCtorEq, zH, zI, zJ, zK, zL, List.length_append, List.length_map, List.length_cons, List.length_nil, Nat.zero_add]) <;> rfl, ?_⟩)) (by repeat (first | exact trivial | refine ⟨rfl, ?_⟩ | refine ⟨by (simp only [go_sem, zA, zB, zC, zD, zE, zF, zG, reduceCtorEq, zH, zI, zJ, zK, zL, List.length_append, List.length_map, List.length_cons, List.length_nil, Nat.zero_add]) <;> rfl, ?_⟩)) rfl rfl rfl) ⟨Nat.zero_le _, rfl⟩ ?_
    rintro ⟨k, u⟩ ⟨hk, hp⟩
    simp only at hk hp
    by_cases hlt : k < a.length
    · obtain ⟨x, hx, hx', hb, hdx⟩ := at_lt (enc := encKey) hlt
      obtain ⟨y, hy, hy', _, hdy⟩ := at_lt (enc := encKey) (show k < b.length by omega)
      rw [hdx, hdy, firstC] at hp
      have hgx := hg x (List.mem_of_getElem? hx) y (List.mem_of_getElem? hy)
      cases hz : decide (f x y = 0)
      ·
        repeat' (first | (simp only [go_sem, zA, zB, zC, zD, zE, zF, zG, reduceCtorEq, zH, zI, zJ, zK, zL, List.length_map, hb, hz]; all_goals fail_if_success guard_target =ₛ False) | (with_reducible first | ((first | refine seqVC_stepN rfl ?_ | refine AWP.seq ?_ | refine AWP.seqR (by kernel_rfl) ?_ | refine parVC_stepN rfl ?_ | refine parEVC_stepN rfl ?_ | refine genVC_stepN rfl ?_); intro K hK) | ((first | refine hK _ _ _ ?_ | refine hK _ _ ?_ | refine hK _ ?_); clear hK K) | refine seqVC_nil ?_ | refine parVC_nil ?_ | refine parEVC_nil ?_ | refine genVC_nil ?_ | refine AWP.block ?_ | (refine AWP.cond (by with_unfolding_all rfl) ?_ ?_ <;> intro h <;> (try simp only [zM, zN] at h) <;> try exact absurd h (by decide)) | refine AWP.skip ?_ | refine AWP.ret ?_ | refine AWP.exit ?_ | refine ⟨_, hgx, ?_⟩ | refine ⟨by omega, encKey x, hx', ?_⟩ | refine ⟨by omega, encKey y, hy', ?_⟩ | refine AWP.parR mixed (by kernel_rfl) fun K hK => ?_ | refine ⟨(by kernel_rfl : depB _ _ _ = true), ?_⟩ | refine Or.inl ?_) | (clear hK K))
        all_goals (refine fin0 ?_; simp only [listCmp, h0, hp, hz, cond_true, cond_false])
      ·
        repeat' (first | (simp only [go_sem, zA, zB, zC, zD, zE, zF, zG, reduceCtorEq, zH, zI, zJ, zK, zL, List.length_map, hb, hz]; all_goals fail_if_success guard_target =ₛ False) | (with_reducible first | ((first | refine seqVC_stepN rfl ?_ | refine AWP.seq ?_ | refine AWP.seqR (by kernel_rfl) ?_ | refine parVC_stepN rfl ?_ | refine parEVC_stepN rfl ?_ | refine genVC_stepN rfl ?_); intro K hK) | ((first | refine hK _ _ _ ?_ | refine hK _ _ ?_ | refine hK _ ?_); clear hK K) | refine seqVC_nil ?_ | refine parVC_nil ?_ | refine parEVC_nil ?_ | refine genVC_nil ?_ | refine AWP.block ?_ | (refine AWP.cond (by with_unfolding_all rfl) ?_ ?_ <;> intro h <;> (try simp only [zM, zN] at h) <;> try exact absurd h (by decide)) | refine AWP.skip ?_ | refine AWP.ret ?_ | refine AWP.exit ?_ | refine ⟨_, hgx, ?_⟩ | refine ⟨by omega, encKey x, hx', ?_⟩ | refine ⟨by omega, encKey y, hy', ?_⟩ | refine AWP.parR mixed (by kernel_rfl) fun K hK => ?_ | refine ⟨(by kernel_rfl : depB _ _ _ = true), ?_⟩ | refine Or.inl ?_) | (clear hK K))
        all_goals (rw [hz, cond_true] at hp)
        all_goals (rw [wrap_succ hlt hlen])
        all_goals (refine ⟨(k + 1, ()), by simp only; omega, ⟨by simp only; omega, hp⟩, Gh.to [] (by repeat (first | exact trivial | refine ⟨rfl, ?_⟩ | refine ⟨by (simp only [go_sem, zA, zB, zC, zD, zE, zF, zG, reduceCtorEq, zH, zI, zJ, zK, zL, List.length_append, List.length_map, List.length_cons, List.length_nil, Nat.zero_add]) <;> rfl, ?_⟩)) (by repeat (first | exact trivial | refine ⟨rfl, ?_⟩ | refine ⟨by (simp only [go_sem, zA, zB, zC, zD, zE, zF, zG, reduceCtorEq, zH, zI, zJ, zK, zL, List.length_append, List.length_map, List.length_cons, List.length_nil, Nat.zero_add]) <;> rfl, ?_⟩)) rfl rfl rfl⟩)
    · have hb : decide ((k : Int) < (a.length : Int)) = false := by simpa using hlt
      rw [List.drop_eq_nil_of_le (show a.length ≤ k by omega), firstC_nil] at hp
      repeat' (first | (simp only [go_sem, zA, zB, zC, zD, zE, zF, zG, reduceCtorEq, zH, zI, zJ, zK, zL, List.length_map, hb]; all_goals fail_if_success guard_target =ₛ False) | (with_reducible first | ((first | refine seqVC_stepN rfl ?_ | refine AWP.seq ?_ | refine AWP.seqR (by kernel_rfl) ?_ | refine parVC_stepN rfl ?_ | refine parEVC_stepN rfl ?_ | refine genVC_stepN rfl ?_); intro K hK) | ((first | refine hK _ _ _ ?_ | refine hK _ _ ?_ | refine hK _ ?_); clear hK K) | refine seqVC_nil ?_ | refine parVC_nil ?_ | refine parEVC_nil ?_ | refine genVC_nil ?_ | refine AWP.block ?_ | (refine AWP.cond (by with_unfolding_all rfl) ?_ ?_ <;> intro h <;> (try simp only [zM, zN] at h) <;> try exact absurd h (by decide)) | refine AWP.skip ?_ | refine AWP.ret ?_ | refine AWP.exit ?_ | refine AWP.parR mixed (by kernel_rfl) fun K hK => ?_ | refine ⟨(by kernel_rfl : depB _ _ _ = true), ?_⟩ | refine Or.inl ?_) | (clear hK K))
      all_goals (refine fin0 ?_; simp only [listCmp, h0, hp, cond_true])
theorem cmpVals_c (g : FuncId) (f : Val → Val → Int) (a b : List Val) (hg : ∀ x ∈ a, ∀ y ∈ b, PC Tryz.prog g [T.st (encVal x), T.st (encVal y)] (I .i64 (f x y))) :
    PC Tryz.prog 92 [.one (.dat (.sl 7 (a.map encVal))), .one (.dat (.sl 7 (b.map encVal))), .one (.dat (.fn g))] (I .i64 (listCmp f a b)) := by
  refine PCB.of_body Tryz.func92 rfl (by decide) Tryz.ntmps92 Tryz.results92 rfl rfl rfl ?_ rfl rfl
  refine AWP.len 0 rfl fun hlen => ?_
  rw [List.length_map] at hlen
  cases h0 : decide (cmpI a.length b.length = 0) with
  | false =>
    repeat' (first | (simp only [go_sem, zA, zB, zC, zD, zE, zF, zG, reduceCtorEq, zH, zI, zJ, zK, zL, List.length_map, h0]; all_goals fail_if_success guard_target =ₛ False) | (with_reducible first | ((first | refine seqVC_stepN rfl ?_ | refine AWP.seq ?_ | refine AWP.seqR (by kernel_rfl) ?_ | refine parVC_stepN rfl ?_ | refine parEVC_stepN rfl ?_ | refine genVC_stepN rfl ?_); intro K hK) | ((first | refine hK _ _ _ ?_ | refine hK _ _ ?_ | refine hK _ ?_); clear hK K) | refine seqVC_nil ?_ | refine parVC_nil ?_ | refine parEVC_nil ?_ | refine genVC_nil ?_ | refine AWP.block ?_ | (refine AWP.cond (by with_unfolding_all rfl) ?_ ?_ <;> intro h <;> (try simp only [zM, zN] at h) <;> try exact absurd h (by decide)) | refine AWP.skip ?_ | refine AWP.ret ?_ | refine AWP.exit ?_ | refine ⟨_, cmpInt_c _ _, ?_⟩ | refine AWP.parR mixed (by kernel_rfl) fun K hK => ?_ | refine ⟨(by kernel_rfl : depB _ _ _ = true), ?_⟩ | refine Or.inl ?_) | (clear hK K))
    all_goals (refine fin0 ?_; simp only [listCmp, h0, cond_false])
  | true =>
    have hl : a.length = b.length := by
      have := cmpI_zero.1 (of_decide_eq_true h0)
      omega
    repeat' (first | (simp only [go_sem, zA, zB, zC, zD, zE, zF, zG, reduceCtorEq, zH, zI, zJ, zK, zL, List.length_map, h0]; all_goals fail_if_success guard_target =ₛ False) | (with_reducible first | ((first | refine seqVC_stepN rfl ?_ | refine AWP.seq ?_ | refine AWP.seqR (by kernel_rfl) ?_ | refine parVC_stepN rfl ?_ | refine parEVC_stepN rfl ?_ | refine genVC_stepN rfl ?_); intro K hK) | ((first | refine hK _ _ _ ?_ | refine hK _ _ ?_ | refine hK _ ?_); clear hK K) | refine seqVC_nil ?_ | refine parVC_nil ?_ | refine parEVC_nil ?_ | refine genVC_nil ?_ | refine AWP.block ?_ | (refine AWP.cond (by with_unfolding_all rfl) ?_ ?_ <;> intro h <;> (try simp only [zM, zN] at h) <;> try exact absurd h (by decide)) | refine AWP.skip ?_ | refine AWP.ret ?_ | refine AWP.exit ?_ | refine ⟨_, cmpInt_c _ _, ?_⟩ | refine AWP.parR mixed (by kernel_rfl) fun K hK => ?_ | refine ⟨(by kernel_rfl : depB _ _ _ = true), ?_⟩ | refine Or.inl ?_) | (clear hK K))
    refine AWP.loopS (X := Nat × Unit) (fun x => [(20, I .i64 x.1), (19, I .i64 a.length), (0, .one (.dat (.sl 7 (a.map encVal)))), (1, .one (.dat (.sl 7 (b.map encVal)))), (2, .one (.dat (.fn g)))]) (fun _ => [])
      (fun x => x.1 ≤ a.length ∧ firstC f a b = firstC f (a.drop x.1) (b.drop x.1)) (fun x => a.length - x.1) (0, ()) (Gh.to [] (by repeat (first | exact trivial | refine ⟨rfl, ?_⟩ | refine ⟨by (simp only [go_sem, zA, zB, zC, zD, zE, zF, zG, reduceCtorEq, zH, zI, zJ, zK, zL, List.length_append, List.length_map, List.length_cons, List.length_nil, Nat.zero_add]) <;> rfl, ?_⟩)) (by repeat (first | exact trivial | refine ⟨rfl, ?_⟩ | refine ⟨by (simp only [go_sem, zA, zB, zC, zD, zE, zF, zG, reduceCtorEq, zH, zI, zJ, zK, zL, List.length_append, List.length_map, List.length_cons, List.length_nil, Nat.zero_add]) <;> rfl, ?_⟩)) rfl rfl rfl) ⟨Nat.zero_le _, rfl⟩ ?_
    rintro ⟨k, u⟩ ⟨hk, hp⟩
    simp only at hk hp
    by_cases hlt : k < a.length
    · obtain ⟨x, hx, hx', hb, hdx⟩ := at_lt (enc := encVal) hlt
      obtain ⟨y, hy, hy', _, hdy⟩ := at_lt (enc := encVal) (show k < b.length by omega)
      rw [hdx, hdy, firstC] at hp
      have hgx := hg x (List.mem_of_getElem? hx) y (List.mem_of_getElem? hy)
      cases hz : decide (f x y = 0)
      ·
        repeat' (first | (simp only [go_sem, zA, zB, zC, zD, zE, zF, zG, reduceCtorEq, zH, zI, zJ, zK, zL, List.length_map, hb, hz]; all_goals fail_if_success guard_target =ₛ False) | (with_reducible first | ((first | refine seqVC_stepN rfl ?_ | refine AWP.seq ?_ | refine AWP.seqR (by kernel_rfl) ?_ | refine parVC_stepN rfl ?_ | refine parEVC_stepN rfl ?_ | refine genVC_stepN rfl ?_); intro K hK) | ((first | refine hK _ _ _ ?_ | refine hK _ _ ?_ | refine hK _ ?_); clear hK K) | refine seqVC_nil ?_ | refine parVC_nil ?_ | refine parEVC_nil ?_ | refine genVC_nil ?_ | refine AWP.block ?_ | (refine AWP.cond (by with_unfolding_all rfl) ?_ ?_ <;> intro h <;> (try simp only [zM, zN] at h) <;> try exact absurd h (by decide)) | refine AWP.skip ?_ | refine AWP.ret ?_ | refine AWP.exit ?_ | refine ⟨_, hgx, ?_⟩ | refine ⟨by omega, encVal x, hx', ?_⟩ | refine ⟨by omega, encVal y, hy', ?_⟩ | refine AWP.parR mixed (by kernel_rfl) fun K hK => ?_ | refine ⟨(by kernel_rfl : depB _ _ _ = true), ?_⟩ | refine Or.inl ?_) | (clear hK K))
        all_goals (refine fin0 ?_; simp only [listCmp, h0, hp, hz, cond_true, cond_false])
      ·
        repeat' (first | (simp only [go_sem, zA, zB, zC, zD, zE, zF, zG, reduceCtorEq, zH, zI, zJ, zK, zL, List.length_map, hb, hz]; all_goals fail_if_success guard_target =ₛ False) | (with_reducible first | ((first | refine seqVC_stepN rfl ?_ | refine AWP.seq ?_ | refine AWP.seqR (by kernel_rfl) ?_ | refine parVC_stepN rfl ?_ | refine parEVC_stepN rfl ?_ | refine genVC_stepN rfl ?_); intro K hK) | ((first | refine hK _ _ _ ?_ | refine hK _ _ ?_ | refine hK _ ?_); clear hK K) | refine seqVC_nil ?_ | refine parVC_nil ?_ | refine parEVC_nil ?_ | refine genVC_nil ?_ | refine AWP.block ?_ | (refine AWP.cond (by with_unfolding_all rfl) ?_ ?_ <;> intro h <;> (try simp only [zM, zN] at h) <;> try exact absurd h (by decide)) | refine AWP.skip ?_ | refine AWP.ret ?_ | refine AWP.exit ?_ | refine ⟨_, hgx, ?_⟩ | refine ⟨by omega, encVal x, hx', ?_⟩ | refine ⟨by omega, encVal y, hy', ?_⟩ | refine AWP.parR mixed (by kernel_rfl) fun K hK => ?_ | refine ⟨(by kernel_rfl : depB _ _ _ = true), ?_⟩ | refine Or.inl ?_) | (clear hK K))
        all_goals (rw [hz, cond_true] at hp)
        all_goals (rw [wrap_succ hlt hlen])
        all_goals (refine ⟨(k + 1, ()), by simp only; omega, ⟨by simp only; omega, hp⟩, Gh.to [] (by repeat (first | exact trivial | refine ⟨rfl, ?_⟩ | refine ⟨by (simp only [go_sem, zA, zB, zC, zD, zE, zF, zG, reduceCtorEq, zH, zI, zJ, zK, zL, List.length_append, List.length_map, List.length_cons, List.length_nil, Nat.zero_add]) <;> rfl, ?_⟩)) (by repeat (first | exact trivial | refine ⟨rfl, ?_⟩ | refine ⟨by (simp only [go_sem, zA, zB, zC, zD, zE, zF, zG, reduceCtorEq, zH, zI, zJ, zK, zL, List.length_append, List.length_map, List.length_cons, List.length_nil, Nat.zero_add]) <;> rfl, ?_⟩)) rfl rfl rfl⟩)
    · have hb : decide ((k : Int) < (a.length : Int)) = false := by simpa using hlt
      rw [List.drop_eq_nil_of_le (show a.length ≤ k by omega), firstC_nil] at hp
      repeat' (first | (simp only [go_sem, zA, zB, zC, zD, zE, zF, zG, reduceCtorEq, zH, zI, zJ, zK, zL, List.length_map, hb]; all_goals fail_if_success guard_target =ₛ False) | (with_reducible first | ((first | refine seqVC_stepN rfl ?_ | refine AWP.seq ?_ | refine AWP.seqR (by kernel_rfl) ?_ | refine parVC_stepN rfl ?_ | refine parEVC_stepN rfl ?_ | refine genVC_stepN rfl ?_); intro K hK) | ((first | refine hK _ _ _ ?_ | refine hK _ _ ?_ | refine hK _ ?_); clear hK K) | refine seqVC_nil ?_ | refine parVC_nil ?_ | refine parEVC_nil ?_ | refine genVC_nil ?_ | refine AWP.block ?_ | (refine AWP.cond (by with_unfolding_all rfl) ?_ ?_ <;> intro h <;> (try simp only [zM, zN] at h) <;> try exact absurd h (by decide)) | refine AWP.skip ?_ | refine AWP.ret ?_ | refine AWP.exit ?_ | refine AWP.parR mixed (by kernel_rfl) fun K hK => ?_ | refine ⟨(by kernel_rfl : depB _ _ _ = true), ?_⟩ | refine Or.inl ?_) | (clear hK K))
      all_goals (refine fin0 ?_; simp only [listCmp, h0, hp, cond_true])
theorem cmpEnts_c (g : FuncId) (f : (List Val × Bool × Val) → (List Val × Bool × Val) → Int) (a b : List (List Val × Bool × Val)) (hg : ∀ x ∈ a, ∀ y ∈ b, PC Tryz.prog g [T.st (encEnt x), T.st (encEnt y)] (I .i64 (f x y))) :
    PC Tryz.prog 77 [.one (.dat (.sl 9 (a.map encEnt))), .one (.dat (.sl 9 (b.map encEnt))), .one (.dat (.fn g))] (I .i64 (listCmp f a b)) := by
  refine PCB.of_body Tryz.func77 rfl (by decide) Tryz.ntmps77 Tryz.results77 rfl rfl rfl ?_ rfl rfl
  refine AWP.len 0 rfl fun hlen => ?_
  rw [List.length_map] at hlen
  cases h0 : decide (cmpI a.length b.length = 0) with
  | false =>
    repeat' (first | (simp only [go_sem, zA, zB, zC, zD, zE, zF, zG, reduceCtorEq, zH, zI, zJ, zK, zL, List.length_map, h0]; all_goals fail_if_success guard_target =ₛ False) | (with_reducible first | ((first | refine seqVC_stepN rfl ?_ | refine AWP.seq ?_ | refine AWP.seqR (by kernel_rfl) ?_ | refine parVC_stepN rfl ?_ | refine parEVC_stepN rfl ?_ | refine genVC_stepN rfl ?_); intro K hK) | ((first | refine hK _ _ _ ?_ | refine hK _ _ ?_ | refine hK _ ?_); clear hK K) | refine seqVC_nil ?_ | refine parVC_nil ?_ | refine parEVC_nil ?_ | refine genVC_nil ?_ | refine AWP.block ?_ | (refine AWP.cond (by with_unfolding_all rfl) ?_ ?_ <;> intro h <;> (try simp only [zM, zN] at h) <;> try exact absurd h (by decide)) | refine AWP.skip ?_ | refine AWP.ret ?_ | refine AWP.exit ?_ | refine ⟨_, cmpInt_c _ _, ?_⟩ | refine AWP.parR mixed (by kernel_rfl) fun K hK => ?_ | refine ⟨(by kernel_rfl : depB _ _ _ = true), ?_⟩ | refine Or.inl ?_) | (clear hK K))
    all_goals (refine fin0 ?_; simp only [listCmp, h0, cond_false])
  | true =>
    have hl : a.length = b.length := by
      have := cmpI_zero.1 (of_decide_eq_true h0)
      omega
    repeat' (first | (simp only [go_sem, zA, zB, zC, zD, zE, zF, zG, reduceCtorEq, zH, zI, zJ, zK, zL, List.length_map, h0]; all_goals fail_if_success guard_target =ₛ False) | (with_reducible first | ((first | refine seqVC_stepN rfl ?_ | refine AWP.seq ?_ | refine AWP.seqR (by kernel_rfl) ?_ | refine parVC_stepN rfl ?_ | refine parEVC_stepN rfl ?_ | refine genVC_stepN rfl ?_); intro K hK) | ((first | refine hK _ _ _ ?_ | refine hK _ _ ?_ | refine hK _ ?_); clear hK K) | refine seqVC_nil ?_ | refine parVC_nil ?_ | refine parEVC_nil ?_ | refine genVC_nil ?_ | refine AWP.block ?_ | (refine AWP.cond (by with_unfolding_all rfl) ?_ ?_ <;> intro h <;> (try simp only [zM, zN] at h) <;> try exact absurd h (by decide)) | refine AWP.skip ?_ | refine AWP.ret ?_ | refine AWP.exit ?_ | refine ⟨_, cmpInt_c _ _, ?_⟩ | refine AWP.parR mixed (by kernel_rfl) fun K hK => ?_ | refine ⟨(by kernel_rfl : depB _ _ _ = true), ?_⟩ | refine Or.inl ?_) | (clear hK K))
    refine AWP.loopS (X := Nat × Unit) (fun x => [(20, I .i64 x.1), (19, I .i64 a.length), (0, .one (.dat (.sl 9 (a.map encEnt)))), (1, .one (.dat (.sl 9 (b.map encEnt)))), (2, .one (.dat (.fn g)))]) (fun _ => [])
      (fun x => x.1 ≤ a.length ∧ firstC f a b = firstC f (a.drop x.1) (b.drop x.1)) (fun x => a.length - x.1) (0, ()) (Gh.to [] (by repeat (first | exact trivial | refine ⟨rfl, ?_⟩ | refine ⟨by (simp only [go_sem, zA, zB, zC, zD, zE, zF, zG, reduceCtorEq, zH, zI, zJ, zK, zL, List.length_append, List.length_map, List.length_cons, List.length_nil, Nat.zero_add]) <;> rfl, ?_⟩)) (by repeat (first | exact trivial | refine ⟨rfl, ?_⟩ | refine ⟨by (simp only [go_sem, zA, zB, zC, zD, zE, zF, zG, reduceCtorEq, zH, zI, zJ, zK, zL, List.length_append, List.length_map, List.length_cons, List.length_nil, Nat.zero_add]) <;> rfl, ?_⟩)) rfl rfl rfl) ⟨Nat.zero_le _, rfl⟩ ?_
    rintro ⟨k, u⟩ ⟨hk, hp⟩
    simp only at hk hp
    by_cases hlt : k < a.length
    · obtain ⟨x, hx, hx', hb, hdx⟩ := at_lt (enc := encEnt) hlt
      obtain ⟨y, hy, hy', _, hdy⟩ := at_lt (enc := encEnt) (show k < b.length by omega)
      rw [hdx, hdy, firstC] at hp
      have hgx := hg x (List.mem_of_getElem? hx) y (List.mem_of_getElem? hy)
      cases hz : decide (f x y = 0)
      ·
        repeat' (first | (simp only [go_sem, zA, zB, zC, zD, zE, zF, zG, reduceCtorEq, zH, zI, zJ, zK, zL, List.length_map, hb, hz]; all_goals fail_if_success guard_target =ₛ False) | (with_reducible first | ((first | refine seqVC_stepN rfl ?_ | refine AWP.seq ?_ | refine AWP.seqR (by kernel_rfl) ?_ | refine parVC_stepN rfl ?_ | refine parEVC_stepN rfl ?_ | refine genVC_stepN rfl ?_); intro K hK) | ((first | refine hK _ _ _ ?_ | refine hK _ _ ?_ | refine hK _ ?_); clear hK K) | refine seqVC_nil ?_ | refine parVC_nil ?_ | refine parEVC_nil ?_ | refine genVC_nil ?_ | refine AWP.block ?_ | (refine AWP.cond (by with_unfolding_all rfl) ?_ ?_ <;> intro h <;> (try simp only [zM, zN] at h) <;> try exact absurd h (by decide)) | refine AWP.skip ?_ | refine AWP.ret ?_ | refine AWP.exit ?_ | refine ⟨_, hgx, ?_⟩ | refine ⟨by omega, encEnt x, hx', ?_⟩ | refine ⟨by omega, encEnt y, hy', ?_⟩ | refine AWP.parR mixed (by kernel_rfl) fun K hK => ?_ | refine ⟨(by kernel_rfl : depB _ _ _ = true), ?_⟩ | refine Or.inl ?_) | (clear hK K))
        all_goals (refine fin0 ?_; simp only [listCmp, h0, hp, hz, cond_true, cond_false])
      ·
        repeat' (first | (simp only [go_sem, zA, zB, zC, zD, zE, zF, zG, reduceCtorEq, zH, zI, zJ, zK, zL, List.length_map, hb, hz]; all_goals fail_if_success guard_target =ₛ False) | (with_reducible first | ((first | refine seqVC_stepN rfl ?_ | refine AWP.seq ?_ | refine AWP.seqR (by kernel_rfl) ?_ | refine parVC_stepN rfl ?_ | refine parEVC_stepN rfl ?_ | refine genVC_stepN rfl ?_); intro K hK) | ((first | refine hK _ _ _ ?_ | refine hK _ _ ?_ | refine hK _ ?_); clear hK K) | refine seqVC_nil ?_ | refine parVC_nil ?_ | refine parEVC_nil ?_ | refine genVC_nil ?_ | refine AWP.block ?_ | (refine AWP.cond (by with_unfolding_all rfl) ?_ ?_ <;> intro h <;> (try simp only [zM, zN] at h) <;> try exact absurd h (by decide)) | refine AWP.skip ?_ | refine AWP.ret ?_ | refine AWP.exit ?_ | refine ⟨_, hgx, ?_⟩ | refine ⟨by omega, encEnt x, hx', ?_⟩ | refine ⟨by omega, encEnt y, hy', ?_⟩ | refine AWP.parR mixed (by kernel_rfl) fun K hK => ?_ | refine ⟨(by kernel_rfl : depB _ _ _ = true), ?_⟩ | refine Or.inl ?_) | (clear hK K))
        all_goals (rw [hz, cond_true] at hp)
        all_goals (rw [wrap_succ hlt hlen])
        all_goals (refine ⟨(k + 1, ()), by simp only; omega, ⟨by simp only; omega, hp⟩, Gh.to [] (by repeat (first | exact trivial | refine ⟨rfl, ?_⟩ | refine ⟨by (simp only [go_sem, zA, zB, zC, zD, zE, zF, zG, reduceCtorEq, zH, zI, zJ, zK, zL, List.length_append, List.length_map, List.length_cons, List.length_nil, Nat.zero_add]) <;> rfl, ?_⟩)) (by repeat (first | exact trivial | refine ⟨rfl, ?_⟩ | refine ⟨by (simp only [go_sem, zA, zB, zC, zD, zE, zF, zG, reduceCtorEq, zH, zI, zJ, zK, zL, List.length_append, List.length_map, List.length_cons, List.length_nil, Nat.zero_add]) <;> rfl, ?_⟩)) rfl rfl rfl⟩)
    · have hb : decide ((k : Int) < (a.length : Int)) = false := by simpa using hlt
      rw [List.drop_eq_nil_of_le (show a.length ≤ k by omega), firstC_nil] at hp
      repeat' (first | (simp only [go_sem, zA, zB, zC, zD, zE, zF, zG, reduceCtorEq, zH, zI, zJ, zK, zL, List.length_map, hb]; all_goals fail_if_success guard_target =ₛ False) | (with_reducible first | ((first | refine seqVC_stepN rfl ?_ | refine AWP.seq ?_ | refine AWP.seqR (by kernel_rfl) ?_ | refine parVC_stepN rfl ?_ | refine parEVC_stepN rfl ?_ | refine genVC_stepN rfl ?_); intro K hK) | ((first | refine hK _ _ _ ?_ | refine hK _ _ ?_ | refine hK _ ?_); clear hK K) | refine seqVC_nil ?_ | refine parVC_nil ?_ | refine parEVC_nil ?_ | refine genVC_nil ?_ | refine AWP.block ?_ | (refine AWP.cond (by with_unfolding_all rfl) ?_ ?_ <;> intro h <;> (try simp only [zM, zN] at h) <;> try exact absurd h (by decide)) | refine AWP.skip ?_ | refine AWP.ret ?_ | refine AWP.exit ?_ | refine AWP.parR mixed (by kernel_rfl) fun K hK => ?_ | refine ⟨(by kernel_rfl : depB _ _ _ = true), ?_⟩ | refine Or.inl ?_) | (clear hK K))
      all_goals (refine fin0 ?_; simp only [listCmp, h0, hp, cond_true])
theorem cmpStrs_c (g : FuncId) (f : (List UInt8) → (List UInt8) → Int) (a b : List (List UInt8)) (hg : ∀ x ∈ a, ∀ y ∈ b, PC Tryz.prog g [S x, S y] (I .i64 (f x y))) :
    PC Tryz.prog 79 [.one (.dat (.sl 1 (a.map encStr))), .one (.dat (.sl 1 (b.map encStr))), .one (.dat (.fn g))] (I .i64 (listCmp f a b)) := by
  refine PCB.of_body Tryz.func79 rfl (by decide) Tryz.ntmps79 Tryz.results79 rfl rfl rfl ?_ rfl rfl
  refine AWP.len 0 rfl fun hlen => ?_
  rw [List.length_map] at hlen
  cases h0 : decide (cmpI a.length b.length = 0) with
  | false =>
    repeat' (first | (simp only [go_sem, zA, zB, zC, zD, zE, zF, zG, reduceCtorEq, zH, zI, zJ, zK, zL, List.length_map, h0]; all_goals fail_if_success guard_target =ₛ False) | (with_reducible first | ((first | refine seqVC_stepN rfl ?_ | refine AWP.seq ?_ | refine AWP.seqR (by kernel_rfl) ?_ | refine parVC_stepN rfl ?_ | refine parEVC_stepN rfl ?_ | refine genVC_stepN rfl ?_); intro K hK) | ((first | refine hK _ _ _ ?_ | refine hK _ _ ?_ | refine hK _ ?_); clear hK K) | refine seqVC_nil ?_ | refine parVC_nil ?_ | refine parEVC_nil ?_ | refine genVC_nil ?_ | refine AWP.block ?_ | (refine AWP.cond (by with_unfolding_all rfl) ?_ ?_ <;> intro h <;> (try simp only [zM, zN] at h) <;> try exact absurd h (by decide)) | refine AWP.skip ?_ | refine AWP.ret ?_ | refine AWP.exit ?_ | refine ⟨_, cmpInt_c _ _, ?_⟩ | refine AWP.parR mixed (by kernel_rfl) fun K hK => ?_ | refine ⟨(by kernel_rfl : depB _ _ _ = true), ?_⟩ | refine Or.inl ?_) | (clear hK K))
    all_goals (refine fin0 ?_; simp only [listCmp, h0, cond_false])
  | true =>
    have hl : a.length = b.length := by
      have := cmpI_zero.1 (of_decide_eq_true h0)
      omega
    repeat' (first | (simp only [go_sem, zA, zB, zC, zD, zE, zF, zG, reduceCtorEq, zH, zI, zJ, zK, zL, List.length_map, h0]; all_goals fail_if_success guard_target =ₛ False) | (with_reducible first | ((first | refine seqVC_stepN rfl ?_ | refine AWP.seq ?_ | refine AWP.seqR (by kernel_rfl) ?_ | refine parVC_stepN rfl ?_ | refine parEVC_stepN rfl ?_ | refine genVC_stepN rfl ?_); intro K hK) | ((first | refine hK _ _ _ ?_ | refine hK _ _ ?_ | refine hK _ ?_); clear hK K) | refine seqVC_nil ?_ | refine parVC_nil ?_ | refine parEVC_nil ?_ | refine genVC_nil ?_ | refine AWP.block ?_ | (refine AWP.cond (by with_unfolding_all rfl) ?_ ?_ <;> intro h <;> (try simp only [zM, zN] at h) <;> try exact absurd h (by decide)) | refine AWP.skip ?_ | refine AWP.ret ?_ | refine AWP.exit ?_ | refine ⟨_, cmpInt_c _ _, ?_⟩ | refine AWP.parR mixed (by kernel_rfl) fun K hK => ?_ | refine ⟨(by kernel_rfl : depB _ _ _ = true), ?_⟩ | refine Or.inl ?_) | (clear hK K))
    refine AWP.loopS (X := Nat × Unit) (fun x => [(20, I .i64 x.1), (19, I .i64 a.length), (0, .one (.dat (.sl 1 (a.map encStr)))), (1, .one (.dat (.sl 1 (b.map encStr)))), (2, .one (.dat (.fn g)))]) (fun _ => [])
      (fun x => x.1 ≤ a.length ∧ firstC f a b = firstC f (a.drop x.1) (b.drop x.1)) (fun x => a.length - x.1) (0, ()) (Gh.to [] (by repeat (first | exact trivial | refine ⟨rfl, ?_⟩ | refine ⟨by (simp only [go_sem, zA, zB, zC, zD, zE, zF, zG, reduceCtorEq, zH, zI, zJ, zK, zL, List.length_append, List.length_map, List.length_cons, List.length_nil, Nat.zero_add]) <;> rfl, ?_⟩)) (by repeat (first | exact trivial | refine ⟨rfl, ?_⟩ | refine ⟨by (simp only [go_sem, zA, zB, zC, zD, zE, zF, zG, reduceCtorEq, zH, zI, zJ, zK, zL, List.length_append, List.length_map, List.length_cons, List.length_nil, Nat.zero_add]) <;> rfl, ?_⟩)) rfl rfl rfl) ⟨Nat.zero_le _, rfl⟩ ?_
    rintro ⟨k, u⟩ ⟨hk, hp⟩
    simp only at hk hp
    by_cases hlt : k < a.length
    · obtain ⟨x, hx, hx', hb, hdx⟩ := at_lt (enc := encStr) hlt
      obtain ⟨y, hy, hy', _, hdy⟩ := at_lt (enc := encStr) (show k < b.length by omega)
      rw [hdx, hdy, firstC] at hp
      have hgx := hg x (List.mem_of_getElem? hx) y (List.mem_of_getElem? hy)
      cases hz : decide (f x y = 0)
      ·
        repeat' (first | (simp only [go_sem, zA, zB, zC, zD, zE, zF, zG, reduceCtorEq, zH, zI, zJ, zK, zL, List.length_map, hb, hz, encStr]; all_goals fail_if_success guard_target =ₛ False) | (with_reducible first | ((first | refine seqVC_stepN rfl ?_ | refine AWP.seq ?_ | refine AWP.seqR (by kernel_rfl) ?_ | refine parVC_stepN rfl ?_ | refine parEVC_stepN rfl ?_ | refine genVC_stepN rfl ?_); intro K hK) | ((first | refine hK _ _ _ ?_ | refine hK _ _ ?_ | refine hK _ ?_); clear hK K) | refine seqVC_nil ?_ | refine parVC_nil ?_ | refine parEVC_nil ?_ | refine genVC_nil ?_ | refine AWP.block ?_ | (refine AWP.cond (by with_unfolding_all rfl) ?_ ?_ <;> intro h <;> (try simp only [zM, zN] at h) <;> try exact absurd h (by decide)) | refine AWP.skip ?_ | refine AWP.ret ?_ | refine AWP.exit ?_ | refine ⟨_, hgx, ?_⟩ | refine ⟨by omega, encStr x, hx', ?_⟩ | refine ⟨by omega, encStr y, hy', ?_⟩ | refine AWP.parR mixed (by kernel_rfl) fun K hK => ?_ | refine ⟨(by kernel_rfl : depB _ _ _ = true), ?_⟩ | refine Or.inl ?_) | (clear hK K))
        all_goals (refine fin0 ?_; simp only [listCmp, h0, hp, hz, cond_true, cond_false])
      ·
        repeat' (first | (simp only [go_sem, zA, zB, zC, zD, zE, zF, zG, reduceCtorEq, zH, zI, zJ, zK, zL, List.length_map, hb, hz, encStr]; all_goals fail_if_success guard_target =ₛ False) | (with_reducible first | ((first | refine seqVC_stepN rfl ?_ | refine AWP.seq ?_ | refine AWP.seqR (by kernel_rfl) ?_ | refine parVC_stepN rfl ?_ | refine parEVC_stepN rfl ?_ | refine genVC_stepN rfl ?_); intro K hK) | ((first | refine hK _ _ _ ?_ | refine hK _ _ ?_ | refine hK _ ?_); clear hK K) | refine seqVC_nil ?_ | refine parVC_nil ?_ | refine parEVC_nil ?_ | refine genVC_nil ?_ | refine AWP.block ?_ | (refine AWP.cond (by with_unfolding_all rfl) ?_ ?_ <;> intro h <;> (try simp only [zM, zN] at h) <;> try exact absurd h (by decide)) | refine AWP.skip ?_ | refine AWP.ret ?_ | refine AWP.exit ?_ | refine ⟨_, hgx, ?_⟩ | refine ⟨by omega, encStr x, hx', ?_⟩ | refine ⟨by omega, encStr y, hy', ?_⟩ | refine AWP.parR mixed (by kernel_rfl) fun K hK => ?_ | refine ⟨(by kernel_rfl : depB _ _ _ = true), ?_⟩ | refine Or.inl ?_) | (clear hK K))
        all_goals (rw [hz, cond_true] at hp)
        all_goals (rw [wrap_succ hlt hlen])
        all_goals (refine ⟨(k + 1, ()), by simp only; omega, ⟨by simp only; omega, hp⟩, Gh.to [] (by repeat (first | exact trivial | refine ⟨rfl, ?_⟩ | refine ⟨by (simp only [go_sem, zA, zB, zC, zD, zE, zF, zG, reduceCtorEq, zH, zI, zJ, zK, zL, List.length_append, List.length_map, List.length_cons, List.length_nil, Nat.zero_add]) <;> rfl, ?_⟩)) (by repeat (first | exact trivial | refine ⟨rfl, ?_⟩ | refine ⟨by (simp only [go_sem, zA, zB, zC, zD, zE, zF, zG, reduceCtorEq, zH, zI, zJ, zK, zL, List.length_append, List.length_map, List.length_cons, List.length_nil, Nat.zero_add]) <;> rfl, ?_⟩)) rfl rfl rfl⟩)
    · have hb : decide ((k : Int) < (a.length : Int)) = false := by simpa using hlt
      rw [List.drop_eq_nil_of_le (show a.length ≤ k by omega), firstC_nil] at hp
      repeat' (first | (simp only [go_sem, zA, zB, zC, zD, zE, zF, zG, reduceCtorEq, zH, zI, zJ, zK, zL, List.length_map, hb]; all_goals fail_if_success guard_target =ₛ False) | (with_reducible first | ((first | refine seqVC_stepN rfl ?_ | refine AWP.seq ?_ | refine AWP.seqR (by kernel_rfl) ?_ | refine parVC_stepN rfl ?_ | refine parEVC_stepN rfl ?_ | refine genVC_stepN rfl ?_); intro K hK) | ((first | refine hK _ _ _ ?_ | refine hK _ _ ?_ | refine hK _ ?_); clear hK K) | refine seqVC_nil ?_ | refine parVC_nil ?_ | refine parEVC_nil ?_ | refine genVC_nil ?_ | refine AWP.block ?_ | (refine AWP.cond (by with_unfolding_all rfl) ?_ ?_ <;> intro h <;> (try simp only [zM, zN] at h) <;> try exact absurd h (by decide)) | refine AWP.skip ?_ | refine AWP.ret ?_ | refine AWP.exit ?_ | refine AWP.parR mixed (by kernel_rfl) fun K hK => ?_ | refine ⟨(by kernel_rfl : depB _ _ _ = true), ?_⟩ | refine Or.inl ?_) | (clear hK K))
      all_goals (refine fin0 ?_; simp only [listCmp, h0, hp, cond_true])
end Go.Proofs.YtmpfdejckbceiaaGreat
