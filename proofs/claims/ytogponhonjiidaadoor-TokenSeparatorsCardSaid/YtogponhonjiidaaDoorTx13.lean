/- A part of the proof: lemmas about the walk of the program and about plain integers and lists. No conditions beyond those that each lemma states. -/
import Derived.Test.YtogponhonjiidaaDoorTx8
import Derived.Test.YtogponhonjiidaaDoorTx12
import Derived.Shelf.Strings.OnBuilder
import Derived.Test.YtogponhonjiidaaDoorProg
set_option linter.unusedSimpArgs false
set_option linter.unusedVariables false
set_option maxRecDepth 20000
set_option maxHeartbeats 16000000
namespace Go.Proofs.YtogponhonjiidaaDoor
open Go Go.Sx
open Nat renaming reduceBEq → zA, reduceBNe → zB, reduceAdd → zC, reduceSub → zD, reduceMul → zE, reduceLeDiff → zF, reduceLT → zG, reduceEqDiff → zH
open Int renaming reduceToNat → zI, reduceLE → zJ, reduceLT → zK, reduceEq → zL
open Bool renaming not_eq_true' → zM, not_eq_false' → zN
/-- the place of the closing quote -/
def qEnd : List UInt8 → Option Nat
 | [] => none
 | c :: l => bif decide ((c.toNat : Int) = 92) then (qEnd (l.drop 1)).map (· + 2) else bif decide ((c.toNat : Int) = 34) then some 0 else (qEnd l).map (· + 1)
termination_by l => l.length
decreasing_by all_goals (simp; try omega)
def qAt (s : List UInt8) (k : Nat) : Option Nat := (qEnd (s.drop k)).map (· + k)
theorem qAt_end {s : List UInt8} {k : Nat} (h : s.length ≤ k) : qAt s k = none := by unfold qAt; rw [List.drop_eq_nil_of_le h, qEnd]; rfl
theorem qAt_esc {s : List UInt8} {k : Nat} {c : UInt8} (h : s[k]? = some c) (hc : decide ((c.toNat : Int) = 92) = true) : qAt s k = qAt s (k + 2) := by
 obtain ⟨hk, rfl⟩ := List.getElem?_eq_some_iff.1 h
 unfold qAt
 rw [List.drop_eq_getElem_cons hk, qEnd, hc, cond_true, List.drop_drop, Option.map_map]
 congr 1
 funext x; simp only [Function.comp]; omega
theorem qAt_quote {s : List UInt8} {k : Nat} {c : UInt8} (h : s[k]? = some c) (h9 : decide ((c.toNat : Int) = 92) = false) (hc : decide ((c.toNat : Int) = 34) = true) : qAt s k = some k := by
 obtain ⟨hk, rfl⟩ := List.getElem?_eq_some_iff.1 h
 unfold qAt
 rw [List.drop_eq_getElem_cons hk, qEnd, h9, hc, cond_true, cond_false]
 simp
theorem qAt_no {s : List UInt8} {k : Nat} {c : UInt8} (h : s[k]? = some c) (h9 : decide ((c.toNat : Int) = 92) = false) (hc : decide ((c.toNat : Int) = 34) = false) : qAt s k = qAt s (k + 1) := by
 obtain ⟨hk, rfl⟩ := List.getElem?_eq_some_iff.1 h
 unfold qAt
 rw [List.drop_eq_getElem_cons hk, qEnd, h9, hc, cond_false, cond_false, Option.map_map]
 congr 1
 funext x; simp only [Function.comp]; omega
theorem qEnd_lt : ∀ (l : List UInt8) (j : Nat), qEnd l = some j → j < l.length
 | [], j, h => by rw [qEnd] at h; cases h
 | c :: l, j, h => by
  rw [qEnd] at h
  have h1 := qEnd_lt (l.drop 1)
  have h2 := qEnd_lt l
  rw [List.length_drop] at h1
  rw [List.length_cons]
  revert h
  cases decide ((c.toNat : Int) = 92) with
  | true =>
   simp only [cond_true]
   intro h
   obtain ⟨x, hx, rfl⟩ := Option.map_eq_some_iff.1 h
   have := h1 x hx; omega
  | false =>
   cases decide ((c.toNat : Int) = 34) with
   | true => simp only [cond_true, cond_false]; intro h; cases h; omega
   | false =>
    simp only [cond_false]
    intro h
    obtain ⟨x, hx, rfl⟩ := Option.map_eq_some_iff.1 h
    have := h2 x hx; omega
termination_by l => l.length
decreasing_by all_goals (simp; try omega)
theorem qAt_bd {s : List UInt8} {k j : Nat} (h : qAt s k = some j) : k ≤ j ∧ j < s.length := by
 unfold qAt at h
 obtain ⟨x, hx, rfl⟩ := Option.map_eq_some_iff.1 h
 have := qEnd_lt _ _ hx
 rw [List.length_drop] at this
 omega
/-- what follows a closing quote at j: token, code -/
def qTok (t : List UInt8) : Tok × Int := match unqV t with
 | none => (zeroTok, 5)
 | some u => bif decide ((64 : Int) < (u.length : Int)) then (zeroTok, 2) else (⟨4, u, 0, 0⟩, 0)
def quoV (s : List UInt8) (i : Nat) : (Tok × Int) × Nat := match qAt s (i + 1) with
 | none => ((zeroTok, 5), i)
 | some j => (qTok ((s.take (j + 1)).drop i), j + 1)
theorem quoted_c (s : List UInt8) (hs : s.length ≤ 1000000000) (i : Nat) (hi : i < s.length) :
  PCB Tryd.prog 65 [Scp pin] [(pin, scB s i)] (TkR (quoV s i).1) [(pin, scB s (quoV s i).2)] := by
 have hw0 := wk64 hi (show s.length ≤ 1000000000000 by omega)
 refine PCB.of_body Tryd.func65 rfl (by decide) Tryd.ntmps65 Tryd.results65 rfl rfl rfl ?_ rfl rfl
 repeat' (first | (simp only [go_sem, zA, zB, zC, zD, zE, zF, zG, reduceCtorEq, zH, zI, zJ, zK, zL, pin, hw0]; all_goals fail_if_success guard_target =ₛ False) | (with_reducible first | ((first | refine seqVC_stepN rfl ?_ | refine AWP.seq ?_ | refine AWP.seqR (by kernel_rfl) ?_ | refine parVC_stepN rfl ?_ | refine parEVC_stepN rfl ?_ | refine genVC_stepN rfl ?_); intro K hK) | ((first | refine hK _ _ _ ?_ | refine hK _ _ ?_ | refine hK _ ?_); clear hK K) | refine seqVC_nil ?_ | refine parVC_nil ?_ | refine parEVC_nil ?_ | refine genVC_nil ?_ | refine AWP.block ?_ | (refine AWP.cond (by with_unfolding_all rfl) ?_ ?_ <;> intro h <;> (try simp only [zM, zN] at h) <;> try exact absurd h (by decide)) | refine AWP.skip ?_ | refine AWP.ret ?_ | refine AWP.exit ?_ | refine AWP.parR mixed (by kernel_rfl) fun K hK => ?_ | refine ⟨(by kernel_rfl : depB _ _ _ = true), ?_⟩ | refine Or.inl ?_) | (clear hK K))
 refine AWP.loopF (X := Nat) (fun k => [(0, Scp 1000000), (4, I .i64 (k : Nat))]) (fun k => [(1000000, scB s i), (2, .cells [.dat (.int .i64 0), .dat (.str []), .dat (.int .i64 0), .dat (.int .i64 0)])]) [2] [] (fun k => i + 1 ≤ k ∧ k ≤ s.length + 1 ∧ qAt s (i + 1) = qAt s k) (fun k => s.length + 1 - k) (i + 1) (by simp only [go_sem, zA, zB, zC, zD, zE, zF, zG, reduceCtorEq, zH, zI, zJ, zK, zL]; exact Gh.to [] (by repeat (first | exact trivial | refine ⟨rfl, ?_⟩ | refine ⟨by (simp only [go_sem, zA, zB, zC, zD, zE, zF, zG, reduceCtorEq, zH, zI, zJ, zK, zL, List.length_append, List.length_map, List.length_cons, List.length_nil, Nat.zero_add]) <;> rfl, ?_⟩)) (by repeat (first | exact trivial | refine ⟨rfl, ?_⟩ | refine ⟨by (simp only [go_sem, zA, zB, zC, zD, zE, zF, zG, reduceCtorEq, zH, zI, zJ, zK, zL, List.length_append, List.length_map, List.length_cons, List.length_nil, Nat.zero_add]) <;> rfl, ?_⟩)) rfl rfl rfl) ?_ ?_
 ·exact ⟨Nat.le_refl _, by omega, rfl⟩
 rintro k ⟨hik, hks, hok⟩
 simp only [go_sem, zA, zB, zC, zD, zE, zF, zG, reduceCtorEq, zH, zI, zJ, zK, zL]
 by_cases hlt : k < s.length
 ·obtain ⟨c, hc⟩ := byte_at hlt
  have hd : decide ((k : Int) < (s.length : Int)) = true := by rw [decide_eq_true_eq]; omega
  have hw := wk64 hlt (show s.length ≤ 1000000000000 by omega)
  cases h9 : decide ((c.toNat : Int) = 92) with
  | true =>
   rw [qAt_esc hc h9] at hok
   have hw2 : IntKind.i64.wrap (((k + 1 : Nat) : Int) + 1) = ((k + 2 : Nat) : Int) := by rw [w64 (by omega)]; rfl
   repeat' (first | (simp only [go_sem, zA, zB, zC, zD, zE, zF, zG, reduceCtorEq, zH, zI, zJ, zK, zL, pin, hd, h9, hw, hw2]; all_goals fail_if_success guard_target =ₛ False) | (with_reducible first | ((first | refine seqVC_stepN rfl ?_ | refine AWP.seq ?_ | refine AWP.seqR (by kernel_rfl) ?_ | refine parVC_stepN rfl ?_ | refine parEVC_stepN rfl ?_ | refine genVC_stepN rfl ?_); intro K hK) | ((first | refine hK _ _ _ ?_ | refine hK _ _ ?_ | refine hK _ ?_); clear hK K) | refine seqVC_nil ?_ | refine parVC_nil ?_ | refine parEVC_nil ?_ | refine genVC_nil ?_ | refine AWP.block ?_ | (refine AWP.cond (by with_unfolding_all rfl) ?_ ?_ <;> intro h <;> (try simp only [zM, zN] at h) <;> try exact absurd h (by decide)) | refine AWP.skip ?_ | refine AWP.ret ?_ | refine AWP.exit ?_ | refine ⟨by omega, c, hc, ?_⟩ | refine AWP.parR mixed (by kernel_rfl) fun K hK => ?_ | refine ⟨(by kernel_rfl : depB _ _ _ = true), ?_⟩ | refine Or.inl ?_) | (clear hK K))
   all_goals (refine ⟨k + 2, by omega, ⟨by omega, by omega, hok⟩, Gh.to [] (by repeat (first | exact trivial | refine ⟨rfl, ?_⟩ | refine ⟨by (simp only [go_sem, zA, zB, zC, zD, zE, zF, zG, reduceCtorEq, zH, zI, zJ, zK, zL, List.length_append, List.length_map, List.length_cons, List.length_nil, Nat.zero_add]) <;> rfl, ?_⟩)) (by repeat (first | exact trivial | refine ⟨rfl, ?_⟩ | refine ⟨by (simp only [go_sem, zA, zB, zC, zD, zE, zF, zG, reduceCtorEq, zH, zI, zJ, zK, zL, List.length_append, List.length_map, List.length_cons, List.length_nil, Nat.zero_add]) <;> rfl, ?_⟩)) rfl rfl rfl⟩)
  | false =>
   cases h3 : decide ((c.toNat : Int) = 34) with
   | false =>
    rw [qAt_no hc h9 h3] at hok
    repeat' (first | (simp only [go_sem, zA, zB, zC, zD, zE, zF, zG, reduceCtorEq, zH, zI, zJ, zK, zL, pin, hd, h9, h3, hw]; all_goals fail_if_success guard_target =ₛ False) | (with_reducible first | ((first | refine seqVC_stepN rfl ?_ | refine AWP.seq ?_ | refine AWP.seqR (by kernel_rfl) ?_ | refine parVC_stepN rfl ?_ | refine parEVC_stepN rfl ?_ | refine genVC_stepN rfl ?_); intro K hK) | ((first | refine hK _ _ _ ?_ | refine hK _ _ ?_ | refine hK _ ?_); clear hK K) | refine seqVC_nil ?_ | refine parVC_nil ?_ | refine parEVC_nil ?_ | refine genVC_nil ?_ | refine AWP.block ?_ | (refine AWP.cond (by with_unfolding_all rfl) ?_ ?_ <;> intro h <;> (try simp only [zM, zN] at h) <;> try exact absurd h (by decide)) | refine AWP.skip ?_ | refine AWP.ret ?_ | refine AWP.exit ?_ | refine ⟨by omega, c, hc, ?_⟩ | refine AWP.parR mixed (by kernel_rfl) fun K hK => ?_ | refine ⟨(by kernel_rfl : depB _ _ _ = true), ?_⟩ | refine Or.inl ?_) | (clear hK K))
    all_goals (refine ⟨k + 1, by omega, ⟨by omega, by omega, hok⟩, Gh.to [] (by repeat (first | exact trivial | refine ⟨rfl, ?_⟩ | refine ⟨by (simp only [go_sem, zA, zB, zC, zD, zE, zF, zG, reduceCtorEq, zH, zI, zJ, zK, zL, List.length_append, List.length_map, List.length_cons, List.length_nil, Nat.zero_add]) <;> rfl, ?_⟩)) (by repeat (first | exact trivial | refine ⟨rfl, ?_⟩ | refine ⟨by (simp only [go_sem, zA, zB, zC, zD, zE, zF, zG, reduceCtorEq, zH, zI, zJ, zK, zL, List.length_append, List.length_map, List.length_cons, List.length_nil, Nat.zero_add]) <;> rfl, ?_⟩)) rfl rfl rfl⟩)
   | true =>
    rw [qAt_quote hc h9 h3] at hok
    have hu := unquote_c ((s.take (k + 1)).drop i) (by simp only [List.length_drop, List.length_take]; omega)
    have hq : quoV s i = (qTok ((s.take (k + 1)).drop i), k + 1) := by unfold quoV; rw [hok]
    rw [hq]
    unfold qTok
    cases hv : unqV ((s.take (k + 1)).drop i) with
    | none =>
     rw [hv] at hu
     simp only [Option.getD_none, Option.isSome_none, cond_false] at hu
     repeat' (first | (simp only [go_sem, zA, zB, zC, zD, zE, zF, zG, reduceCtorEq, zH, zI, zJ, zK, zL, pin, hd, h9, h3, hw]; all_goals fail_if_success guard_target =ₛ False) | (with_reducible first | ((first | refine seqVC_stepN rfl ?_ | refine AWP.seq ?_ | refine AWP.seqR (by kernel_rfl) ?_ | refine parVC_stepN rfl ?_ | refine parEVC_stepN rfl ?_ | refine genVC_stepN rfl ?_); intro K hK) | ((first | refine hK _ _ _ ?_ | refine hK _ _ ?_ | refine hK _ ?_); clear hK K) | refine seqVC_nil ?_ | refine parVC_nil ?_ | refine parEVC_nil ?_ | refine genVC_nil ?_ | refine AWP.block ?_ | (refine AWP.cond (by with_unfolding_all rfl) ?_ ?_ <;> intro h <;> (try simp only [zM, zN] at h) <;> try exact absurd h (by decide)) | refine AWP.skip ?_ | refine AWP.ret ?_ | refine AWP.exit ?_ | refine ⟨_, hu, ?_⟩ | refine ⟨by omega, c, hc, ?_⟩ | refine ⟨by omega, by omega, by omega, ?_⟩ | refine AWP.parR mixed (by kernel_rfl) fun K hK => ?_ | refine ⟨(by kernel_rfl : depB _ _ _ = true), ?_⟩ | refine Or.inl ?_) | (clear hK K))
     all_goals (refine ⟨by first | trivial | rfl, fun x hx => ?_⟩; simp only [List.mem_singleton] at hx; subst hx; simp)
    | some u =>
     rw [hv] at hu
     simp only [Option.getD_some, Option.isSome_some, cond_true] at hu
     cases h6 : decide ((64 : Int) < (u.length : Int)) with
     | true =>
      repeat' (first | (simp only [go_sem, zA, zB, zC, zD, zE, zF, zG, reduceCtorEq, zH, zI, zJ, zK, zL, pin, hd, h9, h3, h6, hw]; all_goals fail_if_success guard_target =ₛ False) | (with_reducible first | ((first | refine seqVC_stepN rfl ?_ | refine AWP.seq ?_ | refine AWP.seqR (by kernel_rfl) ?_ | refine parVC_stepN rfl ?_ | refine parEVC_stepN rfl ?_ | refine genVC_stepN rfl ?_); intro K hK) | ((first | refine hK _ _ _ ?_ | refine hK _ _ ?_ | refine hK _ ?_); clear hK K) | refine seqVC_nil ?_ | refine parVC_nil ?_ | refine parEVC_nil ?_ | refine genVC_nil ?_ | refine AWP.block ?_ | (refine AWP.cond (by with_unfolding_all rfl) ?_ ?_ <;> intro h <;> (try simp only [zM, zN] at h) <;> try exact absurd h (by decide)) | refine AWP.skip ?_ | refine AWP.ret ?_ | refine AWP.exit ?_ | refine ⟨_, hu, ?_⟩ | refine ⟨by omega, c, hc, ?_⟩ | refine ⟨by omega, by omega, by omega, ?_⟩ | refine AWP.parR mixed (by kernel_rfl) fun K hK => ?_ | refine ⟨(by kernel_rfl : depB _ _ _ = true), ?_⟩ | refine Or.inl ?_) | (clear hK K))
      all_goals (refine ⟨by first | trivial | rfl, fun x hx => ?_⟩; simp only [List.mem_singleton] at hx; subst hx; simp)
     | false =>
      repeat' (first | (simp only [go_sem, zA, zB, zC, zD, zE, zF, zG, reduceCtorEq, zH, zI, zJ, zK, zL, pin, hd, h9, h3, h6, hw]; all_goals fail_if_success guard_target =ₛ False) | (with_reducible first | ((first | refine seqVC_stepN rfl ?_ | refine AWP.seq ?_ | refine AWP.seqR (by kernel_rfl) ?_ | refine parVC_stepN rfl ?_ | refine parEVC_stepN rfl ?_ | refine genVC_stepN rfl ?_); intro K hK) | ((first | refine hK _ _ _ ?_ | refine hK _ _ ?_ | refine hK _ ?_); clear hK K) | refine seqVC_nil ?_ | refine parVC_nil ?_ | refine parEVC_nil ?_ | refine genVC_nil ?_ | refine AWP.block ?_ | (refine AWP.cond (by with_unfolding_all rfl) ?_ ?_ <;> intro h <;> (try simp only [zM, zN] at h) <;> try exact absurd h (by decide)) | refine AWP.skip ?_ | refine AWP.ret ?_ | refine AWP.exit ?_ | refine ⟨_, hu, ?_⟩ | refine ⟨by omega, c, hc, ?_⟩ | refine ⟨by omega, by omega, by omega, ?_⟩ | refine AWP.parR mixed (by kernel_rfl) fun K hK => ?_ | refine ⟨(by kernel_rfl : depB _ _ _ = true), ?_⟩ | refine Or.inl ?_) | (clear hK K))
      all_goals (refine ⟨by first | trivial | rfl, fun x hx => ?_⟩; simp only [List.mem_singleton] at hx; subst hx; simp)
 ·have hd : decide ((k : Int) < (s.length : Int)) = false := by rw [decide_eq_false_iff_not]; omega
  rw [qAt_end (s := s) (k := k) (by omega)] at hok
  have hq : quoV s i = ((zeroTok, 5), i) := by unfold quoV; rw [hok]
  repeat' (first | (simp only [go_sem, zA, zB, zC, zD, zE, zF, zG, reduceCtorEq, zH, zI, zJ, zK, zL, pin, hd]; all_goals fail_if_success guard_target =ₛ False) | (with_reducible first | ((first | refine seqVC_stepN rfl ?_ | refine AWP.seq ?_ | refine AWP.seqR (by kernel_rfl) ?_ | refine parVC_stepN rfl ?_ | refine parEVC_stepN rfl ?_ | refine genVC_stepN rfl ?_); intro K hK) | ((first | refine hK _ _ _ ?_ | refine hK _ _ ?_ | refine hK _ ?_); clear hK K) | refine seqVC_nil ?_ | refine parVC_nil ?_ | refine parEVC_nil ?_ | refine genVC_nil ?_ | refine AWP.block ?_ | (refine AWP.cond (by with_unfolding_all rfl) ?_ ?_ <;> intro h <;> (try simp only [zM, zN] at h) <;> try exact absurd h (by decide)) | refine AWP.skip ?_ | refine AWP.ret ?_ | refine AWP.exit ?_ | refine AWP.parR mixed (by kernel_rfl) fun K hK => ?_ | refine ⟨(by kernel_rfl : depB _ _ _ = true), ?_⟩ | refine Or.inl ?_) | (clear hK K))
  all_goals (simp only [hq])
  all_goals (refine ⟨by first | trivial | rfl, fun x hx => ?_⟩; simp only [List.mem_singleton] at hx; subst hx; simp)
theorem cut_le (s p : List UInt8) : (Lib.cut s p).1.length ≤ s.length := by
 unfold Lib.cut
 split
 ·simp only [List.length_take]; omega
 ·exact Nat.le_refl _
/-- what follows a backquote at i -/
def encV (s : List UInt8) (i : Nat) : (Tok × Int) × Nat :=
 bif (Lib.cut (s.drop (i + 1)) [96]).2.2 then ((⟨5, (Lib.cut (s.drop (i + 1)) [96]).1, 0, 0⟩, 0), i + ((Lib.cut (s.drop (i + 1)) [96]).1.length + 2)) else ((zeroTok, 5), i)
theorem enclosed_c (s : List UInt8) (hs : s.length ≤ 1000000000) (i : Nat) (hi : i < s.length) :
  PCB Tryd.prog 66 [Scp pin] [(pin, scB s i)] (TkR (encV s i).1) [(pin, scB s (encV s i).2)] := by
 have hw0 := wk64 hi (show s.length ≤ 1000000000000 by omega)
 have hcut := cut_c (s.drop (i + 1)) [96] (by rw [List.length_drop]; omega)
 have hlen := cut_le (s.drop (i + 1)) [96]
 rw [List.length_drop] at hlen
 unfold encV
 generalize Lib.cut (s.drop (i + 1)) [96] = r at hcut hlen
 obtain ⟨t, u, ok⟩ := r
 have hw1 : IntKind.i64.wrap ((t.length : Int) + 2) = ((t.length + 2 : Nat) : Int) := by rw [w64 (by simp only at hlen; omega)]; rfl
 have hw2 : IntKind.i64.wrap ((i : Int) + ((t.length + 2 : Nat) : Int)) = ((i + (t.length + 2) : Nat) : Int) := by rw [w64 (by simp only at hlen; omega)]; rfl
 simp only at hcut
 refine PCB.of_body Tryd.func66 rfl (by decide) Tryd.ntmps66 Tryd.results66 rfl rfl rfl ?_ rfl rfl
 cases ok with
 | true =>
  repeat' (first | (simp only [go_sem, zA, zB, zC, zD, zE, zF, zG, reduceCtorEq, zH, zI, zJ, zK, zL, pin, hw0, hw1, hw2, List.take_length]; all_goals fail_if_success guard_target =ₛ False) | (with_reducible first | ((first | refine seqVC_stepN rfl ?_ | refine AWP.seq ?_ | refine AWP.seqR (by kernel_rfl) ?_ | refine parVC_stepN rfl ?_ | refine parEVC_stepN rfl ?_ | refine genVC_stepN rfl ?_); intro K hK) | ((first | refine hK _ _ _ ?_ | refine hK _ _ ?_ | refine hK _ ?_); clear hK K) | refine seqVC_nil ?_ | refine parVC_nil ?_ | refine parEVC_nil ?_ | refine genVC_nil ?_ | refine AWP.block ?_ | (refine AWP.cond (by with_unfolding_all rfl) ?_ ?_ <;> intro h <;> (try simp only [zM, zN] at h) <;> try exact absurd h (by decide)) | refine AWP.skip ?_ | refine AWP.ret ?_ | refine AWP.exit ?_ | refine ⟨_, hcut, ?_⟩ | refine ⟨by omega, by omega, by omega, ?_⟩ | refine AWP.parR mixed (by kernel_rfl) fun K hK => ?_ | refine ⟨(by kernel_rfl : depB _ _ _ = true), ?_⟩ | refine Or.inl ?_) | (clear hK K))
  all_goals (refine ⟨by first | trivial | rfl, fun x hx => ?_⟩; simp only [cond_true, List.mem_singleton] at hx; subst hx; simp)
 | false =>
  repeat' (first | (simp only [go_sem, zA, zB, zC, zD, zE, zF, zG, reduceCtorEq, zH, zI, zJ, zK, zL, pin, hw0, hw1, hw2, List.take_length]; all_goals fail_if_success guard_target =ₛ False) | (with_reducible first | ((first | refine seqVC_stepN rfl ?_ | refine AWP.seq ?_ | refine AWP.seqR (by kernel_rfl) ?_ | refine parVC_stepN rfl ?_ | refine parEVC_stepN rfl ?_ | refine genVC_stepN rfl ?_); intro K hK) | ((first | refine hK _ _ _ ?_ | refine hK _ _ ?_ | refine hK _ ?_); clear hK K) | refine seqVC_nil ?_ | refine parVC_nil ?_ | refine parEVC_nil ?_ | refine genVC_nil ?_ | refine AWP.block ?_ | (refine AWP.cond (by with_unfolding_all rfl) ?_ ?_ <;> intro h <;> (try simp only [zM, zN] at h) <;> try exact absurd h (by decide)) | refine AWP.skip ?_ | refine AWP.ret ?_ | refine AWP.exit ?_ | refine ⟨_, hcut, ?_⟩ | refine ⟨by omega, by omega, by omega, ?_⟩ | refine AWP.parR mixed (by kernel_rfl) fun K hK => ?_ | refine ⟨(by kernel_rfl : depB _ _ _ = true), ?_⟩ | refine Or.inl ?_) | (clear hK K))
  all_goals (refine ⟨by first | trivial | rfl, fun x hx => ?_⟩; simp only [cond_false, List.mem_singleton] at hx; subst hx; simp)
end Go.Proofs.YtogponhonjiidaaDoor
set_option linter.unusedSimpArgs false
set_option linter.unusedVariables false
set_option maxRecDepth 20000
set_option maxHeartbeats 16000000
namespace Go.Proofs.YtogponhonjiidaaDoor
open Go Go.Sx
open Nat renaming reduceBEq → zA, reduceBNe → zB, reduceAdd → zC, reduceSub → zD, reduceMul → zE, reduceLeDiff → zF, reduceLT → zG, reduceEqDiff → zH
open Int renaming reduceToNat → zI, reduceLE → zJ, reduceLT → zK, reduceEq → zL
open Bool renaming not_eq_true' → zM, not_eq_false' → zN
theorem shr4 (c : UInt8) : (c.toNat : Int).fdiv (2 ^ min 4 8) = ((c.toNat / 16 : Nat) : Int) := by
 have : ∀ n : Nat, n < 256 → (n : Int).fdiv (2 ^ min 4 8) = ((n / 16 : Nat) : Int) := by decide +kernel
 exact this _ (UInt8.toNat_lt c)
theorem and15 (c : UInt8) : IntKind.u8.wrap (BitVec.ofInt 8 (c.toNat : Int) &&& BitVec.ofInt 8 15).toNat = ((c.toNat % 16 : Nat) : Int) := by
 have : ∀ n : Nat, n < 256 → IntKind.u8.wrap (BitVec.ofInt 8 (n : Int) &&& BitVec.ofInt 8 15).toNat = ((n % 16 : Nat) : Int) := by decide +kernel
 exact this _ (UInt8.toNat_lt c)
theorem hexAt (n : Nat) (h : n < 16) : ([48, 49, 50, 51, 52, 53, 54, 55, 56, 57, 97, 98, 99, 100, 101, 102] : List UInt8)[n]? = some (Sx.hexd n) := by
 revert n; decide
theorem snoc1 (l : List UInt8) (c : UInt8) : l.map encU8 ++ [[.int .u8 (c.toNat : Int)]] = (l ++ [c]).map encU8 := by simp [encU8]
theorem snoc34 (l : List UInt8) : l.map encU8 ++ [[.int .u8 34]] = (l ++ [34]).map encU8 := by rw [List.map_append]; rfl
theorem snoc2 (l : List UInt8) (c : UInt8) : l.map encU8 ++ [[.int .u8 92], [.int .u8 (c.toNat : Int)]] = (l ++ [92, c]).map encU8 := by rw [List.map_append]; rfl
theorem snoc4 (l : List UInt8) (c d : UInt8) : l.map encU8 ++ [[.int .u8 92], [.int .u8 120], [.int .u8 (c.toNat : Int)], [.int .u8 (d.toNat : Int)]] = (l ++ [92, 120, c, d]).map encU8 := by rw [List.map_append]; rfl
theorem rquote_c (s : List UInt8) (hs : s.length ≤ 1000000000) : PC Tryd.prog 16 [S s] (S (Sx.quoteL s)) := by
 have hqb := quoteB_le s
 refine PCB.of_body Tryd.func16 rfl (by decide) Tryd.ntmps16 Tryd.results16 rfl rfl rfl ?_ rfl rfl
 repeat' (first | (simp only [go_sem, zA, zB, zC, zD, zE, zF, zG, reduceCtorEq, zH, zI, zJ, zK, zL]; all_goals fail_if_success guard_target =ₛ False) | (with_reducible first | ((first | refine seqVC_stepN rfl ?_ | refine seqVC_stepG rfl (by with_unfolding_all rfl) ?_ | refine AWP.seq ?_ | refine AWP.seqR (by kernel_rfl) ?_ | refine parVC_stepN rfl ?_ | refine parVC_stepG rfl (by with_unfolding_all rfl) ?_ | refine parEVC_stepN rfl ?_ | refine parEVC_stepG rfl (by with_unfolding_all rfl) ?_ | refine genVC_stepN rfl ?_ | refine genVC_stepG rfl (by with_unfolding_all rfl) ?_); intro K hK) | ((first | refine hK _ _ _ ?_ | refine hK _ _ ?_ | refine hK _ ?_); clear hK K) | refine seqVC_nil ?_ | refine parVC_nil ?_ | refine parEVC_nil ?_ | refine genVC_nil ?_ | refine AWP.block ?_ | (refine AWP.cond (by with_unfolding_all rfl) ?_ ?_ <;> intro h <;> (try simp only [zM, zN] at h) <;> try exact absurd h (by decide)) | refine AWP.skip ?_ | refine AWP.ret ?_ | refine AWP.exit ?_ | (refine ⟨fun h => ?_, fun h => ?_⟩ <;> (try simp only [zM, zN] at h) <;> try simp only [h]) | (refine Or.inr (show vBuildOwn _ 7 _ _ _ _ _ _ from ?_); unfold vBuildOwn; with_reducible refine Or.inr ?_; simp only [vBuildRow, go_sem, zA, zB, zC, zD, zE, zF, zG, reduceCtorEq, zH, zI, zJ, zK, zL]) | (refine AWP.segP (id := 7) 10 mixed (by kernel_rfl) fun K hK => ?_; simp only [List.take_succ_cons, List.take_zero, List.drop_succ_cons, List.drop_zero]) | refine AWP.parR mixed (by kernel_rfl) fun K hK => ?_ | refine ⟨(by kernel_rfl : depB _ _ _ = true), ?_⟩ | refine Or.inl ?_) | (clear hK K))
 refine AWP.loopF (X := Nat × List UInt8) (fun x => [(5, I .i64 (x.1 : Nat)), (4, .one (.own 7 x.2.length))]) (fun x => [(7, .row 1 (x.2.map encU8))]) [0, 3] [] (fun x => x.1 ≤ s.length ∧ x.2 = 34 :: Sx.quoteB (s.take x.1) ∧ x.2.length ≤ 4 * x.1 + 1) (fun x => s.length - x.1) ((0, [34])) (by simp only [go_sem, zA, zB, zC, zD, zE, zF, zG, reduceCtorEq, zH, zI, zJ, zK, zL]; exact Gh.to [] (by repeat (first | exact trivial | refine ⟨rfl, ?_⟩ | refine ⟨by (simp only [go_sem, zA, zB, zC, zD, zE, zF, zG, reduceCtorEq, zH, zI, zJ, zK, zL, List.length_append, List.length_map, List.length_cons, List.length_nil, Nat.zero_add]) <;> rfl, ?_⟩)) (by repeat (first | exact trivial | refine ⟨rfl, ?_⟩ | refine ⟨by (simp only [go_sem, zA, zB, zC, zD, zE, zF, zG, reduceCtorEq, zH, zI, zJ, zK, zL, List.length_append, List.length_map, List.length_cons, List.length_nil, Nat.zero_add]) <;> rfl, ?_⟩)) rfl rfl rfl) ?_ ?_
 ·exact ⟨Nat.zero_le _, by rw [List.take_zero]; rfl, by simp⟩
 rintro ⟨k, acc⟩ ⟨hk, hacc, hal⟩
 simp only at hk hacc hal
 simp only [go_sem, zA, zB, zC, zD, zE, zF, zG, reduceCtorEq, zH, zI, zJ, zK, zL]
 by_cases hlt : k < s.length
 ·obtain ⟨c, hc⟩ := byte_at hlt
  have hd : decide ((k : Int) < (s.length : Int)) = true := by rw [decide_eq_true_eq]; omega
  have hw := wk64 hlt (show s.length ≤ 1000000000000 by omega)
  have hq := quoteB_succ s k hlt
  rw [show s[k] = c from (List.getElem?_eq_some_iff.1 hc).2] at hq
  have hql := quote1_le c
  have hnew : acc ++ Sx.quote1 c = 34 :: Sx.quoteB (s.take (k + 1)) := by rw [hacc, hq]; rfl
  have hm := UInt8.toNat_lt c
  unfold Sx.quote1 at hnew
  cases h34 : decide ((c.toNat : Int) = 34) with
  | true =>
   rw [show decide (c.toNat = 34) = true by simp at h34 ⊢; omega] at hnew
   simp only [Bool.true_or, cond_true] at hnew
   repeat' (first | (simp only [go_sem, zA, zB, zC, zD, zE, zF, zG, reduceCtorEq, zH, zI, zJ, zK, zL, hd, h34, hw, snoc2, List.length_map]; all_goals fail_if_success guard_target =ₛ False) | (with_reducible first | ((first | refine seqVC_stepN rfl ?_ | refine seqVC_stepG rfl (by with_unfolding_all rfl) ?_ | refine AWP.seq ?_ | refine AWP.seqR (by kernel_rfl) ?_ | refine parVC_stepN rfl ?_ | refine parVC_stepG rfl (by with_unfolding_all rfl) ?_ | refine parEVC_stepN rfl ?_ | refine parEVC_stepG rfl (by with_unfolding_all rfl) ?_ | refine genVC_stepN rfl ?_ | refine genVC_stepG rfl (by with_unfolding_all rfl) ?_); intro K hK) | ((first | refine hK _ _ _ ?_ | refine hK _ _ ?_ | refine hK _ ?_); clear hK K) | refine seqVC_nil ?_ | refine parVC_nil ?_ | refine parEVC_nil ?_ | refine genVC_nil ?_ | refine AWP.block ?_ | (refine AWP.cond (by with_unfolding_all rfl) ?_ ?_ <;> intro h <;> (try simp only [zM, zN] at h) <;> try exact absurd h (by decide)) | refine AWP.skip ?_ | refine AWP.ret ?_ | refine AWP.exit ?_ | (refine ⟨fun h => ?_, fun h => ?_⟩ <;> (try simp only [zM, zN] at h) <;> try simp only [h]) | (refine ⟨(by first | omega | (simp only [List.length_append, List.length_map, List.length_take, List.length_drop, List.length_cons, List.length_nil, List.length_replicate]; omega) : _ ≤ _), ?_⟩) | refine ⟨by omega, by omega, ?_⟩ | refine ⟨by omega, c, hc, ?_⟩ | (refine AWP.segP (id := 7) 10 mixed (by kernel_rfl) fun K hK => ?_; simp only [List.take_succ_cons, List.take_zero, List.drop_succ_cons, List.drop_zero]) | refine AWP.parR mixed (by kernel_rfl) fun K hK => ?_ | refine ⟨(by kernel_rfl : depB _ _ _ = true), ?_⟩ | refine Or.inl ?_) | (clear hK K))
   all_goals (refine ⟨(k + 1, acc ++ [92, c]), by simp only; omega, ⟨by simp only; omega, hnew, by simp only [List.length_append, List.length_cons, List.length_nil]; omega⟩, Gh.to [(7, 38)] (by repeat (first | exact trivial | refine ⟨rfl, ?_⟩ | refine ⟨by (simp only [go_sem, zA, zB, zC, zD, zE, zF, zG, reduceCtorEq, zH, zI, zJ, zK, zL, List.length_append, List.length_map, List.length_cons, List.length_nil, Nat.zero_add]) <;> rfl, ?_⟩)) (by repeat (first | exact trivial | refine ⟨rfl, ?_⟩ | refine ⟨by (simp only [go_sem, zA, zB, zC, zD, zE, zF, zG, reduceCtorEq, zH, zI, zJ, zK, zL, List.length_append, List.length_map, List.length_cons, List.length_nil, Nat.zero_add]) <;> rfl, ?_⟩)) rfl rfl rfl⟩)
  | false =>
  rw [show decide (c.toNat = 34) = false by simp at h34 ⊢; omega] at hnew
  cases h92 : decide ((c.toNat : Int) = 92) with
  | true =>
   rw [show decide (c.toNat = 92) = true by simp at h92 ⊢; omega] at hnew
   simp only [Bool.or_true, cond_true] at hnew
   repeat' (first | (simp only [go_sem, zA, zB, zC, zD, zE, zF, zG, reduceCtorEq, zH, zI, zJ, zK, zL, hd, h34, h92, hw, snoc2, List.length_map]; all_goals fail_if_success guard_target =ₛ False) | (with_reducible first | ((first | refine seqVC_stepN rfl ?_ | refine seqVC_stepG rfl (by with_unfolding_all rfl) ?_ | refine AWP.seq ?_ | refine AWP.seqR (by kernel_rfl) ?_ | refine parVC_stepN rfl ?_ | refine parVC_stepG rfl (by with_unfolding_all rfl) ?_ | refine parEVC_stepN rfl ?_ | refine parEVC_stepG rfl (by with_unfolding_all rfl) ?_ | refine genVC_stepN rfl ?_ | refine genVC_stepG rfl (by with_unfolding_all rfl) ?_); intro K hK) | ((first | refine hK _ _ _ ?_ | refine hK _ _ ?_ | refine hK _ ?_); clear hK K) | refine seqVC_nil ?_ | refine parVC_nil ?_ | refine parEVC_nil ?_ | refine genVC_nil ?_ | refine AWP.block ?_ | (refine AWP.cond (by with_unfolding_all rfl) ?_ ?_ <;> intro h <;> (try simp only [zM, zN] at h) <;> try exact absurd h (by decide)) | refine AWP.skip ?_ | refine AWP.ret ?_ | refine AWP.exit ?_ | (refine ⟨fun h => ?_, fun h => ?_⟩ <;> (try simp only [zM, zN] at h) <;> try simp only [h]) | (refine ⟨(by first | omega | (simp only [List.length_append, List.length_map, List.length_take, List.length_drop, List.length_cons, List.length_nil, List.length_replicate]; omega) : _ ≤ _), ?_⟩) | refine ⟨by omega, by omega, ?_⟩ | refine ⟨by omega, c, hc, ?_⟩ | (refine AWP.segP (id := 7) 10 mixed (by kernel_rfl) fun K hK => ?_; simp only [List.take_succ_cons, List.take_zero, List.drop_succ_cons, List.drop_zero]) | refine AWP.parR mixed (by kernel_rfl) fun K hK => ?_ | refine ⟨(by kernel_rfl : depB _ _ _ = true), ?_⟩ | refine Or.inl ?_) | (clear hK K))
   all_goals (refine ⟨(k + 1, acc ++ [92, c]), by simp only; omega, ⟨by simp only; omega, hnew, by simp only [List.length_append, List.length_cons, List.length_nil]; omega⟩, Gh.to [(7, 38)] (by repeat (first | exact trivial | refine ⟨rfl, ?_⟩ | refine ⟨by (simp only [go_sem, zA, zB, zC, zD, zE, zF, zG, reduceCtorEq, zH, zI, zJ, zK, zL, List.length_append, List.length_map, List.length_cons, List.length_nil, Nat.zero_add]) <;> rfl, ?_⟩)) (by repeat (first | exact trivial | refine ⟨rfl, ?_⟩ | refine ⟨by (simp only [go_sem, zA, zB, zC, zD, zE, zF, zG, reduceCtorEq, zH, zI, zJ, zK, zL, List.length_append, List.length_map, List.length_cons, List.length_nil, Nat.zero_add]) <;> rfl, ?_⟩)) rfl rfl rfl⟩)
  | false =>
  rw [show decide (c.toNat = 92) = false by simp at h92 ⊢; omega] at hnew
  have e32 : decide (32 ≤ c.toNat) = decide ((32 : Int) ≤ (c.toNat : Int)) := by rw [Bool.eq_iff_iff]; simp; omega
  have e126 : decide (c.toNat ≤ 126) = decide ((c.toNat : Int) ≤ 126) := by rw [Bool.eq_iff_iff]; simp; omega
  rw [e32, e126] at hnew
  simp only [Bool.or_false, cond_false] at hnew
  have hx1 := hexAt (c.toNat / 16) (by omega)
  have hx2 : ([48, 49, 50, 51, 52, 53, 54, 55, 56, 57, 97, 98, 99, 100, 101, 102] : List UInt8)[(IntKind.u8.wrap (BitVec.ofInt 8 (c.toNat : Int) &&& BitVec.ofInt 8 15).toNat).toNat]? = some (Sx.hexd (c.toNat % 16)) := by
   rw [and15, Int.toNat_natCast]; exact hexAt (c.toNat % 16) (by omega)
  cases h3 : decide ((32 : Int) ≤ (c.toNat : Int)) with
  | false =>
   rw [h3] at hnew
   simp only [Bool.false_and, cond_false] at hnew
   repeat' (first | (simp only [go_sem, zA, zB, zC, zD, zE, zF, zG, reduceCtorEq, zH, zI, zJ, zK, zL, hd, h34, h92, h3, hw, snoc4, shr4, Int.toNat_natCast, List.length_map]; all_goals fail_if_success guard_target =ₛ False) | (with_reducible first | ((first | refine seqVC_stepN rfl ?_ | refine seqVC_stepG rfl (by with_unfolding_all rfl) ?_ | refine AWP.seq ?_ | refine AWP.seqR (by kernel_rfl) ?_ | refine parVC_stepN rfl ?_ | refine parVC_stepG rfl (by with_unfolding_all rfl) ?_ | refine parEVC_stepN rfl ?_ | refine parEVC_stepG rfl (by with_unfolding_all rfl) ?_ | refine genVC_stepN rfl ?_ | refine genVC_stepG rfl (by with_unfolding_all rfl) ?_); intro K hK) | ((first | refine hK _ _ _ ?_ | refine hK _ _ ?_ | refine hK _ ?_); clear hK K) | refine seqVC_nil ?_ | refine parVC_nil ?_ | refine parEVC_nil ?_ | refine genVC_nil ?_ | refine AWP.block ?_ | (refine AWP.cond (by with_unfolding_all rfl) ?_ ?_ <;> intro h <;> (try simp only [zM, zN] at h) <;> try exact absurd h (by decide)) | refine AWP.skip ?_ | refine AWP.ret ?_ | refine AWP.exit ?_ | (refine ⟨fun h => ?_, fun h => ?_⟩ <;> (try simp only [zM, zN] at h) <;> try simp only [h]) | (refine ⟨(by first | omega | (simp only [List.length_append, List.length_map, List.length_take, List.length_drop, List.length_cons, List.length_nil, List.length_replicate]; omega) : _ ≤ _), ?_⟩) | refine ⟨by omega, by omega, ?_⟩ | refine ⟨by omega, c, hc, ?_⟩ | refine ⟨_, hx1, ?_⟩) | ( refine ⟨_, hx2, ?_⟩) | (with_reducible first | (refine AWP.segP (id := 7) 10 mixed (by kernel_rfl) fun K hK => ?_; simp only [List.take_succ_cons, List.take_zero, List.drop_succ_cons, List.drop_zero]) | refine AWP.parR mixed (by kernel_rfl) fun K hK => ?_ | refine ⟨(by kernel_rfl : depB _ _ _ = true), ?_⟩ | refine Or.inl ?_) | (clear hK K))
   all_goals (refine ⟨(k + 1, acc ++ [92, 120, Sx.hexd (c.toNat / 16), Sx.hexd (c.toNat % 16)]), by simp only; omega, ⟨by simp only; omega, hnew, by simp only [List.length_append, List.length_cons, List.length_nil]; omega⟩, Gh.to [(7, 27)] (by repeat (first | exact trivial | refine ⟨rfl, ?_⟩ | refine ⟨by (simp only [go_sem, zA, zB, zC, zD, zE, zF, zG, reduceCtorEq, zH, zI, zJ, zK, zL, List.length_append, List.length_map, List.length_cons, List.length_nil, Nat.zero_add]) <;> rfl, ?_⟩)) (by repeat (first | exact trivial | refine ⟨rfl, ?_⟩ | refine ⟨by (simp only [go_sem, zA, zB, zC, zD, zE, zF, zG, reduceCtorEq, zH, zI, zJ, zK, zL, List.length_append, List.length_map, List.length_cons, List.length_nil, Nat.zero_add]) <;> rfl, ?_⟩)) rfl rfl rfl⟩)
  | true =>
  rw [h3] at hnew
  cases h4 : decide ((c.toNat : Int) ≤ 126) with
  | true =>
   rw [h4] at hnew
   simp only [Bool.and_true, cond_true] at hnew
   repeat' (first | (simp only [go_sem, zA, zB, zC, zD, zE, zF, zG, reduceCtorEq, zH, zI, zJ, zK, zL, hd, h34, h92, h3, h4, hw, snoc1, List.length_map]; all_goals fail_if_success guard_target =ₛ False) | (with_reducible first | ((first | refine seqVC_stepN rfl ?_ | refine seqVC_stepG rfl (by with_unfolding_all rfl) ?_ | refine AWP.seq ?_ | refine AWP.seqR (by kernel_rfl) ?_ | refine parVC_stepN rfl ?_ | refine parVC_stepG rfl (by with_unfolding_all rfl) ?_ | refine parEVC_stepN rfl ?_ | refine parEVC_stepG rfl (by with_unfolding_all rfl) ?_ | refine genVC_stepN rfl ?_ | refine genVC_stepG rfl (by with_unfolding_all rfl) ?_); intro K hK) | ((first | refine hK _ _ _ ?_ | refine hK _ _ ?_ | refine hK _ ?_); clear hK K) | refine seqVC_nil ?_ | refine parVC_nil ?_ | refine parEVC_nil ?_ | refine genVC_nil ?_ | refine AWP.block ?_ | (refine AWP.cond (by with_unfolding_all rfl) ?_ ?_ <;> intro h <;> (try simp only [zM, zN] at h) <;> try exact absurd h (by decide)) | refine AWP.skip ?_ | refine AWP.ret ?_ | refine AWP.exit ?_ | (refine ⟨fun h => ?_, fun h => ?_⟩ <;> (try simp only [zM, zN] at h) <;> try simp only [h]) | (refine ⟨(by first | omega | (simp only [List.length_append, List.length_map, List.length_take, List.length_drop, List.length_cons, List.length_nil, List.length_replicate]; omega) : _ ≤ _), ?_⟩) | refine ⟨by omega, by omega, ?_⟩ | refine ⟨by omega, c, hc, ?_⟩ | (refine AWP.segP (id := 7) 10 mixed (by kernel_rfl) fun K hK => ?_; simp only [List.take_succ_cons, List.take_zero, List.drop_succ_cons, List.drop_zero]) | refine AWP.parR mixed (by kernel_rfl) fun K hK => ?_ | refine ⟨(by kernel_rfl : depB _ _ _ = true), ?_⟩ | refine Or.inl ?_) | (clear hK K))
   all_goals (refine ⟨(k + 1, acc ++ [c]), by simp only; omega, ⟨by simp only; omega, hnew, by simp only [List.length_append, List.length_cons, List.length_nil]; omega⟩, Gh.to [(7, 49)] (by repeat (first | exact trivial | refine ⟨rfl, ?_⟩ | refine ⟨by (simp only [go_sem, zA, zB, zC, zD, zE, zF, zG, reduceCtorEq, zH, zI, zJ, zK, zL, List.length_append, List.length_map, List.length_cons, List.length_nil, Nat.zero_add]) <;> rfl, ?_⟩)) (by repeat (first | exact trivial | refine ⟨rfl, ?_⟩ | refine ⟨by (simp only [go_sem, zA, zB, zC, zD, zE, zF, zG, reduceCtorEq, zH, zI, zJ, zK, zL, List.length_append, List.length_map, List.length_cons, List.length_nil, Nat.zero_add]) <;> rfl, ?_⟩)) rfl rfl rfl⟩)
  | false =>
   rw [h4] at hnew
   simp only [Bool.and_false, cond_false] at hnew
   repeat' (first | (simp only [go_sem, zA, zB, zC, zD, zE, zF, zG, reduceCtorEq, zH, zI, zJ, zK, zL, hd, h34, h92, h3, h4, hw, snoc4, shr4, Int.toNat_natCast, List.length_map]; all_goals fail_if_success guard_target =ₛ False) | (with_reducible first | ((first | refine seqVC_stepN rfl ?_ | refine seqVC_stepG rfl (by with_unfolding_all rfl) ?_ | refine AWP.seq ?_ | refine AWP.seqR (by kernel_rfl) ?_ | refine parVC_stepN rfl ?_ | refine parVC_stepG rfl (by with_unfolding_all rfl) ?_ | refine parEVC_stepN rfl ?_ | refine parEVC_stepG rfl (by with_unfolding_all rfl) ?_ | refine genVC_stepN rfl ?_ | refine genVC_stepG rfl (by with_unfolding_all rfl) ?_); intro K hK) | ((first | refine hK _ _ _ ?_ | refine hK _ _ ?_ | refine hK _ ?_); clear hK K) | refine seqVC_nil ?_ | refine parVC_nil ?_ | refine parEVC_nil ?_ | refine genVC_nil ?_ | refine AWP.block ?_ | (refine AWP.cond (by with_unfolding_all rfl) ?_ ?_ <;> intro h <;> (try simp only [zM, zN] at h) <;> try exact absurd h (by decide)) | refine AWP.skip ?_ | refine AWP.ret ?_ | refine AWP.exit ?_ | (refine ⟨fun h => ?_, fun h => ?_⟩ <;> (try simp only [zM, zN] at h) <;> try simp only [h]) | (refine ⟨(by first | omega | (simp only [List.length_append, List.length_map, List.length_take, List.length_drop, List.length_cons, List.length_nil, List.length_replicate]; omega) : _ ≤ _), ?_⟩) | refine ⟨by omega, by omega, ?_⟩ | refine ⟨by omega, c, hc, ?_⟩ | refine ⟨_, hx1, ?_⟩) | ( refine ⟨_, hx2, ?_⟩) | (with_reducible first | (refine AWP.segP (id := 7) 10 mixed (by kernel_rfl) fun K hK => ?_; simp only [List.take_succ_cons, List.take_zero, List.drop_succ_cons, List.drop_zero]) | refine AWP.parR mixed (by kernel_rfl) fun K hK => ?_ | refine ⟨(by kernel_rfl : depB _ _ _ = true), ?_⟩ | refine Or.inl ?_) | (clear hK K))
   all_goals (refine ⟨(k + 1, acc ++ [92, 120, Sx.hexd (c.toNat / 16), Sx.hexd (c.toNat % 16)]), by simp only; omega, ⟨by simp only; omega, hnew, by simp only [List.length_append, List.length_cons, List.length_nil]; omega⟩, Gh.to [(7, 27)] (by repeat (first | exact trivial | refine ⟨rfl, ?_⟩ | refine ⟨by (simp only [go_sem, zA, zB, zC, zD, zE, zF, zG, reduceCtorEq, zH, zI, zJ, zK, zL, List.length_append, List.length_map, List.length_cons, List.length_nil, Nat.zero_add]) <;> rfl, ?_⟩)) (by repeat (first | exact trivial | refine ⟨rfl, ?_⟩ | refine ⟨by (simp only [go_sem, zA, zB, zC, zD, zE, zF, zG, reduceCtorEq, zH, zI, zJ, zK, zL, List.length_append, List.length_map, List.length_cons, List.length_nil, Nat.zero_add]) <;> rfl, ?_⟩)) rfl rfl rfl⟩)
 ·have hd : decide ((k : Int) < (s.length : Int)) = false := by rw [decide_eq_false_iff_not]; omega
  rw [List.take_of_length_le (by omega)] at hacc
  repeat' (first | (simp only [go_sem, zA, zB, zC, zD, zE, zF, zG, reduceCtorEq, zH, zI, zJ, zK, zL, hd, snoc34, List.length_map]; all_goals fail_if_success guard_target =ₛ False) | (with_reducible first | ((first | refine seqVC_stepN rfl ?_ | refine seqVC_stepG rfl (by with_unfolding_all rfl) ?_ | refine AWP.seq ?_ | refine AWP.seqR (by kernel_rfl) ?_ | refine parVC_stepN rfl ?_ | refine parVC_stepG rfl (by with_unfolding_all rfl) ?_ | refine parEVC_stepN rfl ?_ | refine parEVC_stepG rfl (by with_unfolding_all rfl) ?_ | refine genVC_stepN rfl ?_ | refine genVC_stepG rfl (by with_unfolding_all rfl) ?_); intro K hK) | ((first | refine hK _ _ _ ?_ | refine hK _ _ ?_ | refine hK _ ?_); clear hK K) | refine seqVC_nil ?_ | refine parVC_nil ?_ | refine parEVC_nil ?_ | refine genVC_nil ?_ | refine AWP.block ?_ | (refine AWP.cond (by with_unfolding_all rfl) ?_ ?_ <;> intro h <;> (try simp only [zM, zN] at h) <;> try exact absurd h (by decide)) | refine AWP.skip ?_ | refine AWP.ret ?_ | refine AWP.exit ?_ | (refine ⟨fun h => ?_, fun h => ?_⟩ <;> (try simp only [zM, zN] at h) <;> try simp only [h]) | (refine ⟨(by first | omega | (simp only [List.length_append, List.length_map, List.length_take, List.length_drop, List.length_cons, List.length_nil, List.length_replicate]; omega) : _ ≤ _), ?_⟩) | refine ⟨by omega, by omega, ?_⟩ | (refine AWP.segP (id := 7) 10 mixed (by kernel_rfl) fun K hK => ?_; simp only [List.take_succ_cons, List.take_zero, List.drop_succ_cons, List.drop_zero]) | refine AWP.parR mixed (by kernel_rfl) fun K hK => ?_ | refine ⟨(by kernel_rfl : depB _ _ _ = true), ?_⟩ | refine Or.inl ?_) | (clear hK K))
  rw [hacc]
  all_goals (first | exact fun _ h => absurd h List.not_mem_nil | refine fin0 ?_)
  all_goals rfl
end Go.Proofs.YtogponhonjiidaaDoor
set_option linter.unusedSimpArgs false
set_option linter.unusedVariables false
set_option maxRecDepth 20000
set_option maxHeartbeats 16000000
namespace Go.Proofs.YtogponhonjiidaaDoor
open Go Go.Sx
open Nat renaming reduceBEq → zA, reduceBNe → zB, reduceAdd → zC, reduceSub → zD, reduceMul → zE, reduceLeDiff → zF, reduceLT → zG, reduceEqDiff → zH
open Int renaming reduceToNat → zI, reduceLE → zJ, reduceLT → zK, reduceEq → zL
open Bool renaming not_eq_true' → zM, not_eq_false' → zN
theorem take_cnt (p : Int → Bool) : ∀ (l : List UInt8), ∀ x ∈ l.take (cntW p l), p x.toNat = true
 | [], x, h => by simp at h
 | b :: l, x, h => by
  rw [cntW] at h
  cases hp : p b.toNat with
  | false => rw [hp] at h; simp at h
  | true =>
   rw [hp, cond_true, Nat.add_comm, List.take_succ_cons] at h
   rcases List.mem_cons.1 h with rfl | h
   ·exact hp
   ·exact take_cnt p l x h
/-- the bytes from k on that meet p -/
def spanW (p : Int → Bool) (s : List UInt8) (k : Nat) : List UInt8 := (s.take (toW p s k)).drop k
theorem spanW_eq (p : Int → Bool) (s : List UInt8) (k : Nat) : spanW p s k = (s.drop k).take (cntW p (s.drop k)) := by
 unfold spanW toW
 rw [List.drop_take]
 congr 1
 omega
theorem spanW_all (p : Int → Bool) (s : List UInt8) (k : Nat) : ∀ x ∈ spanW p s k, p x.toNat = true := by
 rw [spanW_eq]; exact take_cnt p _
theorem spanW_ne {p : Int → Bool} {s : List UInt8} {k : Nat} {b : UInt8} (h : s[k]? = some b) (hp : p b.toNat = true) : spanW p s k ≠ [] := by
 obtain ⟨hk, rfl⟩ := List.getElem?_eq_some_iff.1 h
 rw [spanW_eq, List.drop_eq_getElem_cons hk, cntW, hp, cond_true, Nat.add_comm, List.take_succ_cons]
 exact List.cons_ne_nil _ _
theorem text_cons {p : Int → Bool} {s : List UInt8} {i : Nat} {b : UInt8} (h : s[i]? = some b) : (s.take (toW p s (i + 1))).drop i = b :: spanW p s (i + 1) := by
 obtain ⟨hk, rfl⟩ := List.getElem?_eq_some_iff.1 h
 have h1 : i < (s.take (toW p s (i + 1))).length := by
  rw [List.length_take]
  have := toW_ge (p := p) (s := s) (k := i + 1)
  omega
 rw [List.drop_eq_getElem_cons h1, List.getElem_take]
 rfl
def nextDig (s : List UInt8) (i : Nat) : Bool := match s[i + 1]? with
 | some c => digI c.toNat
 | none => false
/-- the next token, its code, the place behind it; rq, re: what a quote, a backquote begins -/
def nextV (s : List UInt8) (i : Nat) (b : UInt8) (rq re : (Tok × Int) × Nat) : (Tok × Int) × Nat :=
 bif lowI b.toNat then (wordV 1 (b :: spanW nameI s (i + 1)), toW nameI s (i + 1))
 else bif uppI b.toNat then (wordV 2 (b :: spanW varI s (i + 1)), toW varI s (i + 1))
 else bif decide ((b.toNat : Int) = 95) then ((⟨2, [95], 0, 0⟩, 0), i + 1)
 else bif digI b.toNat then (numT false (b :: spanW digI s (i + 1)), toW digI s (i + 1))
 else bif decide ((b.toNat : Int) = 45) && nextDig s i then (numT true (spanW digI s (i + 1)), toW digI s (i + 1))
 else bif decide ((b.toNat : Int) = 34) then rq
 else bif decide ((b.toNat : Int) = 96) then re
 else ((signV (s.drop i)).1, i + (signV (s.drop i)).2)
theorem word_t (kind : Int) (text : List UInt8) : PC Tryd.prog 58 [I .i64 kind, S text] (.tup [.st (encTok (wordV kind text).1), I .i64 (wordV kind text).2]) := word_c kind text
theorem tok_eta (t : Tok) : encTok t = [.int .i64 t.kind, .str t.text, .int .i64 t.num, .int .i64 t.at_] := rfl
theorem next_c (s : List UInt8) (hs : s.length ≤ 1000000000) (i : Nat) (b : UInt8) (hb : s[i]? = some b) (rq re : (Tok × Int) × Nat)
  (hq : decide ((b.toNat : Int) = 34) = true → PCB Tryd.prog 65 [Scp pin] [(pin, scB s i)] (TkR rq.1) [(pin, scB s rq.2)])
  (he : decide ((b.toNat : Int) = 96) = true → PCB Tryd.prog 66 [Scp pin] [(pin, scB s i)] (TkR re.1) [(pin, scB s re.2)]) :
  PCB Tryd.prog 37 [Scp pin] [(pin, scB s i)] (TkR (nextV s i b rq re).1) [(pin, scB s (nextV s i b rq re).2)] := by
 have hi : i < s.length := (List.getElem?_eq_some_iff.1 hb).1
 have hwk := wk64 hi (show s.length ≤ 1000000000000 by omega)
 have c1 := wordslower_c b.toNat
 have c2 := wordsupper_c b.toNat
 have c3 := wordsdigit_c b.toNat
 cases hl : lowI b.toNat with
 | true =>
  rw [hl] at c1
  have hr := run_k 1000000 60 nameI wName_c s (by omega) i hi
  rw [text_cons hb] at hr
  have hw := word_t 1 (b :: spanW nameI s (i + 1))
  refine PCB.of_body Tryd.func37 rfl (by decide) Tryd.ntmps37 Tryd.results37 rfl rfl rfl ?_ rfl rfl
  repeat' (first | (simp only [go_sem, zA, zB, zC, zD, zE, zF, zG, reduceCtorEq, zH, zI, zJ, zK, zL, pin, tok_eta]; all_goals fail_if_success guard_target =ₛ False) | (with_reducible first | ((first | refine seqVC_stepN rfl ?_ | refine seqVC_stepG rfl (by with_unfolding_all rfl) ?_ | refine AWP.seq ?_ | refine AWP.seqR (by kernel_rfl) ?_ | refine parVC_stepN rfl ?_ | refine parVC_stepG rfl (by with_unfolding_all rfl) ?_ | refine parEVC_stepN rfl ?_ | refine parEVC_stepG rfl (by with_unfolding_all rfl) ?_ | refine genVC_stepN rfl ?_ | refine genVC_stepG rfl (by with_unfolding_all rfl) ?_); intro K hK) | ((first | refine hK _ _ _ ?_ | refine hK _ _ ?_ | refine hK _ ?_); clear hK K) | refine seqVC_nil ?_ | refine parVC_nil ?_ | refine parEVC_nil ?_ | refine genVC_nil ?_ | refine AWP.block ?_ | (refine AWP.cond (by with_unfolding_all rfl) ?_ ?_ <;> intro h <;> (try simp only [zM, zN] at h) <;> try exact absurd h (by decide)) | refine AWP.skip ?_ | refine AWP.ret ?_ | refine AWP.exit ?_ | (refine ⟨fun h => ?_, fun h => ?_⟩ <;> (try simp only [zM, zN] at h) <;> try simp only [h]) | refine ⟨_, c1, ?_⟩ | refine ⟨_, hw, ?_⟩ | refine ⟨by omega, b, hb, ?_⟩) | (refine ⟨1000000, _, _, _, hr, rfl, ?_⟩) | (with_reducible first | refine AWP.parR mixed (by kernel_rfl) fun K hK => ?_ | refine ⟨(by kernel_rfl : depB _ _ _ = true), ?_⟩ | refine Or.inl ?_) | (clear hK K))
  all_goals (simp only [nextV, hl, cond_true, tok_eta])
  all_goals (refine ⟨by first | trivial | rfl, fun x hx => ?_⟩; simp only [List.mem_singleton] at hx; subst hx; simp)
 | false =>
 rw [hl] at c1
 cases hu : uppI b.toNat with
 | true =>
  rw [hu] at c2
  have hr := run_k 1000000 63 varI wVar_c s (by omega) i hi
  rw [text_cons hb] at hr
  have hw := word_t 2 (b :: spanW varI s (i + 1))
  refine PCB.of_body Tryd.func37 rfl (by decide) Tryd.ntmps37 Tryd.results37 rfl rfl rfl ?_ rfl rfl
  repeat' (first | (simp only [go_sem, zA, zB, zC, zD, zE, zF, zG, reduceCtorEq, zH, zI, zJ, zK, zL, pin, tok_eta]; all_goals fail_if_success guard_target =ₛ False) | (with_reducible first | ((first | refine seqVC_stepN rfl ?_ | refine seqVC_stepG rfl (by with_unfolding_all rfl) ?_ | refine AWP.seq ?_ | refine AWP.seqR (by kernel_rfl) ?_ | refine parVC_stepN rfl ?_ | refine parVC_stepG rfl (by with_unfolding_all rfl) ?_ | refine parEVC_stepN rfl ?_ | refine parEVC_stepG rfl (by with_unfolding_all rfl) ?_ | refine genVC_stepN rfl ?_ | refine genVC_stepG rfl (by with_unfolding_all rfl) ?_); intro K hK) | ((first | refine hK _ _ _ ?_ | refine hK _ _ ?_ | refine hK _ ?_); clear hK K) | refine seqVC_nil ?_ | refine parVC_nil ?_ | refine parEVC_nil ?_ | refine genVC_nil ?_ | refine AWP.block ?_ | (refine AWP.cond (by with_unfolding_all rfl) ?_ ?_ <;> intro h <;> (try simp only [zM, zN] at h) <;> try exact absurd h (by decide)) | refine AWP.skip ?_ | refine AWP.ret ?_ | refine AWP.exit ?_ | (refine ⟨fun h => ?_, fun h => ?_⟩ <;> (try simp only [zM, zN] at h) <;> try simp only [h]) | refine ⟨_, c1, ?_⟩ | refine ⟨_, c2, ?_⟩ | refine ⟨_, hw, ?_⟩ | refine ⟨by omega, b, hb, ?_⟩) | (refine ⟨1000000, _, _, _, hr, rfl, ?_⟩) | (with_reducible first | refine AWP.parR mixed (by kernel_rfl) fun K hK => ?_ | refine ⟨(by kernel_rfl : depB _ _ _ = true), ?_⟩ | refine Or.inl ?_) | (clear hK K))
  all_goals (simp only [nextV, hl, hu, cond_true, cond_false, tok_eta])
  all_goals (refine ⟨by first | trivial | rfl, fun x hx => ?_⟩; simp only [List.mem_singleton] at hx; subst hx; simp)
 | false =>
 rw [hu] at c2
 cases h95 : decide ((b.toNat : Int) = 95) with
 | true =>
  refine PCB.of_body Tryd.func37 rfl (by decide) Tryd.ntmps37 Tryd.results37 rfl rfl rfl ?_ rfl rfl
  repeat' (first | (simp only [go_sem, zA, zB, zC, zD, zE, zF, zG, reduceCtorEq, zH, zI, zJ, zK, zL, pin, tok_eta, h95, hwk]; all_goals fail_if_success guard_target =ₛ False) | (with_reducible first | ((first | refine seqVC_stepN rfl ?_ | refine seqVC_stepG rfl (by with_unfolding_all rfl) ?_ | refine AWP.seq ?_ | refine AWP.seqR (by kernel_rfl) ?_ | refine parVC_stepN rfl ?_ | refine parVC_stepG rfl (by with_unfolding_all rfl) ?_ | refine parEVC_stepN rfl ?_ | refine parEVC_stepG rfl (by with_unfolding_all rfl) ?_ | refine genVC_stepN rfl ?_ | refine genVC_stepG rfl (by with_unfolding_all rfl) ?_); intro K hK) | ((first | refine hK _ _ _ ?_ | refine hK _ _ ?_ | refine hK _ ?_); clear hK K) | refine seqVC_nil ?_ | refine parVC_nil ?_ | refine parEVC_nil ?_ | refine genVC_nil ?_ | refine AWP.block ?_ | (refine AWP.cond (by with_unfolding_all rfl) ?_ ?_ <;> intro h <;> (try simp only [zM, zN] at h) <;> try exact absurd h (by decide)) | refine AWP.skip ?_ | refine AWP.ret ?_ | refine AWP.exit ?_ | (refine ⟨fun h => ?_, fun h => ?_⟩ <;> (try simp only [zM, zN] at h) <;> try simp only [h]) | refine ⟨_, c1, ?_⟩ | refine ⟨_, c2, ?_⟩ | refine ⟨by omega, b, hb, ?_⟩ | refine AWP.parR mixed (by kernel_rfl) fun K hK => ?_ | refine ⟨(by kernel_rfl : depB _ _ _ = true), ?_⟩ | refine Or.inl ?_) | (clear hK K))
  all_goals (simp only [nextV, hl, hu, h95, cond_true, cond_false, tok_eta])
  all_goals (refine ⟨by first | trivial | rfl, fun x hx => ?_⟩; simp only [List.mem_singleton] at hx; subst hx; simp)
 | false =>
 cases hdg : digI b.toNat with
 | true =>
  rw [hdg] at c3
  have hnum := PCBk.mk 1000000 (number_c s hs i hi false (b :: spanW digI s (i + 1)) (text_cons hb) (by
   intro x hx
   rcases List.mem_cons.1 hx with rfl | hx
   ·exact hdg
   ·exact spanW_all digI s (i + 1) x hx) (List.cons_ne_nil _ _))
  refine PCB.of_body Tryd.func37 rfl (by decide) Tryd.ntmps37 Tryd.results37 rfl rfl rfl ?_ rfl rfl
  repeat' (first | (simp only [go_sem, zA, zB, zC, zD, zE, zF, zG, reduceCtorEq, zH, zI, zJ, zK, zL, pin, tok_eta, h95]; all_goals fail_if_success guard_target =ₛ False) | (with_reducible first | ((first | refine seqVC_stepN rfl ?_ | refine seqVC_stepG rfl (by with_unfolding_all rfl) ?_ | refine AWP.seq ?_ | refine AWP.seqR (by kernel_rfl) ?_ | refine parVC_stepN rfl ?_ | refine parVC_stepG rfl (by with_unfolding_all rfl) ?_ | refine parEVC_stepN rfl ?_ | refine parEVC_stepG rfl (by with_unfolding_all rfl) ?_ | refine genVC_stepN rfl ?_ | refine genVC_stepG rfl (by with_unfolding_all rfl) ?_); intro K hK) | ((first | refine hK _ _ _ ?_ | refine hK _ _ ?_ | refine hK _ ?_); clear hK K) | refine seqVC_nil ?_ | refine parVC_nil ?_ | refine parEVC_nil ?_ | refine genVC_nil ?_ | refine AWP.block ?_ | (refine AWP.cond (by with_unfolding_all rfl) ?_ ?_ <;> intro h <;> (try simp only [zM, zN] at h) <;> try exact absurd h (by decide)) | refine AWP.skip ?_ | refine AWP.ret ?_ | refine AWP.exit ?_ | (refine ⟨fun h => ?_, fun h => ?_⟩ <;> (try simp only [zM, zN] at h) <;> try simp only [h]) | refine ⟨_, c1, ?_⟩ | refine ⟨_, c2, ?_⟩ | refine ⟨_, c3, ?_⟩ | refine ⟨by omega, b, hb, ?_⟩) | (refine ⟨1000000, _, _, _, hnum, rfl, ?_⟩) | (with_reducible first | refine AWP.parR mixed (by kernel_rfl) fun K hK => ?_ | refine ⟨(by kernel_rfl : depB _ _ _ = true), ?_⟩ | refine Or.inl ?_) | (clear hK K))
  all_goals (simp only [nextV, hl, hu, h95, hdg, cond_true, cond_false, tok_eta])
  all_goals (refine ⟨by first | trivial | rfl, fun x hx => ?_⟩; simp only [List.mem_singleton] at hx; subst hx; simp)
 | false =>
 rw [hdg] at c3
 have hsg := PCBk.mk 1000000 (sign_c s hs i (by omega))
 cases h45 : decide ((b.toNat : Int) = 45) with
 | true =>
  have h34 : decide ((b.toNat : Int) = 34) = false := by simp only [decide_eq_true_eq] at h45; simp [h45]
  have h96 : decide ((b.toNat : Int) = 96) = false := by simp only [decide_eq_true_eq] at h45; simp [h45]
  by_cases hi1 : i + 1 < s.length
  ·obtain ⟨c, hc⟩ := byte_at hi1
   have hd1 : decide (((i + 1 : Nat) : Int) < (s.length : Int)) = true := by rw [decide_eq_true_eq]; omega
   have c4 := wordsdigit_c c.toNat
   have hnd : nextDig s i = digI c.toNat := by unfold nextDig; rw [hc]
   cases hdc : digI c.toNat with
   | true =>
    rw [hdc] at c4 hnd
    have hbe : b = 45 := by
     simp only [decide_eq_true_eq] at h45
     apply UInt8.toNat_inj.1; show b.toNat = 45; omega
    have hnum := PCBk.mk 1000000 (number_c s hs i hi true (spanW digI s (i + 1)) (by rw [text_cons hb, hbe]; rfl) (spanW_all digI s (i + 1)) (spanW_ne hc hdc))
    refine PCB.of_body Tryd.func37 rfl (by decide) Tryd.ntmps37 Tryd.results37 rfl rfl rfl ?_ rfl rfl
    repeat' (first | (simp only [go_sem, zA, zB, zC, zD, zE, zF, zG, reduceCtorEq, zH, zI, zJ, zK, zL, pin, tok_eta, h95, h45, hwk, hd1]; all_goals fail_if_success guard_target =ₛ False) | (with_reducible first | ((first | refine seqVC_stepN rfl ?_ | refine seqVC_stepG rfl (by with_unfolding_all rfl) ?_ | refine AWP.seq ?_ | refine AWP.seqR (by kernel_rfl) ?_ | refine parVC_stepN rfl ?_ | refine parVC_stepG rfl (by with_unfolding_all rfl) ?_ | refine parEVC_stepN rfl ?_ | refine parEVC_stepG rfl (by with_unfolding_all rfl) ?_ | refine genVC_stepN rfl ?_ | refine genVC_stepG rfl (by with_unfolding_all rfl) ?_); intro K hK) | ((first | refine hK _ _ _ ?_ | refine hK _ _ ?_ | refine hK _ ?_); clear hK K) | refine seqVC_nil ?_ | refine parVC_nil ?_ | refine parEVC_nil ?_ | refine genVC_nil ?_ | refine AWP.block ?_ | (refine AWP.cond (by with_unfolding_all rfl) ?_ ?_ <;> intro h <;> (try simp only [zM, zN] at h) <;> try exact absurd h (by decide)) | refine AWP.skip ?_ | refine AWP.ret ?_ | refine AWP.exit ?_ | (refine ⟨fun h => ?_, fun h => ?_⟩ <;> (try simp only [zM, zN] at h) <;> try simp only [h]) | refine ⟨_, c1, ?_⟩ | refine ⟨_, c2, ?_⟩ | refine ⟨_, c3, ?_⟩ | refine ⟨_, c4, ?_⟩ | refine ⟨by omega, b, hb, ?_⟩ | refine ⟨by omega, c, hc, ?_⟩) | (refine ⟨1000000, _, _, _, hnum, rfl, ?_⟩) | (with_reducible first | refine AWP.parR mixed (by kernel_rfl) fun K hK => ?_ | refine ⟨(by kernel_rfl : depB _ _ _ = true), ?_⟩ | refine Or.inl ?_) | (clear hK K))
    all_goals (simp only [nextV, hl, hu, h95, hdg, h45, hnd, Bool.and_self, cond_true, cond_false, tok_eta])
    all_goals (refine ⟨by first | trivial | rfl, fun x hx => ?_⟩; simp only [List.mem_singleton] at hx; subst hx; simp)
   | false =>
    rw [hdc] at c4 hnd
    refine PCB.of_body Tryd.func37 rfl (by decide) Tryd.ntmps37 Tryd.results37 rfl rfl rfl ?_ rfl rfl
    repeat' (first | (simp only [go_sem, zA, zB, zC, zD, zE, zF, zG, reduceCtorEq, zH, zI, zJ, zK, zL, pin, tok_eta, h95, h45, h34, h96, hwk, hd1]; all_goals fail_if_success guard_target =ₛ False) | (with_reducible first | ((first | refine seqVC_stepN rfl ?_ | refine seqVC_stepG rfl (by with_unfolding_all rfl) ?_ | refine AWP.seq ?_ | refine AWP.seqR (by kernel_rfl) ?_ | refine parVC_stepN rfl ?_ | refine parVC_stepG rfl (by with_unfolding_all rfl) ?_ | refine parEVC_stepN rfl ?_ | refine parEVC_stepG rfl (by with_unfolding_all rfl) ?_ | refine genVC_stepN rfl ?_ | refine genVC_stepG rfl (by with_unfolding_all rfl) ?_); intro K hK) | ((first | refine hK _ _ _ ?_ | refine hK _ _ ?_ | refine hK _ ?_); clear hK K) | refine seqVC_nil ?_ | refine parVC_nil ?_ | refine parEVC_nil ?_ | refine genVC_nil ?_ | refine AWP.block ?_ | (refine AWP.cond (by with_unfolding_all rfl) ?_ ?_ <;> intro h <;> (try simp only [zM, zN] at h) <;> try exact absurd h (by decide)) | refine AWP.skip ?_ | refine AWP.ret ?_ | refine AWP.exit ?_ | (refine ⟨fun h => ?_, fun h => ?_⟩ <;> (try simp only [zM, zN] at h) <;> try simp only [h]) | refine ⟨_, c1, ?_⟩ | refine ⟨_, c2, ?_⟩ | refine ⟨_, c3, ?_⟩ | refine ⟨_, c4, ?_⟩ | refine ⟨by omega, b, hb, ?_⟩ | refine ⟨by omega, c, hc, ?_⟩) | (refine ⟨1000000, _, _, _, hsg, rfl, ?_⟩) | (with_reducible first | refine AWP.parR mixed (by kernel_rfl) fun K hK => ?_ | refine ⟨(by kernel_rfl : depB _ _ _ = true), ?_⟩ | refine Or.inl ?_) | (clear hK K))
    all_goals (simp only [nextV, hl, hu, h95, hdg, h45, h34, h96, hnd, Bool.and_false, cond_true, cond_false, tok_eta])
    all_goals (refine ⟨by first | trivial | rfl, fun x hx => ?_⟩; simp only [List.mem_singleton] at hx; subst hx; simp)
  ·have hd1 : decide (((i + 1 : Nat) : Int) < (s.length : Int)) = false := by rw [decide_eq_false_iff_not]; omega
   have hnd : nextDig s i = false := by
    unfold nextDig
    rw [List.getElem?_eq_none (by omega)]
   refine PCB.of_body Tryd.func37 rfl (by decide) Tryd.ntmps37 Tryd.results37 rfl rfl rfl ?_ rfl rfl
   repeat' (first | (simp only [go_sem, zA, zB, zC, zD, zE, zF, zG, reduceCtorEq, zH, zI, zJ, zK, zL, pin, tok_eta, h95, h45, h34, h96, hwk, hd1]; all_goals fail_if_success guard_target =ₛ False) | (with_reducible first | ((first | refine seqVC_stepN rfl ?_ | refine seqVC_stepG rfl (by with_unfolding_all rfl) ?_ | refine AWP.seq ?_ | refine AWP.seqR (by kernel_rfl) ?_ | refine parVC_stepN rfl ?_ | refine parVC_stepG rfl (by with_unfolding_all rfl) ?_ | refine parEVC_stepN rfl ?_ | refine parEVC_stepG rfl (by with_unfolding_all rfl) ?_ | refine genVC_stepN rfl ?_ | refine genVC_stepG rfl (by with_unfolding_all rfl) ?_); intro K hK) | ((first | refine hK _ _ _ ?_ | refine hK _ _ ?_ | refine hK _ ?_); clear hK K) | refine seqVC_nil ?_ | refine parVC_nil ?_ | refine parEVC_nil ?_ | refine genVC_nil ?_ | refine AWP.block ?_ | (refine AWP.cond (by with_unfolding_all rfl) ?_ ?_ <;> intro h <;> (try simp only [zM, zN] at h) <;> try exact absurd h (by decide)) | refine AWP.skip ?_ | refine AWP.ret ?_ | refine AWP.exit ?_ | (refine ⟨fun h => ?_, fun h => ?_⟩ <;> (try simp only [zM, zN] at h) <;> try simp only [h]) | refine ⟨_, c1, ?_⟩ | refine ⟨_, c2, ?_⟩ | refine ⟨_, c3, ?_⟩ | refine ⟨by omega, b, hb, ?_⟩) | (refine ⟨1000000, _, _, _, hsg, rfl, ?_⟩) | (with_reducible first | refine AWP.parR mixed (by kernel_rfl) fun K hK => ?_ | refine ⟨(by kernel_rfl : depB _ _ _ = true), ?_⟩ | refine Or.inl ?_) | (clear hK K))
   all_goals (simp only [nextV, hl, hu, h95, hdg, h45, h34, h96, hnd, Bool.and_false, cond_true, cond_false, tok_eta])
   all_goals (refine ⟨by first | trivial | rfl, fun x hx => ?_⟩; simp only [List.mem_singleton] at hx; subst hx; simp)
 | false =>
 cases h34 : decide ((b.toNat : Int) = 34) with
 | true =>
  have hqq := PCBk.mk 1000000 (hq h34)
  refine PCB.of_body Tryd.func37 rfl (by decide) Tryd.ntmps37 Tryd.results37 rfl rfl rfl ?_ rfl rfl
  repeat' (first | (simp only [go_sem, zA, zB, zC, zD, zE, zF, zG, reduceCtorEq, zH, zI, zJ, zK, zL, pin, tok_eta, h95, h45, h34, hwk]; all_goals fail_if_success guard_target =ₛ False) | (with_reducible first | ((first | refine seqVC_stepN rfl ?_ | refine seqVC_stepG rfl (by with_unfolding_all rfl) ?_ | refine AWP.seq ?_ | refine AWP.seqR (by kernel_rfl) ?_ | refine parVC_stepN rfl ?_ | refine parVC_stepG rfl (by with_unfolding_all rfl) ?_ | refine parEVC_stepN rfl ?_ | refine parEVC_stepG rfl (by with_unfolding_all rfl) ?_ | refine genVC_stepN rfl ?_ | refine genVC_stepG rfl (by with_unfolding_all rfl) ?_); intro K hK) | ((first | refine hK _ _ _ ?_ | refine hK _ _ ?_ | refine hK _ ?_); clear hK K) | refine seqVC_nil ?_ | refine parVC_nil ?_ | refine parEVC_nil ?_ | refine genVC_nil ?_ | refine AWP.block ?_ | (refine AWP.cond (by with_unfolding_all rfl) ?_ ?_ <;> intro h <;> (try simp only [zM, zN] at h) <;> try exact absurd h (by decide)) | refine AWP.skip ?_ | refine AWP.ret ?_ | refine AWP.exit ?_ | (refine ⟨fun h => ?_, fun h => ?_⟩ <;> (try simp only [zM, zN] at h) <;> try simp only [h]) | refine ⟨_, c1, ?_⟩ | refine ⟨_, c2, ?_⟩ | refine ⟨_, c3, ?_⟩ | refine ⟨by omega, b, hb, ?_⟩) | (refine ⟨1000000, _, _, _, hqq, rfl, ?_⟩) | (with_reducible first | refine AWP.parR mixed (by kernel_rfl) fun K hK => ?_ | refine ⟨(by kernel_rfl : depB _ _ _ = true), ?_⟩ | refine Or.inl ?_) | (clear hK K))
  all_goals (simp only [nextV, hl, hu, h95, hdg, h45, h34, Bool.false_and, cond_true, cond_false, tok_eta])
  all_goals (refine ⟨by first | trivial | rfl, fun x hx => ?_⟩; simp only [List.mem_singleton] at hx; subst hx; simp)
 | false =>
 cases h96 : decide ((b.toNat : Int) = 96) with
 | true =>
  have hee := PCBk.mk 1000000 (he h96)
  refine PCB.of_body Tryd.func37 rfl (by decide) Tryd.ntmps37 Tryd.results37 rfl rfl rfl ?_ rfl rfl
  repeat' (first | (simp only [go_sem, zA, zB, zC, zD, zE, zF, zG, reduceCtorEq, zH, zI, zJ, zK, zL, pin, tok_eta, h95, h45, h34, h96, hwk]; all_goals fail_if_success guard_target =ₛ False) | (with_reducible first | ((first | refine seqVC_stepN rfl ?_ | refine seqVC_stepG rfl (by with_unfolding_all rfl) ?_ | refine AWP.seq ?_ | refine AWP.seqR (by kernel_rfl) ?_ | refine parVC_stepN rfl ?_ | refine parVC_stepG rfl (by with_unfolding_all rfl) ?_ | refine parEVC_stepN rfl ?_ | refine parEVC_stepG rfl (by with_unfolding_all rfl) ?_ | refine genVC_stepN rfl ?_ | refine genVC_stepG rfl (by with_unfolding_all rfl) ?_); intro K hK) | ((first | refine hK _ _ _ ?_ | refine hK _ _ ?_ | refine hK _ ?_); clear hK K) | refine seqVC_nil ?_ | refine parVC_nil ?_ | refine parEVC_nil ?_ | refine genVC_nil ?_ | refine AWP.block ?_ | (refine AWP.cond (by with_unfolding_all rfl) ?_ ?_ <;> intro h <;> (try simp only [zM, zN] at h) <;> try exact absurd h (by decide)) | refine AWP.skip ?_ | refine AWP.ret ?_ | refine AWP.exit ?_ | (refine ⟨fun h => ?_, fun h => ?_⟩ <;> (try simp only [zM, zN] at h) <;> try simp only [h]) | refine ⟨_, c1, ?_⟩ | refine ⟨_, c2, ?_⟩ | refine ⟨_, c3, ?_⟩ | refine ⟨by omega, b, hb, ?_⟩) | (refine ⟨1000000, _, _, _, hee, rfl, ?_⟩) | (with_reducible first | refine AWP.parR mixed (by kernel_rfl) fun K hK => ?_ | refine ⟨(by kernel_rfl : depB _ _ _ = true), ?_⟩ | refine Or.inl ?_) | (clear hK K))
  all_goals (simp only [nextV, hl, hu, h95, hdg, h45, h34, h96, Bool.false_and, cond_true, cond_false, tok_eta])
  all_goals (refine ⟨by first | trivial | rfl, fun x hx => ?_⟩; simp only [List.mem_singleton] at hx; subst hx; simp)
 | false =>
  refine PCB.of_body Tryd.func37 rfl (by decide) Tryd.ntmps37 Tryd.results37 rfl rfl rfl ?_ rfl rfl
  repeat' (first | (simp only [go_sem, zA, zB, zC, zD, zE, zF, zG, reduceCtorEq, zH, zI, zJ, zK, zL, pin, tok_eta, h95, h45, h34, h96, hwk]; all_goals fail_if_success guard_target =ₛ False) | (with_reducible first | ((first | refine seqVC_stepN rfl ?_ | refine seqVC_stepG rfl (by with_unfolding_all rfl) ?_ | refine AWP.seq ?_ | refine AWP.seqR (by kernel_rfl) ?_ | refine parVC_stepN rfl ?_ | refine parVC_stepG rfl (by with_unfolding_all rfl) ?_ | refine parEVC_stepN rfl ?_ | refine parEVC_stepG rfl (by with_unfolding_all rfl) ?_ | refine genVC_stepN rfl ?_ | refine genVC_stepG rfl (by with_unfolding_all rfl) ?_); intro K hK) | ((first | refine hK _ _ _ ?_ | refine hK _ _ ?_ | refine hK _ ?_); clear hK K) | refine seqVC_nil ?_ | refine parVC_nil ?_ | refine parEVC_nil ?_ | refine genVC_nil ?_ | refine AWP.block ?_ | (refine AWP.cond (by with_unfolding_all rfl) ?_ ?_ <;> intro h <;> (try simp only [zM, zN] at h) <;> try exact absurd h (by decide)) | refine AWP.skip ?_ | refine AWP.ret ?_ | refine AWP.exit ?_ | (refine ⟨fun h => ?_, fun h => ?_⟩ <;> (try simp only [zM, zN] at h) <;> try simp only [h]) | refine ⟨_, c1, ?_⟩ | refine ⟨_, c2, ?_⟩ | refine ⟨_, c3, ?_⟩ | refine ⟨by omega, b, hb, ?_⟩) | (refine ⟨1000000, _, _, _, hsg, rfl, ?_⟩) | (with_reducible first | refine AWP.parR mixed (by kernel_rfl) fun K hK => ?_ | refine ⟨(by kernel_rfl : depB _ _ _ = true), ?_⟩ | refine Or.inl ?_) | (clear hK K))
  all_goals (simp only [nextV, hl, hu, h95, hdg, h45, h34, h96, Bool.false_and, cond_true, cond_false, tok_eta])
  all_goals (refine ⟨by first | trivial | rfl, fun x hx => ?_⟩; simp only [List.mem_singleton] at hx; subst hx; simp)
end Go.Proofs.YtogponhonjiidaaDoor
set_option linter.unusedSimpArgs false
set_option linter.unusedVariables false
set_option maxRecDepth 20000
set_option maxHeartbeats 16000000
namespace Go.Proofs.YtogponhonjiidaaDoor
open Go Go.Sx
open Nat renaming reduceBEq → zA, reduceBNe → zB, reduceAdd → zC, reduceSub → zD, reduceMul → zE, reduceLeDiff → zF, reduceLT → zG, reduceEqDiff → zH
open Int renaming reduceToNat → zI, reduceLE → zJ, reduceLT → zK, reduceEq → zL
open Bool renaming not_eq_true' → zM, not_eq_false' → zN
def noBq (n : Int) : Bool := !decide (n = 96)
theorem noBq_eq (b : UInt8) : noBq b.toNat = !decide (b = 96) := by
 unfold noBq
 congr 1
 apply decide_eq_decide.2
 constructor
 ·intro h; apply UInt8.toNat_inj.1; show b.toNat = 96; omega
 ·rintro rfl; rfl
theorem index_bq : ∀ l : List UInt8, Lib.index l [96] = if cntW noBq l < l.length then ((cntW noBq l : Nat) : Int) else -1
 | [] => by simp [Lib.index, cntW]
 | b :: l => by
  have ih := index_bq l
  unfold Lib.index cntW
  rw [noBq_eq, List.length_cons]
  by_cases hb : b = 96
  ·subst hb; simp [List.isPrefixOf]
  ·have h1 : List.isPrefixOf [96] (b :: l) = false := by simp [List.isPrefixOf, beq_eq_false_iff_ne]; exact fun e => hb e.symm
   rw [h1, decide_eq_false hb, Bool.not_false, cond_true, ih]
   by_cases hc : cntW noBq l < l.length
   ·rw [if_pos hc, if_pos (show 1 + cntW noBq l < l.length + 1 by omega)]
    have : (((cntW noBq l : Nat) : Int) == -1) = false := by first | (simp; done) | (simp; omega)
    rw [this]
    simp only [Bool.false_eq_true, if_false]
    omega
   ·rw [if_neg hc, if_neg (show ¬ 1 + cntW noBq l < l.length + 1 by omega)]
    simp
theorem encV_eq (s : List UInt8) (i : Nat) (hi : i < s.length) : encV s i = bif decide (toW noBq s (i + 1) < s.length) then ((⟨5, (s.take (toW noBq s (i + 1))).drop (i + 1), 0, 0⟩, 0), toW noBq s (i + 1) + 1) else ((zeroTok, 5), i) := by
 have hl : (s.drop (i + 1)).length = s.length - (i + 1) := List.length_drop
 have hle := cntW_le noBq (s.drop (i + 1))
 have hx := index_bq (s.drop (i + 1))
 unfold encV Lib.cut
 have htw : toW noBq s (i + 1) = i + 1 + cntW noBq (s.drop (i + 1)) := rfl
 rw [hl] at hx hle
 rw [htw]
 by_cases hc : cntW noBq (s.drop (i + 1)) < s.length - (i + 1)
 ·rw [if_pos hc] at hx
  have h0 : (0 : Int) ≤ Lib.index (s.drop (i + 1)) [96] := by rw [hx]; omega
  rw [if_pos h0, hx, decide_eq_true (show i + 1 + cntW noBq (s.drop (i + 1)) < s.length by omega)]
  have e1 : (s.drop (i + 1)).take (cntW noBq (s.drop (i + 1))) = (s.take (i + 1 + cntW noBq (s.drop (i + 1)))).drop (i + 1) := by rw [List.drop_take]; congr 1; omega
  have e2 : ((s.drop (i + 1)).take (cntW noBq (s.drop (i + 1)))).length = cntW noBq (s.drop (i + 1)) := by rw [List.length_take, hl]; omega
  simp only [cond_true, Int.toNat_natCast, e2]
  rw [e1]
  congr 1
  omega
 ·rw [if_neg hc] at hx
  have h0 : ¬ (0 : Int) ≤ Lib.index (s.drop (i + 1)) [96] := by rw [hx]; decide
  rw [if_neg h0, decide_eq_false (show ¬ i + 1 + cntW noBq (s.drop (i + 1)) < s.length by omega)]
  rfl
/-- the tokens from k on, behind acc: tokens, place of a fault, code -/
def scanV (RQ RE : Nat → (Tok × Int) × Nat) (s : List UInt8) : Nat → Nat → List Tok → List Tok × Int × Int
 | 0, k, acc => (acc, 0, 0)
 | n + 1, k, acc => match s[k]? with
  | none => (acc, 0, 0)
  | some b => bif decide ((nextV s k b (RQ k) (RE k)).1.2 = 0)
    then scanV RQ RE s n (skipTo s (nextV s k b (RQ k) (RE k)).2) (acc ++ [{ (nextV s k b (RQ k) (RE k)).1.1 with at_ := k }])
    else ([], k, (nextV s k b (RQ k) (RE k)).1.2)
theorem findS_some {t x : List UInt8} : ∀ {l : List (List UInt8)}, findS t l = some x → x ∈ l ∧ Lib.hasPrefix t x = true
 | [], h => by cases h
 | y :: l, h => by
  rw [findS] at h
  cases hz : Lib.hasPrefix t y with
  | true => rw [hz, cond_true] at h; cases h; exact ⟨List.mem_cons_self, hz⟩
  | false => rw [hz, cond_false] at h; obtain ⟨h1, h2⟩ := findS_some h; exact ⟨List.mem_cons_of_mem _ h1, h2⟩
theorem signV_bd {t : List UInt8} (h : (signV t).1.2 = 0) : 0 < (signV t).2 ∧ (signV t).2 ≤ t.length := by
 unfold signV at h ⊢
 cases hf : findS t signL with
 | none => rw [hf] at h; exact absurd h (by decide)
 | some x =>
  obtain ⟨h1, h2⟩ := findS_some hf
  refine ⟨?_, prefix_len h2⟩
  have : ∀ y ∈ signL, 0 < y.length := by decide
  exact this x h1
/-- what quotes and backquotes begin ends behind its beginning -/
def Fwd (s : List UInt8) (RQ : Nat → (Tok × Int) × Nat) : Prop := ∀ k, k < s.length → (RQ k).1.2 = 0 → k < (RQ k).2 ∧ (RQ k).2 ≤ s.length
theorem nextV_bd {RQ RE : Nat → (Tok × Int) × Nat} {s : List UInt8} (hQ : Fwd s RQ) (hE : Fwd s RE) {k : Nat} {b : UInt8} (hk : k < s.length) (h : (nextV s k b (RQ k) (RE k)).1.2 = 0) :
  k < (nextV s k b (RQ k) (RE k)).2 ∧ (nextV s k b (RQ k) (RE k)).2 ≤ s.length := by
 have g : ∀ p, k < toW p s (k + 1) ∧ toW p s (k + 1) ≤ s.length := fun p => ⟨toW_ge (p := p) (s := s) (k := k + 1), toW_le (by omega)⟩
 revert h
 unfold nextV
 cases lowI b.toNat with
 | true => exact fun _ => g _
 | false =>
 cases uppI b.toNat with
 | true => exact fun _ => g _
 | false =>
 cases decide ((b.toNat : Int) = 95) with
 | true => intro _; simp only [cond_true, cond_false]; omega
 | false =>
 cases digI b.toNat with
 | true => exact fun _ => g _
 | false =>
 cases decide ((b.toNat : Int) = 45) && nextDig s k with
 | true => exact fun _ => g _
 | false =>
 cases decide ((b.toNat : Int) = 34) with
 | true => exact fun h => hQ k hk h
 | false =>
 cases decide ((b.toNat : Int) = 96) with
 | true => exact fun h => hE k hk h
 | false =>
  intro h
  have := signV_bd (t := s.drop k) h
  rw [List.length_drop] at this
  simp only [cond_false]
  omega
theorem scanV_step (RQ RE : Nat → (Tok × Int) × Nat) (s : List UInt8) (n k : Nat) (acc : List Tok) {b : UInt8} (hb : s[k]? = some b) {t : Tok} {e : Int} {k2 : Nat} (hr : nextV s k b (RQ k) (RE k) = ((t, e), k2)) :
  scanV RQ RE s (n + 1) k acc = bif decide (e = 0) then scanV RQ RE s n (skipTo s k2) (acc ++ [{ t with at_ := k }]) else ([], k, e) := by
 simp only [scanV, hb, hr]
theorem scanV_end (RQ RE : Nat → (Tok × Int) × Nat) (s : List UInt8) (n k : Nat) (acc : List Tok) (hk : s.length ≤ k) : scanV RQ RE s n k acc = (acc, 0, 0) := by
 cases n with
 | zero => rfl
 | succ n => simp only [scanV, List.getElem?_eq_none hk]
theorem tok_snoc (l : List Tok) (t : Tok) (k : Nat) : l.map encTok ++ [[.int .i64 t.kind, .str t.text, .int .i64 t.num, .int .i64 (k : Int)]] = (l ++ [{ t with at_ := (k : Int) }]).map encTok := by
 rw [List.map_append]; rfl
theorem wscan_c (s : List UInt8) (hs : s.length ≤ 1000000000) (RQ RE : Nat → (Tok × Int) × Nat) (hQ : Fwd s RQ) (hE : Fwd s RE)
  (hq : ∀ i b, s[i]? = some b → decide ((b.toNat : Int) = 34) = true → PCB Tryd.prog 65 [Scp pin] [(pin, scB s i)] (TkR (RQ i).1) [(pin, scB s (RQ i).2)])
  (he : ∀ i b, s[i]? = some b → decide ((b.toNat : Int) = 96) = true → PCB Tryd.prog 66 [Scp pin] [(pin, scB s i)] (TkR (RE i).1) [(pin, scB s (RE i).2)]) :
  PC Tryd.prog 25 [S s] (.tup [.one (.dat (.sl 4 ((scanV RQ RE s (s.length + 1) (skipTo s 0) []).1.map encTok))), I .i64 (scanV RQ RE s (s.length + 1) (skipTo s 0) []).2.1, I .i64 (scanV RQ RE s (s.length + 1) (skipTo s 0) []).2.2]) := by
 have h0 := PCBk.mk 12 (wskip_c s (by omega) 0 (Nat.zero_le _))
 have hk0 := skipTo_le (s := s) (k := 0) (Nat.zero_le _)
 generalize skipTo s 0 = k0 at h0 hk0 ⊢
 refine PCB.of_body Tryd.func25 rfl (by decide) Tryd.ntmps25 Tryd.results25 rfl rfl rfl ?_ rfl rfl
 repeat' (first | (simp only [go_sem, zA, zB, zC, zD, zE, zF, zG, reduceCtorEq, zH, zI, zJ, zK, zL]; all_goals fail_if_success guard_target =ₛ False) | (with_reducible first | ((first | refine seqVC_stepN rfl ?_ | refine AWP.seq ?_ | refine AWP.seqR (by kernel_rfl) ?_); intro K hK) | ((first | refine hK _ _ _ ?_ | refine hK _ _ ?_ | refine hK _ ?_); clear hK K) | refine seqVC_nil ?_ | refine AWP.block ?_ | (refine AWP.cond (by with_unfolding_all rfl) ?_ ?_ <;> intro h <;> (try simp only [zM, zN] at h) <;> try exact absurd h (by decide)) | refine AWP.skip ?_ | refine AWP.ret ?_ | refine AWP.exit ?_) | (refine ⟨12, _, _, _, h0, rfl, ?_⟩) | (with_reducible first | refine Or.inl ?_) | (clear hK K))
 refine AWP.gh (Gh.nilrow 6 900 rfl rfl rfl (by simp [Bx.fresh, Cell.freshs, Cell.fresh])) ?_
 refine AWP.loopF (X := Nat × Nat × List Tok) (fun x => [(6, .one (.own 900 x.2.2.length))]) (fun x => [(12, scB s x.2.1), (900, .row 4 (x.2.2.map encTok))]) [0, 5] [] (fun x => x.2.1 ≤ s.length ∧ s.length < x.1 + x.2.1 ∧ x.2.2.length ≤ x.2.1 ∧ scanV RQ RE s (s.length + 1) k0 [] = scanV RQ RE s x.1 x.2.1 x.2.2) (fun x => x.1) ((s.length + 1, k0, [])) (by simp only [go_sem, zA, zB, zC, zD, zE, zF, zG, reduceCtorEq, zH, zI, zJ, zK, zL]; exact Gh.to [] (by repeat (first | exact trivial | refine ⟨rfl, ?_⟩ | refine ⟨by (simp only [go_sem, zA, zB, zC, zD, zE, zF, zG, reduceCtorEq, zH, zI, zJ, zK, zL, List.length_append, List.length_map, List.length_cons, List.length_nil, Nat.zero_add]) <;> rfl, ?_⟩)) (by repeat (first | exact trivial | refine ⟨rfl, ?_⟩ | refine ⟨by (simp only [go_sem, zA, zB, zC, zD, zE, zF, zG, reduceCtorEq, zH, zI, zJ, zK, zL, List.length_append, List.length_map, List.length_cons, List.length_nil, Nat.zero_add]) <;> rfl, ?_⟩)) rfl rfl rfl) ?_ ?_
 ·exact ⟨hk0, by simp only; omega, Nat.zero_le _, rfl⟩
 rintro ⟨n, k, acc⟩ ⟨hkl, hn, hal, hok⟩
 simp only at hkl hn hal hok
 simp only [go_sem, zA, zB, zC, zD, zE, zF, zG, reduceCtorEq, zH, zI, zJ, zK, zL]
 by_cases hlt : k < s.length
 ·obtain ⟨b, hb⟩ := byte_at hlt
  have hd : decide ((k : Int) < (s.length : Int)) = true := by rw [decide_eq_true_eq]; omega
  have hnx := PCBk.mk 12 (next_c s hs k b hb (RQ k) (RE k) (hq k b hb) (he k b hb))
  obtain ⟨n, rfl⟩ : ∃ m, n = m + 1 := ⟨n - 1, by omega⟩
  have hbd := nextV_bd hQ hE (b := b) hlt
  have hst := fun t e k2 h => scanV_step RQ RE s n k acc hb (t := t) (e := e) (k2 := k2) h
  generalize nextV s k b (RQ k) (RE k) = r at hnx hst hbd
  obtain ⟨⟨t, e⟩, k2⟩ := r
  have hst := hst t e k2 rfl
  simp only at hnx hbd
  rw [hst] at hok
  cases hz : decide (e = 0) with
  | false =>
   rw [hz, cond_false] at hok
   repeat' (first | (simp only [go_sem, zA, zB, zC, zD, zE, zF, zG, reduceCtorEq, zH, zI, zJ, zK, zL, hd, hz, tok_eta, Bool.not_false]; all_goals fail_if_success guard_target =ₛ False) | (with_reducible first | ((first | refine seqVC_stepN rfl ?_ | refine AWP.seq ?_ | refine AWP.seqR (by kernel_rfl) ?_); intro K hK) | ((first | refine hK _ _ _ ?_ | refine hK _ _ ?_ | refine hK _ ?_); clear hK K) | refine seqVC_nil ?_ | refine AWP.block ?_ | (refine AWP.cond (by with_unfolding_all rfl) ?_ ?_ <;> intro h <;> (try simp only [zM, zN] at h) <;> try exact absurd h (by decide)) | refine AWP.skip ?_ | refine AWP.ret ?_ | refine AWP.exit ?_) | (refine ⟨12, _, _, _, hnx, rfl, ?_⟩) | (with_reducible first | refine Or.inl ?_) | (clear hK K))
   rw [hok]
   all_goals (first | exact fun _ h => absurd h List.not_mem_nil | refine fin0 ?_)
   all_goals rfl
  | true =>
   rw [hz, cond_true] at hok
   obtain ⟨hb1, hb2⟩ := hbd (by simpa using hz)
   have hsk := PCBk.mk 12 (wskip_c s (by omega) k2 hb2)
   have hk2 := skipTo_le hb2
   have hk3 := skipTo_ge (s := s) (k := k2)
   repeat' (first | (simp only [go_sem, zA, zB, zC, zD, zE, zF, zG, reduceCtorEq, zH, zI, zJ, zK, zL, hd, hz, tok_eta, tok_snoc, List.length_map, Bool.not_true]; all_goals fail_if_success guard_target =ₛ False) | (with_reducible first | ((first | refine seqVC_stepN rfl ?_ | refine AWP.seq ?_ | refine AWP.seqR (by kernel_rfl) ?_); intro K hK) | ((first | refine hK _ _ _ ?_ | refine hK _ _ ?_ | refine hK _ ?_); clear hK K) | refine seqVC_nil ?_ | refine AWP.block ?_ | (refine AWP.cond (by with_unfolding_all rfl) ?_ ?_ <;> intro h <;> (try simp only [zM, zN] at h) <;> try exact absurd h (by decide)) | refine AWP.skip ?_ | refine AWP.ret ?_ | refine AWP.exit ?_ | (refine ⟨(by first | omega | (simp only [List.length_append, List.length_map, List.length_take, List.length_drop, List.length_cons, List.length_nil, List.length_replicate]; omega) : _ ≤ _), ?_⟩) | refine ⟨by omega, by omega, ?_⟩) | (refine ⟨12, _, _, _, hnx, rfl, ?_⟩) | (refine ⟨12, _, _, _, hsk, rfl, ?_⟩) | (with_reducible first | refine Or.inl ?_) | (clear hK K))
   all_goals (refine ⟨(n, skipTo s k2, acc ++ [{ t with at_ := k }]), by simp only; omega, ⟨by simp only; omega, by simp only; omega, by simp only [List.length_append, List.length_cons, List.length_nil]; omega, hok⟩, Gh.to [(900, 42)] (by repeat (first | exact trivial | refine ⟨rfl, ?_⟩ | refine ⟨by (simp only [go_sem, zA, zB, zC, zD, zE, zF, zG, reduceCtorEq, zH, zI, zJ, zK, zL, List.length_append, List.length_map, List.length_cons, List.length_nil, Nat.zero_add]) <;> rfl, ?_⟩)) (by repeat (first | exact trivial | refine ⟨rfl, ?_⟩ | refine ⟨by (simp only [go_sem, zA, zB, zC, zD, zE, zF, zG, reduceCtorEq, zH, zI, zJ, zK, zL, List.length_append, List.length_map, List.length_cons, List.length_nil, Nat.zero_add]) <;> rfl, ?_⟩)) rfl rfl rfl⟩)
 ·have hd : decide ((k : Int) < (s.length : Int)) = false := by rw [decide_eq_false_iff_not]; omega
  rw [scanV_end RQ RE s n k acc (by omega)] at hok
  refine AWP.gh (Gh.freeze 900 rfl rfl (by simp only [go_sem, zA, zB, zC, zD, zE, zF, zG, reduceCtorEq, zH, zI, zJ, zK, zL, List.length_map]) (by simp only [go_sem, zA, zB, zC, zD, zE, zF, zG, reduceCtorEq, zH, zI, zJ, zK, zL, List.length_map])) ?_
  simp only [go_sem, zA, zB, zC, zD, zE, zF, zG, reduceCtorEq, zH, zI, zJ, zK, zL, List.length_map]
  repeat' (first | (simp only [go_sem, zA, zB, zC, zD, zE, zF, zG, reduceCtorEq, zH, zI, zJ, zK, zL, hd]; all_goals fail_if_success guard_target =ₛ False) | (with_reducible first | ((first | refine seqVC_stepN rfl ?_ | refine AWP.seq ?_ | refine AWP.seqR (by kernel_rfl) ?_); intro K hK) | ((first | refine hK _ _ _ ?_ | refine hK _ _ ?_ | refine hK _ ?_); clear hK K) | refine seqVC_nil ?_ | refine AWP.block ?_ | (refine AWP.cond (by with_unfolding_all rfl) ?_ ?_ <;> intro h <;> (try simp only [zM, zN] at h) <;> try exact absurd h (by decide)) | refine AWP.skip ?_ | refine AWP.ret ?_ | refine AWP.exit ?_ | refine Or.inl ?_) | (clear hK K))
  rw [hok]
  all_goals (first | exact fun _ h => absurd h List.not_mem_nil | refine fin0 ?_)
  all_goals rfl
abbrev ScR (r : List Tok × Int × Int) : T := .tup [.one (.dat (.sl 4 (r.1.map encTok))), I .i64 r.2.1, I .i64 r.2.2]
def tscanV (RQ RE : Nat → (Tok × Int) × Nat) (s : List UInt8) : List Tok × Int × Int :=
 bif decide ((4000 : Int) < (s.length : Int)) then ([], 0, 2) else scanV RQ RE s (s.length + 1) (skipTo s 0) []
theorem tscan_c (s : List UInt8) (hs : s.length ≤ 1000000000) (RQ RE : Nat → (Tok × Int) × Nat) (hQ : Fwd s RQ) (hE : Fwd s RE)
  (hq : ∀ i b, s[i]? = some b → decide ((b.toNat : Int) = 34) = true → PCB Tryd.prog 65 [Scp pin] [(pin, scB s i)] (TkR (RQ i).1) [(pin, scB s (RQ i).2)])
  (he : ∀ i b, s[i]? = some b → decide ((b.toNat : Int) = 96) = true → PCB Tryd.prog 66 [Scp pin] [(pin, scB s i)] (TkR (RE i).1) [(pin, scB s (RE i).2)]) :
  PC Tryd.prog 13 [S s] (ScR (tscanV RQ RE s)) := by
 have h1 := wscan_c s hs RQ RE hQ hE hq he
 unfold tscanV
 generalize scanV RQ RE s (s.length + 1) (skipTo s 0) [] = r at h1 ⊢
 cases h0 : decide ((4000 : Int) < (s.length : Int))
 ·
  refine PCB.of_body Tryd.func13 rfl (by decide) Tryd.ntmps13 Tryd.results13 rfl rfl rfl ?_ rfl rfl
  repeat' (first | (simp only [go_sem, zA, zB, zC, zD, zE, zF, zG, reduceCtorEq, zH, zI, zJ, zK, zL, h0]; all_goals fail_if_success guard_target =ₛ False) | (with_reducible first | ((first | refine seqVC_stepN rfl ?_ | refine AWP.seq ?_ | refine AWP.seqR (by kernel_rfl) ?_); intro K hK) | ((first | refine hK _ _ _ ?_ | refine hK _ _ ?_ | refine hK _ ?_); clear hK K) | refine seqVC_nil ?_ | refine AWP.block ?_ | (refine AWP.cond (by with_unfolding_all rfl) ?_ ?_ <;> intro h <;> (try simp only [zM, zN] at h) <;> try exact absurd h (by decide)) | refine AWP.skip ?_ | refine AWP.ret ?_ | refine AWP.exit ?_ | refine ⟨_, h1, ?_⟩ | refine Or.inl ?_) | (clear hK K))
  all_goals (first | exact fun _ h => absurd h List.not_mem_nil | refine fin0 ?_)
  all_goals rfl
 ·
  refine PCB.of_body Tryd.func13 rfl (by decide) Tryd.ntmps13 Tryd.results13 rfl rfl rfl ?_ rfl rfl
  repeat' (first | (simp only [go_sem, zA, zB, zC, zD, zE, zF, zG, reduceCtorEq, zH, zI, zJ, zK, zL, h0]; all_goals fail_if_success guard_target =ₛ False) | (with_reducible first | ((first | refine seqVC_stepN rfl ?_ | refine AWP.seq ?_ | refine AWP.seqR (by kernel_rfl) ?_); intro K hK) | ((first | refine hK _ _ _ ?_ | refine hK _ _ ?_ | refine hK _ ?_); clear hK K) | refine seqVC_nil ?_ | refine AWP.block ?_ | (refine AWP.cond (by with_unfolding_all rfl) ?_ ?_ <;> intro h <;> (try simp only [zM, zN] at h) <;> try exact absurd h (by decide)) | refine AWP.skip ?_ | refine AWP.ret ?_ | refine AWP.exit ?_ | refine Or.inl ?_) | (clear hK K))
  all_goals (first | exact fun _ h => absurd h List.not_mem_nil | refine fin0 ?_)
  all_goals rfl
/-- the bytes of the sample -/
def sampS : List UInt8 := [102, 40, 88, 41, 32, 45, 62, 32, 45, 49, 46]
def noV : Nat → (Tok × Int) × Nat := fun _ => ((zeroTok, 5), 0)
def sampT : List Tok := [⟨1, [102], 0, 0⟩, ⟨6, [40], 0, 1⟩, ⟨2, [88], 0, 2⟩, ⟨6, [41], 0, 3⟩, ⟨6, [45, 62], 0, 5⟩, ⟨3, [], -1, 8⟩, ⟨6, [46], 0, 10⟩]
theorem samp_no : ∀ b ∈ sampS, decide ((b.toNat : Int) = 34) = false ∧ decide ((b.toNat : Int) = 96) = false := by decide
theorem sk (k m : Nat) (h : skipL (sampS.drop k) = m) : skipTo sampS k = k + m := by unfold skipTo; rw [h]
theorem samp_v : tscanV noV noV sampS = (sampT, 0, 0) := by
 have e0 : skipTo sampS 0 = 0 := sk 0 0 (by simp [sampS, skipL, sepI])
 have e1 : skipTo sampS 1 = 1 := sk 1 0 (by simp [sampS, skipL, sepI])
 have e2 : skipTo sampS 2 = 2 := sk 2 0 (by simp [sampS, skipL, sepI])
 have e3 : skipTo sampS 3 = 3 := sk 3 0 (by simp [sampS, skipL, sepI])
 have e4 : skipTo sampS 4 = 5 := sk 4 1 (by simp [sampS, skipL, sepI])
 have e7 : skipTo sampS 7 = 8 := sk 7 1 (by simp [sampS, skipL, sepI])
 have e10 : skipTo sampS 10 = 10 := sk 10 0 (by simp [sampS, skipL, sepI])
 have e11 : skipTo sampS 11 = 11 := sk 11 0 (by simp [sampS, skipL, sepI])
 have st : ∀ (n k : Nat) (acc : List Tok) (b : UInt8) (t : Tok) (k2 : Nat), sampS[k]? = some b → nextV sampS k b (noV k) (noV k) = ((t, 0), k2) → scanV noV noV sampS (n + 1) k acc = scanV noV noV sampS n (skipTo sampS k2) (acc ++ [{ t with at_ := k }]) := fun n k acc b t k2 hb hr => by
  rw [scanV_step noV noV sampS n k acc hb hr]; rfl
 show scanV noV noV sampS 12 (skipTo sampS 0) [] = _
 rw [e0, st 11 0 _ 102 ⟨1, [102], 0, 0⟩ 1 rfl (by decide +kernel), e1, st 10 1 _ 40 ⟨6, [40], 0, 0⟩ 2 rfl (by decide +kernel), e2, st 9 2 _ 88 ⟨2, [88], 0, 0⟩ 3 rfl (by decide +kernel), e3, st 8 3 _ 41 ⟨6, [41], 0, 0⟩ 4 rfl (by decide +kernel), e4,
  st 7 5 _ 45 ⟨6, [45, 62], 0, 0⟩ 7 rfl (by decide +kernel), e7, st 6 8 _ 45 ⟨3, [], -1, 0⟩ 10 rfl (by decide +kernel), e10, st 5 10 _ 46 ⟨6, [46], 0, 0⟩ 11 rfl (by decide +kernel), e11, scanV_end noV noV sampS 5 11 _ (by decide)]
 rfl
theorem fwd_no (s : List UInt8) : Fwd s noV := fun k _ h => absurd (show (5 : Int) = 0 from h) (by decide)
theorem samp_c : PC Tryd.prog 13 [S sampS] (ScR (sampT, 0, 0)) := by
 have h := tscan_c sampS (by decide) noV noV (fwd_no _) (fwd_no _)
  (fun i b hb h => by have := (samp_no b (List.mem_of_getElem? hb)).1; rw [h] at this; cases this)
  (fun i b hb h => by have := (samp_no b (List.mem_of_getElem? hb)).2; rw [h] at this; cases this)
 rwa [samp_v] at h
theorem awake_c : PC Tryd.prog 11 [] (Bo true) := by
 have h1 := samp_c
 have h2 := reserved_c [99, 97, 115, 101]
 rw [show (resW.any fun x => decide (x = [99, 97, 115, 101])) = true by decide] at h2
 have h3 := reserved_c [102]
 rw [show (resW.any fun x => decide (x = [102])) = false by decide] at h3
 unfold sampS sampT at h1
 refine PCB.of_body Tryd.func11 rfl (by decide) Tryd.ntmps11 Tryd.results11 rfl rfl rfl ?_ rfl rfl
 repeat' (first | (simp only [go_sem, zA, zB, zC, zD, zE, zF, zG, reduceCtorEq, zH, zI, zJ, zK, zL, List.map_cons, List.map_nil, encTok]; all_goals fail_if_success guard_target =ₛ False) | (with_reducible first | ((first | refine seqVC_stepN rfl ?_ | refine seqVC_stepG rfl (by with_unfolding_all rfl) ?_ | refine AWP.seq ?_ | refine AWP.seqR (by kernel_rfl) ?_); intro K hK) | ((first | refine hK _ _ _ ?_ | refine hK _ _ ?_ | refine hK _ ?_); clear hK K) | refine seqVC_nil ?_ | refine AWP.block ?_ | (refine AWP.cond (by with_unfolding_all rfl) ?_ ?_ <;> intro h <;> (try simp only [zM, zN] at h) <;> try exact absurd h (by decide)) | refine AWP.skip ?_ | refine AWP.ret ?_ | refine AWP.exit ?_ | (refine ⟨fun h => ?_, fun h => ?_⟩ <;> (try simp only [zM, zN] at h) <;> try simp only [h]) | refine ⟨_, h1, ?_⟩ | refine ⟨_, h2, ?_⟩ | refine ⟨_, h3, ?_⟩ | refine ⟨by omega, _, rfl, ?_⟩ | refine Or.inl ?_) | (clear hK K))
 all_goals (first | exact fun _ h => absurd h List.not_mem_nil | refine fin0 ?_)
 all_goals rfl
theorem fwd_quo (s : List UInt8) : Fwd s (quoV s) := by
 intro k hk h
 unfold quoV at h ⊢
 cases hq : qAt s (k + 1) with
 | none => rw [hq] at h; exact absurd (show (5 : Int) = 0 from h) (by decide)
 | some j =>
  have := qAt_bd hq
  simp only
  omega
theorem fwd_enc (s : List UInt8) : Fwd s (encV s) := by
 intro k hk h
 have hge := toW_ge (p := noBq) (s := s) (k := k + 1)
 rw [encV_eq s k hk] at h ⊢
 cases hf : decide (toW noBq s (k + 1) < s.length) with
 | false => rw [hf] at h; exact absurd (show (5 : Int) = 0 from h) (by decide)
 | true =>
  simp only [decide_eq_true_eq] at hf
  simp only [cond_true]
  omega
/-- what both scanners give -/
def scanR (s : List UInt8) : List Tok × Int × Int := tscanV (quoV s) (encV s) s
theorem pscan_c (s : List UInt8) (hs : s.length ≤ 100000000) : PC Tryd.prog 13 [S s] (ScR (scanR s)) :=
 tscan_c s (by omega) _ _ (fwd_quo s) (fwd_enc s) (fun i b hb _ => quoted_c s (by omega) i (List.getElem?_eq_some_iff.1 hb).1) (fun i b hb _ => enclosed_c s (by omega) i (List.getElem?_eq_some_iff.1 hb).1)
/-- a token, its position left out if so asked -/
def er (plain : Bool) (t : Tok) : Tok := bif plain then { t with at_ := 0 } else t
theorem same_c (a b : List Tok) (plain : Bool) (ha : a.length ≤ 1000000000) (hab : a.map (er plain) = b.map (er plain)) :
  PC Tryd.prog 15 [.one (.dat (.sl 4 (a.map encTok))), .one (.dat (.sl 4 (b.map encTok))), Bo plain] (Bo true) := by
 have hlen : a.length = b.length := by have := congrArg List.length hab; simpa using this
 have hz : decide ((a.length : Int) = (b.length : Int)) = true := by rw [decide_eq_true_eq]; omega
 refine PCB.of_body Tryd.func15 rfl (by decide) Tryd.ntmps15 Tryd.results15 rfl rfl rfl ?_ rfl rfl
 repeat' (first | (simp only [go_sem, zA, zB, zC, zD, zE, zF, zG, reduceCtorEq, zH, zI, zJ, zK, zL, List.length_map, hz]; all_goals fail_if_success guard_target =ₛ False) | (with_reducible first | ((first | refine seqVC_stepN rfl ?_ | refine AWP.seq ?_ | refine AWP.seqR (by kernel_rfl) ?_ | refine parVC_stepN rfl ?_ | refine parEVC_stepN rfl ?_ | refine genVC_stepN rfl ?_); intro K hK) | ((first | refine hK _ _ _ ?_ | refine hK _ _ ?_ | refine hK _ ?_); clear hK K) | refine seqVC_nil ?_ | refine parVC_nil ?_ | refine parEVC_nil ?_ | refine genVC_nil ?_ | refine AWP.block ?_ | (refine AWP.cond (by with_unfolding_all rfl) ?_ ?_ <;> intro h <;> (try simp only [zM, zN] at h) <;> try exact absurd h (by decide)) | refine AWP.skip ?_ | refine AWP.ret ?_ | refine AWP.exit ?_ | (refine AWP.segP (id := 6) 8 mixed (by kernel_rfl) fun K hK => ?_; simp only [List.take_succ_cons, List.take_zero, List.drop_succ_cons, List.drop_zero]) | refine AWP.parR mixed (by kernel_rfl) fun K hK => ?_ | refine ⟨(by kernel_rfl : depB _ _ _ = true), ?_⟩ | refine Or.inl ?_) | (clear hK K))
 refine AWP.len 15 rfl fun hlen0 => ?_
 (try rw [List.length_map] at hlen0)
 refine AWP.range (S := Unit) (a) encTok (fun k u => (17, I .i64 (k : Nat)) :: []) (fun k u => []) [0, 1, 2, 16] [] (fun k u => True) (()) (by simp only [go_sem, zA, zB, zC, zD, zE, zF, zG, reduceCtorEq, zH, zI, zJ, zK, zL]; exact Gh.to [] (by repeat (first | exact trivial | refine ⟨rfl, ?_⟩ | refine ⟨by (simp only [go_sem, zA, zB, zC, zD, zE, zF, zG, reduceCtorEq, zH, zI, zJ, zK, zL, List.length_append, List.length_map, List.length_cons, List.length_nil, Nat.zero_add]) <;> rfl, ?_⟩)) (by repeat (first | exact trivial | refine ⟨rfl, ?_⟩ | refine ⟨by (simp only [go_sem, zA, zB, zC, zD, zE, zF, zG, reduceCtorEq, zH, zI, zJ, zK, zL, List.length_append, List.length_map, List.length_cons, List.length_nil, Nat.zero_add]) <;> rfl, ?_⟩)) rfl rfl rfl) ?_ ?_ ?_
 ·trivial
 ·intro k u x hlt hx hx' hbb hok
  simp only [go_sem, zA, zB, zC, zD, zE, zF, zG, reduceCtorEq, zH, zI, zJ, zK, zL]
  obtain ⟨y, hy⟩ : ∃ y, b[k]? = some y := ⟨b[k]'(by omega), List.getElem?_eq_getElem (by omega)⟩
  have hy' : (b.map encTok)[k]? = some (encTok y) := by rw [List.getElem?_map, hy]; rfl
  have hxy : er plain x = er plain y := by
   have := congrArg (fun l => l[k]?) hab
   simp only [List.getElem?_map, hx, hy, Option.map_some, Option.some.injEq] at this
   exact this
  cases plain with
  | false =>
   simp only [er, cond_false] at hxy
   subst hxy
   repeat' (first | (simp only [go_sem, zA, zB, zC, zD, zE, zF, zG, reduceCtorEq, zH, zI, zJ, zK, zL, List.length_map, hbb, encTok]; all_goals fail_if_success guard_target =ₛ False) | (with_reducible first | ((first | refine seqVC_stepN rfl ?_ | refine AWP.seq ?_ | refine AWP.seqR (by kernel_rfl) ?_ | refine parVC_stepN rfl ?_ | refine parEVC_stepN rfl ?_ | refine genVC_stepN rfl ?_ | refine genMVC_stepN rfl ?_); intro K hK) | ((first | refine hK _ _ _ ?_ | refine hK _ _ ?_ | refine hK _ ?_); clear hK K) | refine seqVC_nil ?_ | refine parVC_nil ?_ | refine parEVC_nil ?_ | refine genVC_nil ?_ | refine genMVC_nil ?_ | refine AWP.block ?_ | (refine AWP.cond (by with_unfolding_all rfl) ?_ ?_ <;> intro h <;> (try simp only [zM, zN] at h) <;> try exact absurd h (by decide)) | refine AWP.skip ?_ | refine AWP.ret ?_ | refine AWP.exit ?_ | refine ⟨by omega, encTok x, hx', ?_⟩ | refine ⟨encTok x, hx', ?_⟩ | refine ⟨by omega, encTok x, hy', ?_⟩ | refine ⟨encTok x, hy', ?_⟩ | (refine AWP.genMT (id := 6) [8,9] 10 mixed (by kernel_rfl) fun K hK => ?_; simp only [List.take_succ_cons, List.take_zero, List.drop_succ_cons, List.drop_zero]) | refine AWP.parR mixed (by kernel_rfl) fun K hK => ?_ | refine ⟨(by kernel_rfl : depB _ _ _ = true), ?_⟩ | refine Or.inl ?_) | (clear hK K))
   all_goals (rw [wrap_succ hlt hlen0])
   all_goals first | exact ⟨(), trivial, Gh.to [] (by repeat (first | exact trivial | refine ⟨rfl, ?_⟩ | refine ⟨by (simp only [go_sem, zA, zB, zC, zD, zE, zF, zG, reduceCtorEq, zH, zI, zJ, zK, zL, List.length_append, List.length_map, List.length_cons, List.length_nil, Nat.zero_add]) <;> rfl, ?_⟩)) (by repeat (first | exact trivial | refine ⟨rfl, ?_⟩ | refine ⟨by (simp only [go_sem, zA, zB, zC, zD, zE, zF, zG, reduceCtorEq, zH, zI, zJ, zK, zL, List.length_append, List.length_map, List.length_cons, List.length_nil, Nat.zero_add]) <;> rfl, ?_⟩)) rfl rfl rfl⟩ | exact ⟨(), Gh.to [] (by repeat (first | exact trivial | refine ⟨rfl, ?_⟩ | refine ⟨by (simp only [go_sem, zA, zB, zC, zD, zE, zF, zG, reduceCtorEq, zH, zI, zJ, zK, zL, List.length_append, List.length_map, List.length_cons, List.length_nil, Nat.zero_add]) <;> rfl, ?_⟩)) (by repeat (first | exact trivial | refine ⟨rfl, ?_⟩ | refine ⟨by (simp only [go_sem, zA, zB, zC, zD, zE, zF, zG, reduceCtorEq, zH, zI, zJ, zK, zL, List.length_append, List.length_map, List.length_cons, List.length_nil, Nat.zero_add]) <;> rfl, ?_⟩)) rfl rfl rfl⟩ | exact Gh.to [] (by repeat (first | exact trivial | refine ⟨rfl, ?_⟩ | refine ⟨by (simp only [go_sem, zA, zB, zC, zD, zE, zF, zG, reduceCtorEq, zH, zI, zJ, zK, zL, List.length_append, List.length_map, List.length_cons, List.length_nil, Nat.zero_add]) <;> rfl, ?_⟩)) (by repeat (first | exact trivial | refine ⟨rfl, ?_⟩ | refine ⟨by (simp only [go_sem, zA, zB, zC, zD, zE, zF, zG, reduceCtorEq, zH, zI, zJ, zK, zL, List.length_append, List.length_map, List.length_cons, List.length_nil, Nat.zero_add]) <;> rfl, ?_⟩)) rfl rfl rfl
  | true =>
   obtain ⟨k1, t1, n1, a1⟩ := x
   obtain ⟨k2, t2, n2, a2⟩ := y
   simp only [er, cond_true, Tok.mk.injEq, and_true] at hxy
   obtain ⟨rfl, rfl, rfl⟩ := hxy
   repeat' (first | (simp only [go_sem, zA, zB, zC, zD, zE, zF, zG, reduceCtorEq, zH, zI, zJ, zK, zL, List.length_map, hbb, encTok]; all_goals fail_if_success guard_target =ₛ False) | (with_reducible first | ((first | refine seqVC_stepN rfl ?_ | refine AWP.seq ?_ | refine AWP.seqR (by kernel_rfl) ?_ | refine parVC_stepN rfl ?_ | refine parEVC_stepN rfl ?_ | refine genVC_stepN rfl ?_ | refine genMVC_stepN rfl ?_); intro K hK) | ((first | refine hK _ _ _ ?_ | refine hK _ _ ?_ | refine hK _ ?_); clear hK K) | refine seqVC_nil ?_ | refine parVC_nil ?_ | refine parEVC_nil ?_ | refine genVC_nil ?_ | refine genMVC_nil ?_ | refine AWP.block ?_ | (refine AWP.cond (by with_unfolding_all rfl) ?_ ?_ <;> intro h <;> (try simp only [zM, zN] at h) <;> try exact absurd h (by decide)) | refine AWP.skip ?_ | refine AWP.ret ?_ | refine AWP.exit ?_ | refine ⟨by omega, _, hx', ?_⟩ | refine ⟨_, hx', ?_⟩ | refine ⟨by omega, _, hy', ?_⟩ | refine ⟨_, hy', ?_⟩ | (refine AWP.genMT (id := 6) [8,9] 10 mixed (by kernel_rfl) fun K hK => ?_; simp only [List.take_succ_cons, List.take_zero, List.drop_succ_cons, List.drop_zero]) | refine AWP.parR mixed (by kernel_rfl) fun K hK => ?_ | refine ⟨(by kernel_rfl : depB _ _ _ = true), ?_⟩ | refine Or.inl ?_) | (clear hK K))
   all_goals (rw [wrap_succ hlt hlen0])
   all_goals first | exact ⟨(), trivial, Gh.to [] (by repeat (first | exact trivial | refine ⟨rfl, ?_⟩ | refine ⟨by (simp only [go_sem, zA, zB, zC, zD, zE, zF, zG, reduceCtorEq, zH, zI, zJ, zK, zL, List.length_append, List.length_map, List.length_cons, List.length_nil, Nat.zero_add]) <;> rfl, ?_⟩)) (by repeat (first | exact trivial | refine ⟨rfl, ?_⟩ | refine ⟨by (simp only [go_sem, zA, zB, zC, zD, zE, zF, zG, reduceCtorEq, zH, zI, zJ, zK, zL, List.length_append, List.length_map, List.length_cons, List.length_nil, Nat.zero_add]) <;> rfl, ?_⟩)) rfl rfl rfl⟩ | exact ⟨(), Gh.to [] (by repeat (first | exact trivial | refine ⟨rfl, ?_⟩ | refine ⟨by (simp only [go_sem, zA, zB, zC, zD, zE, zF, zG, reduceCtorEq, zH, zI, zJ, zK, zL, List.length_append, List.length_map, List.length_cons, List.length_nil, Nat.zero_add]) <;> rfl, ?_⟩)) (by repeat (first | exact trivial | refine ⟨rfl, ?_⟩ | refine ⟨by (simp only [go_sem, zA, zB, zC, zD, zE, zF, zG, reduceCtorEq, zH, zI, zJ, zK, zL, List.length_append, List.length_map, List.length_cons, List.length_nil, Nat.zero_add]) <;> rfl, ?_⟩)) rfl rfl rfl⟩ | exact Gh.to [] (by repeat (first | exact trivial | refine ⟨rfl, ?_⟩ | refine ⟨by (simp only [go_sem, zA, zB, zC, zD, zE, zF, zG, reduceCtorEq, zH, zI, zJ, zK, zL, List.length_append, List.length_map, List.length_cons, List.length_nil, Nat.zero_add]) <;> rfl, ?_⟩)) (by repeat (first | exact trivial | refine ⟨rfl, ?_⟩ | refine ⟨by (simp only [go_sem, zA, zB, zC, zD, zE, zF, zG, reduceCtorEq, zH, zI, zJ, zK, zL, List.length_append, List.length_map, List.length_cons, List.length_nil, Nat.zero_add]) <;> rfl, ?_⟩)) rfl rfl rfl
 ·intro u hbb hok
  simp only [go_sem, zA, zB, zC, zD, zE, zF, zG, reduceCtorEq, zH, zI, zJ, zK, zL]
  repeat' (first | (simp only [go_sem, zA, zB, zC, zD, zE, zF, zG, reduceCtorEq, zH, zI, zJ, zK, zL, List.length_map, hbb]; all_goals fail_if_success guard_target =ₛ False) | (with_reducible first | ((first | refine seqVC_stepN rfl ?_ | refine AWP.seq ?_ | refine AWP.seqR (by kernel_rfl) ?_ | refine parVC_stepN rfl ?_ | refine parEVC_stepN rfl ?_ | refine genVC_stepN rfl ?_); intro K hK) | ((first | refine hK _ _ _ ?_ | refine hK _ _ ?_ | refine hK _ ?_); clear hK K) | refine seqVC_nil ?_ | refine parVC_nil ?_ | refine parEVC_nil ?_ | refine genVC_nil ?_ | refine AWP.block ?_ | (refine AWP.cond (by with_unfolding_all rfl) ?_ ?_ <;> intro h <;> (try simp only [zM, zN] at h) <;> try exact absurd h (by decide)) | refine AWP.skip ?_ | refine AWP.ret ?_ | refine AWP.exit ?_ | (refine AWP.segP (id := 6) 8 mixed (by kernel_rfl) fun K hK => ?_; simp only [List.take_succ_cons, List.take_zero, List.drop_succ_cons, List.drop_zero]) | refine AWP.parR mixed (by kernel_rfl) fun K hK => ?_ | refine ⟨(by kernel_rfl : depB _ _ _ = true), ?_⟩ | refine Or.inl ?_) | (clear hK K))
  all_goals (first | exact fun _ h => absurd h List.not_mem_nil | refine fin0 ?_)
  all_goals rfl
def encI (n : Int) : List C := [.int .i64 n]
theorem mod_bd (n m : Int) (hm : 0 < m) : 0 ≤ (IntKind.u64.wrap n).tmod m ∧ (IntKind.u64.wrap n).tmod m < m := by
 have : 0 ≤ IntKind.u64.wrap n := by
  have h4 := Int.emod_nonneg n (show (2 : Int) ^ IntKind.u64.bits ≠ 0 by decide)
  have e : IntKind.u64.wrap n = n % 2 ^ IntKind.u64.bits := by simp [IntKind.wrap, IntKind.signed]
  rw [e]; exact h4
 exact ⟨Int.tmod_nonneg _ this, Int.tmod_lt_of_pos _ hm⟩
theorem skipL_non {b : UInt8} {l : List UInt8} (h : sepI b.toNat = false) (hc : decide ((b.toNat : Int) = 37) = false) : skipL (b :: l) = 0 := by rw [skipL, h, hc]; rfl
theorem scan_short (s : List UInt8) (hl : s.length ≤ 4000) : scanR s = scanV (quoV s) (encV s) s (s.length + 1) (skipTo s 0) [] := by
 unfold scanR tscanV
 rw [decide_eq_false (show ¬ (4000 : Int) < (s.length : Int) by omega)]; rfl
theorem scan_long (s : List UInt8) (hl : 4000 < s.length) : scanR s = ([], 0, 2) := by
 unfold scanR tscanV
 rw [decide_eq_true (show (4000 : Int) < (s.length : Int) by omega)]; rfl
end Go.Proofs.YtogponhonjiidaaDoor
set_option linter.unusedSimpArgs false
set_option linter.unusedVariables false
set_option maxRecDepth 20000
set_option maxHeartbeats 16000000
namespace Go.Proofs.YtogponhonjiidaaDoor
open Go Go.Sx
open Nat renaming reduceBEq → zA, reduceBNe → zB, reduceAdd → zC, reduceSub → zD, reduceMul → zE, reduceLeDiff → zF, reduceLT → zG, reduceEqDiff → zH
open Int renaming reduceToNat → zI, reduceLE → zJ, reduceLT → zK, reduceEq → zL
open Bool renaming not_eq_true' → zM, not_eq_false' → zN
/-- a token's text -/
def txtV (t : Tok) : List UInt8 :=
 bif decide (t.kind = 1) || (decide (t.kind = 2) || decide (t.kind = 6)) then t.text
 else bif decide (t.kind = 3) then Lib.itoa t.num
 else bif decide (t.kind = 4) then Sx.quoteL t.text
 else bif decide (t.kind = 5) then 96 :: (t.text ++ [96])
 else []
/-- a token as an argument gives it -/
def TokOk (t : Tok) : Prop := -9223372036854775808 ≤ t.num ∧ t.num ≤ 9223372036854775807 ∧ t.text.length ≤ 10000000
theorem txt_len {t : Tok} (h : TokOk t) : (txtV t).length ≤ 50000000 := by
 obtain ⟨h1, h2, h3⟩ := h
 have hq := quoteB_le t.text
 have hi := itoa_len h1 h2
 have hl : (Sx.quoteL t.text).length = (Sx.quoteB t.text).length + 2 := by unfold Sx.quoteL; simp
 unfold txtV
 cases decide (t.kind = 1) || (decide (t.kind = 2) || decide (t.kind = 6)) with
 | true => simp only [cond_true]; omega
 | false =>
  cases decide (t.kind = 3) with
  | true => simp only [cond_true, cond_false]; omega
  | false =>
   cases decide (t.kind = 4) with
   | true => simp only [cond_true, cond_false]; omega
   | false =>
    cases decide (t.kind = 5) with
    | true => simp only [cond_true, cond_false, List.length_cons, List.length_append, List.length_nil]; omega
    | false => simp
theorem kinds6 (k : Int) : k = 1 ∨ k = 2 ∨ k = 3 ∨ k = 4 ∨ k = 5 ∨ k = 6 ∨ (decide (k = 1) = false ∧ decide (k = 2) = false ∧ decide (k = 3) = false ∧ decide (k = 4) = false ∧ decide (k = 5) = false ∧ decide (k = 6) = false) := by
 simp only [decide_eq_false_iff_not]; omega
theorem textOf_c (t : Tok) (ht : TokOk t) : PC Tryd.prog 14 [.st (encTok t)] (S (txtV t)) := by
 obtain ⟨h1, h2, h3⟩ := ht
 obtain ⟨kind, text, num, at_⟩ := t
 simp only at h1 h2 h3
 have hd := decimal_c num.natAbs num (Nat.le_refl _) h1 h2
 have hq := rquote_c text (by omega)
 have hm1 : 1 + text.length ≤ maxLen := by unfold maxLen; omega
 have hm2 : 1 + text.length + 1 ≤ maxLen := by unfold maxLen; omega
 have hm3 : text.length + 1 + 1 ≤ maxLen := by unfold maxLen; omega
 rcases kinds6 kind with rfl | rfl | rfl | rfl | rfl | rfl | ⟨g1, g2, g3, g4, g5, g6⟩
 iterate 6
  ·
   refine PCB.of_body Tryd.func14 rfl (by decide) Tryd.ntmps14 Tryd.results14 rfl rfl rfl ?_ rfl rfl
   repeat' (first | (simp only [go_sem, zA, zB, zC, zD, zE, zF, zG, reduceCtorEq, zH, zI, zJ, zK, zL, encTok, Int.reduceEq, List.length_cons, List.length_nil, List.length_append, List.cons_append, List.nil_append]; all_goals fail_if_success guard_target =ₛ False) | (with_reducible first | ((first | refine seqVC_stepN rfl ?_ | refine AWP.seq ?_ | refine AWP.seqR (by kernel_rfl) ?_); intro K hK) | ((first | refine hK _ _ _ ?_ | refine hK _ _ ?_ | refine hK _ ?_); clear hK K) | refine seqVC_nil ?_ | refine AWP.block ?_ | (refine AWP.cond (by with_unfolding_all rfl) ?_ ?_ <;> intro h <;> (try simp only [zM, zN] at h) <;> try exact absurd h (by decide)) | refine AWP.skip ?_ | refine AWP.ret ?_ | refine AWP.exit ?_ | refine ⟨_, hd, ?_⟩ | refine ⟨_, hq, ?_⟩ | refine ⟨hm1, ?_⟩ | refine ⟨hm2, ?_⟩ | refine ⟨hm3, ?_⟩ | refine Or.inl ?_) | (clear hK K))
   all_goals (simp only [txtV, Int.reduceEq, decide_true, decide_false, Bool.true_or, Bool.or_true, Bool.or_false, cond_true, cond_false])
   all_goals first | exact fun _ h => absurd h List.not_mem_nil | refine fin0 ?_ | trivial
   all_goals first | rfl | trivial
 refine PCB.of_body Tryd.func14 rfl (by decide) Tryd.ntmps14 Tryd.results14 rfl rfl rfl ?_ rfl rfl
 repeat' (first | (simp only [go_sem, zA, zB, zC, zD, zE, zF, zG, reduceCtorEq, zH, zI, zJ, zK, zL, encTok, g1, g2, g3, g4, g5, g6]; all_goals fail_if_success guard_target =ₛ False) | (with_reducible first | ((first | refine seqVC_stepN rfl ?_ | refine AWP.seq ?_ | refine AWP.seqR (by kernel_rfl) ?_); intro K hK) | ((first | refine hK _ _ _ ?_ | refine hK _ _ ?_ | refine hK _ ?_); clear hK K) | refine seqVC_nil ?_ | refine AWP.block ?_ | (refine AWP.cond (by with_unfolding_all rfl) ?_ ?_ <;> intro h <;> (try simp only [zM, zN] at h) <;> try exact absurd h (by decide)) | refine AWP.skip ?_ | refine AWP.ret ?_ | refine AWP.exit ?_ | refine Or.inl ?_) | (clear hK K))
 all_goals (simp only [txtV, g1, g2, g3, g4, g5, g6, Bool.or_false, cond_false])
 all_goals first | exact fun _ h => absurd h List.not_mem_nil | refine fin0 ?_ | trivial
 all_goals first | rfl | trivial
end Go.Proofs.YtogponhonjiidaaDoor

