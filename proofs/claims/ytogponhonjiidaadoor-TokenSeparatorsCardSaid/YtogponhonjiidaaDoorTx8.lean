/- A part of the proof: lemmas about the walk of the program and about plain integers and lists. No conditions beyond those that each lemma states. -/
import Derived.Test.YtogponhonjiidaaDoorTx7
import Derived.Test.YtogponhonjiidaaDoorTx6
import Derived.Lib.ParseIntB
import Derived.Shelf.Strings.Prefix
import Derived.Shelf.Strings.Cut
import Derived.Shelf.Strconv.ParseIntPublic10
import Derived.Shelf.Strconv.Itoa4
import Derived.Shelf.Small.Strs
import Derived.Test.YtogponhonjiidaaDoorProg
import Derived.Shelf.Vars
import Derived.Test.YtogponhonjiidaaDoorRows
import Derived.Test.YtogponhonjiidaaDoorTx4
import Derived.Test.YtogponhonjiidaaDoorTx5
set_option linter.unusedSimpArgs false
set_option linter.unusedVariables false
set_option maxRecDepth 20000
set_option maxHeartbeats 16000000
namespace Go.Proofs.YtogponhonjiidaaDoor
open Go Go.Sx
open Nat renaming reduceBEq → zA, reduceBNe → zB, reduceAdd → zC, reduceSub → zD, reduceMul → zE, reduceLeDiff → zF, reduceLT → zG, reduceEqDiff → zH
open Int renaming reduceToNat → zI, reduceLE → zJ, reduceLT → zK, reduceEq → zL
open Bool renaming not_eq_true' → zM, not_eq_false' → zN
theorem sepI_yes {n : Int} (h : sepI n = true) : n = 9 ∨ n = 10 ∨ n = 13 ∨ n = 32 := by simpa [sepI] using h
theorem sepI_no {n : Int} (h : sepI n = false) : decide (n = 9) = false ∧ decide (n = 10) = false ∧ decide (n = 13) = false ∧ decide (n = 32) = false := by simpa [sepI] using h
theorem byte_at {s : List UInt8} {k : Nat} (h : k < s.length) : ∃ b, s[k]? = some b := ⟨s[k], List.getElem?_eq_getElem h⟩
theorem wk64 {k n : Nat} (h : k < n) (hn : n ≤ 1000000000000) : IntKind.i64.wrap ((k : Int) + 1) = ((k + 1 : Nat) : Int) := by rw [w64 (by omega)]; rfl
/-- skip passes over separators -/
theorem wskip_c (s : List UInt8) (hs : s.length ≤ 1000000000000) (k0 : Nat) (hk0 : k0 ≤ s.length) :
  PCB Tryd.prog 36 [Scp pin] [(pin, scB s k0)] (.tup []) [(pin, scB s (skipTo s k0))] := by
 refine PCB.of_body Tryd.func36 rfl (by decide) Tryd.ntmps36 Tryd.results36 rfl rfl rfl ?_ rfl rfl
 repeat' (first | (simp only [go_sem, zA, zB, zC, zD, zE, zF, zG, reduceCtorEq, zH, zI, zJ, zK, zL, pin]; all_goals fail_if_success guard_target =ₛ False) | (with_reducible first | ((first | refine seqVC_stepN rfl ?_ | refine seqVC_stepG rfl (by with_unfolding_all rfl) ?_ | refine AWP.seq ?_ | refine AWP.seqR (by kernel_rfl) ?_ | refine parVC_stepN rfl ?_ | refine parVC_stepG rfl (by with_unfolding_all rfl) ?_ | refine parEVC_stepN rfl ?_ | refine parEVC_stepG rfl (by with_unfolding_all rfl) ?_ | refine genVC_stepN rfl ?_ | refine genVC_stepG rfl (by with_unfolding_all rfl) ?_); intro K hK) | ((first | refine hK _ _ _ ?_ | refine hK _ _ ?_ | refine hK _ ?_); clear hK K) | refine seqVC_nil ?_ | refine parVC_nil ?_ | refine parEVC_nil ?_ | refine genVC_nil ?_ | refine AWP.block ?_ | (refine AWP.cond (by with_unfolding_all rfl) ?_ ?_ <;> intro h <;> (try simp only [zM, zN] at h) <;> try exact absurd h (by decide)) | refine AWP.skip ?_ | refine AWP.ret ?_ | refine AWP.exit ?_ | (refine ⟨fun h => ?_, fun h => ?_⟩ <;> (try simp only [zM, zN] at h) <;> try simp only [h]) | refine AWP.parR mixed (by kernel_rfl) fun K hK => ?_ | refine ⟨(by kernel_rfl : depB _ _ _ = true), ?_⟩ | refine Or.inl ?_) | (clear hK K))
 refine AWP.loopF (X := Nat) (fun k => [(0, Scp 1000000)]) (fun k => [(1000000, scB s k)]) [] [] (fun k => k ≤ s.length ∧ skipTo s k0 = skipTo s k) (fun k => s.length - k) (k0) (by simp only [go_sem, zA, zB, zC, zD, zE, zF, zG, reduceCtorEq, zH, zI, zJ, zK, zL]; exact Gh.to [] (by repeat (first | exact trivial | refine ⟨rfl, ?_⟩ | refine ⟨by (simp only [go_sem, zA, zB, zC, zD, zE, zF, zG, reduceCtorEq, zH, zI, zJ, zK, zL, List.length_append, List.length_map, List.length_cons, List.length_nil, Nat.zero_add]) <;> rfl, ?_⟩)) (by repeat (first | exact trivial | refine ⟨rfl, ?_⟩ | refine ⟨by (simp only [go_sem, zA, zB, zC, zD, zE, zF, zG, reduceCtorEq, zH, zI, zJ, zK, zL, List.length_append, List.length_map, List.length_cons, List.length_nil, Nat.zero_add]) <;> rfl, ?_⟩)) rfl rfl rfl) ?_ ?_
 ·exact ⟨hk0, rfl⟩
 rintro k ⟨hkl, hok⟩
 simp only [go_sem, zA, zB, zC, zD, zE, zF, zG, reduceCtorEq, zH, zI, zJ, zK, zL]
 by_cases hlt : k < s.length
 ·obtain ⟨b, hb⟩ := byte_at hlt
  have hd : decide ((k : Int) < (s.length : Int)) = true := by rw [decide_eq_true_eq]; omega
  have hwk := wk64 hlt hs
  cases hz : sepI b.toNat
  ·obtain ⟨h9, h10, h13, h32⟩ := sepI_no hz
   cases hc : decide ((b.toNat : Int) = 37)
   ·rw [skipTo_no hb hz hc] at hok
    repeat' (first | (simp only [go_sem, zA, zB, zC, zD, zE, zF, zG, reduceCtorEq, zH, zI, zJ, zK, zL, pin, hd, hwk, h9, h10, h13, h32, hc]; all_goals fail_if_success guard_target =ₛ False) | (with_reducible first | ((first | refine seqVC_stepN rfl ?_ | refine seqVC_stepG rfl (by with_unfolding_all rfl) ?_ | refine AWP.seq ?_ | refine AWP.seqR (by kernel_rfl) ?_ | refine parVC_stepN rfl ?_ | refine parVC_stepG rfl (by with_unfolding_all rfl) ?_ | refine parEVC_stepN rfl ?_ | refine parEVC_stepG rfl (by with_unfolding_all rfl) ?_ | refine genVC_stepN rfl ?_ | refine genVC_stepG rfl (by with_unfolding_all rfl) ?_); intro K hK) | ((first | refine hK _ _ _ ?_ | refine hK _ _ ?_ | refine hK _ ?_); clear hK K) | refine seqVC_nil ?_ | refine parVC_nil ?_ | refine parEVC_nil ?_ | refine genVC_nil ?_ | refine AWP.block ?_ | (refine AWP.cond (by with_unfolding_all rfl) ?_ ?_ <;> intro h <;> (try simp only [zM, zN] at h) <;> try exact absurd h (by decide)) | refine AWP.skip ?_ | refine AWP.ret ?_ | refine AWP.exit ?_ | (refine ⟨fun h => ?_, fun h => ?_⟩ <;> (try simp only [zM, zN] at h) <;> try simp only [h]) | refine ⟨by omega, b, hb, ?_⟩ | refine AWP.parR mixed (by kernel_rfl) fun K hK => ?_ | refine ⟨(by kernel_rfl : depB _ _ _ = true), ?_⟩ | refine Or.inl ?_) | (clear hK K))
    all_goals (simp only [hok])
    all_goals (exact fun x hx => hx)
   ·rw [skipTo_com hb hz hc] at hok
    repeat' (first | (simp only [go_sem, zA, zB, zC, zD, zE, zF, zG, reduceCtorEq, zH, zI, zJ, zK, zL, pin, hd, hwk, h9, h10, h13, h32, hc]; all_goals fail_if_success guard_target =ₛ False) | (with_reducible first | ((first | refine seqVC_stepN rfl ?_ | refine seqVC_stepG rfl (by with_unfolding_all rfl) ?_ | refine AWP.seq ?_ | refine AWP.seqR (by kernel_rfl) ?_ | refine parVC_stepN rfl ?_ | refine parVC_stepG rfl (by with_unfolding_all rfl) ?_ | refine parEVC_stepN rfl ?_ | refine parEVC_stepG rfl (by with_unfolding_all rfl) ?_ | refine genVC_stepN rfl ?_ | refine genVC_stepG rfl (by with_unfolding_all rfl) ?_); intro K hK) | ((first | refine hK _ _ _ ?_ | refine hK _ _ ?_ | refine hK _ ?_); clear hK K) | refine seqVC_nil ?_ | refine parVC_nil ?_ | refine parEVC_nil ?_ | refine genVC_nil ?_ | refine AWP.block ?_ | (refine AWP.cond (by with_unfolding_all rfl) ?_ ?_ <;> intro h <;> (try simp only [zM, zN] at h) <;> try exact absurd h (by decide)) | refine AWP.skip ?_ | refine AWP.ret ?_ | refine AWP.exit ?_ | (refine ⟨fun h => ?_, fun h => ?_⟩ <;> (try simp only [zM, zN] at h) <;> try simp only [h]) | refine ⟨by omega, b, hb, ?_⟩ | refine AWP.parR mixed (by kernel_rfl) fun K hK => ?_ | refine ⟨(by kernel_rfl : depB _ _ _ = true), ?_⟩ | refine Or.inl ?_) | (clear hK K))
    refine AWP.loopF (X := Nat) (fun j => [(0, Scp 1000000)]) (fun j => [(1000000, scB s j)]) [] [] (fun j => k ≤ j ∧ j < s.length ∧ toW noLf s (k + 1) = toW noLf s (j + 1)) (fun j => s.length - j) (k) (by simp only [go_sem, zA, zB, zC, zD, zE, zF, zG, reduceCtorEq, zH, zI, zJ, zK, zL]; exact Gh.to [] (by repeat (first | exact trivial | refine ⟨rfl, ?_⟩ | refine ⟨by (simp only [go_sem, zA, zB, zC, zD, zE, zF, zG, reduceCtorEq, zH, zI, zJ, zK, zL, List.length_append, List.length_map, List.length_cons, List.length_nil, Nat.zero_add]) <;> rfl, ?_⟩)) (by repeat (first | exact trivial | refine ⟨rfl, ?_⟩ | refine ⟨by (simp only [go_sem, zA, zB, zC, zD, zE, zF, zG, reduceCtorEq, zH, zI, zJ, zK, zL, List.length_append, List.length_map, List.length_cons, List.length_nil, Nat.zero_add]) <;> rfl, ?_⟩)) rfl rfl rfl) ?_ ?_
    ·exact ⟨Nat.le_refl _, hlt, rfl⟩
    rintro j ⟨hkj, hjl, hoj⟩
    simp only [go_sem, zA, zB, zC, zD, zE, zF, zG, reduceCtorEq, zH, zI, zJ, zK, zL]
    have hwj := wk64 hjl hs
    by_cases hj1 : j + 1 < s.length
    ·obtain ⟨c, hcj⟩ := byte_at hj1
     have hdj : decide (((j + 1 : Nat) : Int) < (s.length : Int)) = true := by rw [decide_eq_true_eq]; omega
     cases h0 : decide ((c.toNat : Int) = 10)
     ·have hn : noLf c.toNat = true := by simp only [noLf, h0, Bool.not_false]
      rw [toW_yes hcj hn] at hoj
      repeat' (first | (simp only [go_sem, zA, zB, zC, zD, zE, zF, zG, reduceCtorEq, zH, zI, zJ, zK, zL, pin, hwj, hdj, h0]; all_goals fail_if_success guard_target =ₛ False) | (with_reducible first | ((first | refine seqVC_stepN rfl ?_ | refine seqVC_stepG rfl (by with_unfolding_all rfl) ?_ | refine AWP.seq ?_ | refine AWP.seqR (by kernel_rfl) ?_ | refine parVC_stepN rfl ?_ | refine parVC_stepG rfl (by with_unfolding_all rfl) ?_ | refine parEVC_stepN rfl ?_ | refine parEVC_stepG rfl (by with_unfolding_all rfl) ?_ | refine genVC_stepN rfl ?_ | refine genVC_stepG rfl (by with_unfolding_all rfl) ?_); intro K hK) | ((first | refine hK _ _ _ ?_ | refine hK _ _ ?_ | refine hK _ ?_); clear hK K) | refine seqVC_nil ?_ | refine parVC_nil ?_ | refine parEVC_nil ?_ | refine genVC_nil ?_ | refine AWP.block ?_ | (refine AWP.cond (by with_unfolding_all rfl) ?_ ?_ <;> intro h <;> (try simp only [zM, zN] at h) <;> try exact absurd h (by decide)) | refine AWP.skip ?_ | refine AWP.ret ?_ | refine AWP.exit ?_ | (refine ⟨fun h => ?_, fun h => ?_⟩ <;> (try simp only [zM, zN] at h) <;> try simp only [h]) | refine ⟨by omega, c, hcj, ?_⟩ | refine AWP.parR mixed (by kernel_rfl) fun K hK => ?_ | refine ⟨(by kernel_rfl : depB _ _ _ = true), ?_⟩ | refine Or.inl ?_) | (clear hK K))
      all_goals (refine ⟨j + 1, by first | omega | (simp only; omega), ⟨by omega, by omega, hoj⟩, Gh.to [] (by repeat (first | exact trivial | refine ⟨rfl, ?_⟩ | refine ⟨by (simp only [go_sem, zA, zB, zC, zD, zE, zF, zG, reduceCtorEq, zH, zI, zJ, zK, zL, List.length_append, List.length_map, List.length_cons, List.length_nil, Nat.zero_add]) <;> rfl, ?_⟩)) (by repeat (first | exact trivial | refine ⟨rfl, ?_⟩ | refine ⟨by (simp only [go_sem, zA, zB, zC, zD, zE, zF, zG, reduceCtorEq, zH, zI, zJ, zK, zL, List.length_append, List.length_map, List.length_cons, List.length_nil, Nat.zero_add]) <;> rfl, ?_⟩)) rfl rfl rfl⟩)
     ·have hn : noLf c.toNat = false := by simp only [noLf, h0, Bool.not_true]
      rw [toW_no hcj hn] at hoj
      repeat' (first | (simp only [go_sem, zA, zB, zC, zD, zE, zF, zG, reduceCtorEq, zH, zI, zJ, zK, zL, pin, hwj, hdj, h0]; all_goals fail_if_success guard_target =ₛ False) | (with_reducible first | ((first | refine seqVC_stepN rfl ?_ | refine seqVC_stepG rfl (by with_unfolding_all rfl) ?_ | refine AWP.seq ?_ | refine AWP.seqR (by kernel_rfl) ?_ | refine parVC_stepN rfl ?_ | refine parVC_stepG rfl (by with_unfolding_all rfl) ?_ | refine parEVC_stepN rfl ?_ | refine parEVC_stepG rfl (by with_unfolding_all rfl) ?_ | refine genVC_stepN rfl ?_ | refine genVC_stepG rfl (by with_unfolding_all rfl) ?_); intro K hK) | ((first | refine hK _ _ _ ?_ | refine hK _ _ ?_ | refine hK _ ?_); clear hK K) | refine seqVC_nil ?_ | refine parVC_nil ?_ | refine parEVC_nil ?_ | refine genVC_nil ?_ | refine AWP.block ?_ | (refine AWP.cond (by with_unfolding_all rfl) ?_ ?_ <;> intro h <;> (try simp only [zM, zN] at h) <;> try exact absurd h (by decide)) | refine AWP.skip ?_ | refine AWP.ret ?_ | refine AWP.exit ?_ | (refine ⟨fun h => ?_, fun h => ?_⟩ <;> (try simp only [zM, zN] at h) <;> try simp only [h]) | refine ⟨by omega, c, hcj, ?_⟩ | refine AWP.parR mixed (by kernel_rfl) fun K hK => ?_ | refine ⟨(by kernel_rfl : depB _ _ _ = true), ?_⟩ | refine Or.inl ?_) | (clear hK K))
      all_goals (refine ⟨j + 1, by first | omega | (simp only; omega), ⟨by omega, by rw [hok, hoj]⟩, Gh.to [] (by repeat (first | exact trivial | refine ⟨rfl, ?_⟩ | refine ⟨by (simp only [go_sem, zA, zB, zC, zD, zE, zF, zG, reduceCtorEq, zH, zI, zJ, zK, zL, List.length_append, List.length_map, List.length_cons, List.length_nil, Nat.zero_add]) <;> rfl, ?_⟩)) (by repeat (first | exact trivial | refine ⟨rfl, ?_⟩ | refine ⟨by (simp only [go_sem, zA, zB, zC, zD, zE, zF, zG, reduceCtorEq, zH, zI, zJ, zK, zL, List.length_append, List.length_map, List.length_cons, List.length_nil, Nat.zero_add]) <;> rfl, ?_⟩)) rfl rfl rfl⟩)
    ·have hdj : decide (((j + 1 : Nat) : Int) < (s.length : Int)) = false := by rw [decide_eq_false_iff_not]; omega
     rw [toW_end (s := s) (k := j + 1) (by omega)] at hoj
     repeat' (first | (simp only [go_sem, zA, zB, zC, zD, zE, zF, zG, reduceCtorEq, zH, zI, zJ, zK, zL, pin, hwj, hdj]; all_goals fail_if_success guard_target =ₛ False) | (with_reducible first | ((first | refine seqVC_stepN rfl ?_ | refine seqVC_stepG rfl (by with_unfolding_all rfl) ?_ | refine AWP.seq ?_ | refine AWP.seqR (by kernel_rfl) ?_ | refine parVC_stepN rfl ?_ | refine parVC_stepG rfl (by with_unfolding_all rfl) ?_ | refine parEVC_stepN rfl ?_ | refine parEVC_stepG rfl (by with_unfolding_all rfl) ?_ | refine genVC_stepN rfl ?_ | refine genVC_stepG rfl (by with_unfolding_all rfl) ?_); intro K hK) | ((first | refine hK _ _ _ ?_ | refine hK _ _ ?_ | refine hK _ ?_); clear hK K) | refine seqVC_nil ?_ | refine parVC_nil ?_ | refine parEVC_nil ?_ | refine genVC_nil ?_ | refine AWP.block ?_ | (refine AWP.cond (by with_unfolding_all rfl) ?_ ?_ <;> intro h <;> (try simp only [zM, zN] at h) <;> try exact absurd h (by decide)) | refine AWP.skip ?_ | refine AWP.ret ?_ | refine AWP.exit ?_ | (refine ⟨fun h => ?_, fun h => ?_⟩ <;> (try simp only [zM, zN] at h) <;> try simp only [h]) | refine AWP.parR mixed (by kernel_rfl) fun K hK => ?_ | refine ⟨(by kernel_rfl : depB _ _ _ = true), ?_⟩ | refine Or.inl ?_) | (clear hK K))
     all_goals (refine ⟨j + 1, by first | omega | (simp only; omega), ⟨by omega, by rw [hok, hoj]⟩, Gh.to [] (by repeat (first | exact trivial | refine ⟨rfl, ?_⟩ | refine ⟨by (simp only [go_sem, zA, zB, zC, zD, zE, zF, zG, reduceCtorEq, zH, zI, zJ, zK, zL, List.length_append, List.length_map, List.length_cons, List.length_nil, Nat.zero_add]) <;> rfl, ?_⟩)) (by repeat (first | exact trivial | refine ⟨rfl, ?_⟩ | refine ⟨by (simp only [go_sem, zA, zB, zC, zD, zE, zF, zG, reduceCtorEq, zH, zI, zJ, zK, zL, List.length_append, List.length_map, List.length_cons, List.length_nil, Nat.zero_add]) <;> rfl, ?_⟩)) rfl rfl rfl⟩)
  ·rw [skipTo_sep hb hz] at hok
   rcases sepI_yes hz with h4 | h4 | h4 | h4
   all_goals
    repeat' (first | (simp only [go_sem, zA, zB, zC, zD, zE, zF, zG, reduceCtorEq, zH, zI, zJ, zK, zL, pin, hd, hwk, h4]; all_goals fail_if_success guard_target =ₛ False) | (with_reducible first | ((first | refine seqVC_stepN rfl ?_ | refine seqVC_stepG rfl (by with_unfolding_all rfl) ?_ | refine AWP.seq ?_ | refine AWP.seqR (by kernel_rfl) ?_ | refine parVC_stepN rfl ?_ | refine parVC_stepG rfl (by with_unfolding_all rfl) ?_ | refine parEVC_stepN rfl ?_ | refine parEVC_stepG rfl (by with_unfolding_all rfl) ?_ | refine genVC_stepN rfl ?_ | refine genVC_stepG rfl (by with_unfolding_all rfl) ?_); intro K hK) | ((first | refine hK _ _ _ ?_ | refine hK _ _ ?_ | refine hK _ ?_); clear hK K) | refine seqVC_nil ?_ | refine parVC_nil ?_ | refine parEVC_nil ?_ | refine genVC_nil ?_ | refine AWP.block ?_ | (refine AWP.cond (by with_unfolding_all rfl) ?_ ?_ <;> intro h <;> (try simp only [zM, zN] at h) <;> try exact absurd h (by decide)) | refine AWP.skip ?_ | refine AWP.ret ?_ | refine AWP.exit ?_ | (refine ⟨fun h => ?_, fun h => ?_⟩ <;> (try simp only [zM, zN] at h) <;> try simp only [h]) | refine ⟨by omega, b, hb, ?_⟩ | refine AWP.parR mixed (by kernel_rfl) fun K hK => ?_ | refine ⟨(by kernel_rfl : depB _ _ _ = true), ?_⟩ | refine Or.inl ?_) | (clear hK K))
    all_goals (refine ⟨k + 1, by first | omega | (simp only; omega), ⟨by omega, hok⟩, Gh.to [] (by repeat (first | exact trivial | refine ⟨rfl, ?_⟩ | refine ⟨by (simp only [go_sem, zA, zB, zC, zD, zE, zF, zG, reduceCtorEq, zH, zI, zJ, zK, zL, List.length_append, List.length_map, List.length_cons, List.length_nil, Nat.zero_add]) <;> rfl, ?_⟩)) (by repeat (first | exact trivial | refine ⟨rfl, ?_⟩ | refine ⟨by (simp only [go_sem, zA, zB, zC, zD, zE, zF, zG, reduceCtorEq, zH, zI, zJ, zK, zL, List.length_append, List.length_map, List.length_cons, List.length_nil, Nat.zero_add]) <;> rfl, ?_⟩)) rfl rfl rfl⟩)
 ·have hd : decide ((k : Int) < (s.length : Int)) = false := by rw [decide_eq_false_iff_not]; omega
  rw [skipTo_end (s := s) (k := k) (by omega)] at hok
  repeat' (first | (simp only [go_sem, zA, zB, zC, zD, zE, zF, zG, reduceCtorEq, zH, zI, zJ, zK, zL, pin, hd]; all_goals fail_if_success guard_target =ₛ False) | (with_reducible first | ((first | refine seqVC_stepN rfl ?_ | refine seqVC_stepG rfl (by with_unfolding_all rfl) ?_ | refine AWP.seq ?_ | refine AWP.seqR (by kernel_rfl) ?_ | refine parVC_stepN rfl ?_ | refine parVC_stepG rfl (by with_unfolding_all rfl) ?_ | refine parEVC_stepN rfl ?_ | refine parEVC_stepG rfl (by with_unfolding_all rfl) ?_ | refine genVC_stepN rfl ?_ | refine genVC_stepG rfl (by with_unfolding_all rfl) ?_); intro K hK) | ((first | refine hK _ _ _ ?_ | refine hK _ _ ?_ | refine hK _ ?_); clear hK K) | refine seqVC_nil ?_ | refine parVC_nil ?_ | refine parEVC_nil ?_ | refine genVC_nil ?_ | refine AWP.block ?_ | (refine AWP.cond (by with_unfolding_all rfl) ?_ ?_ <;> intro h <;> (try simp only [zM, zN] at h) <;> try exact absurd h (by decide)) | refine AWP.skip ?_ | refine AWP.ret ?_ | refine AWP.exit ?_ | (refine ⟨fun h => ?_, fun h => ?_⟩ <;> (try simp only [zM, zN] at h) <;> try simp only [h]) | refine AWP.parR mixed (by kernel_rfl) fun K hK => ?_ | refine ⟨(by kernel_rfl : depB _ _ _ = true), ?_⟩ | refine Or.inl ?_) | (clear hK K))
  all_goals (simp only [hok])
  all_goals (exact fun x hx => hx)
end Go.Proofs.YtogponhonjiidaaDoor
set_option linter.unusedSimpArgs false
set_option linter.unusedVariables false
set_option maxRecDepth 20000
set_option maxHeartbeats 400000
namespace Go.Proofs.YtogponhonjiidaaDoor
open Go Go.Sx
open Nat renaming reduceBEq → zA, reduceBNe → zB, reduceAdd → zC, reduceSub → zD, reduceMul → zE, reduceLeDiff → zF, reduceLT → zG, reduceEqDiff → zH
open Int renaming reduceToNat → zI, reduceLE → zJ, reduceLT → zK, reduceEq → zL
open Bool renaming not_eq_true' → zM, not_eq_false' → zN
/-- the number that digits spell, after acc -/
@[irreducible] def dval (b : UInt8) : Nat := b.toNat - 48
theorem dval_eq (b : UInt8) : dval b = b.toNat - 48 := by unfold dval; exact Eq.refl _
def decA (acc : Nat) : List UInt8 → Nat
 | [] => acc
 | b :: l => decA (acc * 10 + dval b) l
theorem decA_ge (l : List UInt8) : ∀ acc, acc ≤ decA acc l := by
 induction l with
 | nil => exact fun _ => Nat.le_refl _
 | cons b l ih => exact fun acc => Nat.le_trans (by omega) (ih _)
/-- all are digits -/
def allDig (l : List UInt8) : Prop := ∀ b ∈ l, digI b.toNat = true
theorem dig_bd {b : UInt8} (h : digI b.toNat = true) : 48 ≤ b.toNat ∧ b.toNat ≤ 57 := by
 simp only [digI, Bool.and_eq_true, decide_eq_true_eq] at h; omega
theorem pu_big {M acc : Nat} {c : UInt8} {r : List UInt8} (h : 48 ≤ c.toNat ∧ c.toNat ≤ 57) (h3 : 1844674407370955162 ≤ acc) : Lib.parseUintM M acc (c :: r) = .range := by
 simp only [Lib.parseUintM, h, and_self, if_true, h3]
theorem pu_over {M acc : Nat} {c : UInt8} {r : List UInt8} (h : 48 ≤ c.toNat ∧ c.toNat ≤ 57) (h3 : ¬ 1844674407370955162 ≤ acc) (h4 : M < acc * 10 + (c.toNat - 48)) : Lib.parseUintM M acc (c :: r) = .range := by
 simp only [Lib.parseUintM, h, and_self, if_true, h3, if_false, h4]
theorem pu_step {M acc : Nat} {c : UInt8} {r : List UInt8} (h : 48 ≤ c.toNat ∧ c.toNat ≤ 57) (h3 : ¬ 1844674407370955162 ≤ acc) (h4 : ¬ M < acc * 10 + (c.toNat - 48)) : Lib.parseUintM M acc (c :: r) = Lib.parseUintM M (acc * 10 + (c.toNat - 48)) r := by
 simp only [Lib.parseUintM, h, and_self, if_true, h3, if_false, h4]
theorem decA_cons (acc : Nat) (b : UInt8) (l : List UInt8) : decA acc (b :: l) = decA (acc * 10 + (b.toNat - 48)) l := by rw [decA, dval_eq]
theorem pu_aux {M acc x D : Nat} (hM : M < 18446744073709551620) (h3 : 1844674407370955162 ≤ acc) (h : acc * 10 ≤ x) (hg : x ≤ D) : M < D := by omega
theorem parseUint_ok {M : Nat} (hM : M < 18446744073709551620) : ∀ (l : List UInt8) (acc : Nat), allDig l → acc ≤ M → decA acc l ≤ M → Lib.parseUintM M acc l = .ok (decA acc l)
 | [], acc, _, _, _ => rfl
 | b :: l, acc, hd, hacc, h => by
  have hb := dig_bd (hd b List.mem_cons_self)
  have hge := decA_ge l (acc * 10 + (b.toNat - 48))
  have hle : acc * 10 ≤ acc * 10 + (b.toNat - 48) := Nat.le_add_right _ _
  rw [decA_cons] at h ⊢
  have h3 : ¬ 1844674407370955162 ≤ acc := fun h3 => absurd h (Nat.not_le.2 (pu_aux hM h3 hle hge))
  have h4 : ¬ M < acc * 10 + (b.toNat - 48) := Nat.not_lt.2 (Nat.le_trans hge h)
  rw [pu_step hb h3 h4]
  exact parseUint_ok hM l _ (fun x hx => hd x (List.mem_cons_of_mem _ hx)) (Nat.le_trans hge h) h
theorem parseUint_bad {M : Nat} (hM : M < 18446744073709551620) : ∀ (l : List UInt8) (acc : Nat), allDig l → acc ≤ M → M < decA acc l → Lib.parseUintM M acc l = .range
 | [], acc, _, h, h2 => absurd h (Nat.not_le.2 h2)
 | b :: l, acc, hd, hacc, h => by
  have hb := dig_bd (hd b List.mem_cons_self)
  rw [decA_cons] at h
  by_cases h3 : 1844674407370955162 ≤ acc
  ·exact pu_big hb h3
  ·by_cases h4 : M < acc * 10 + (b.toNat - 48)
   ·exact pu_over hb h3 h4
   ·rw [pu_step hb h3 h4]
    exact parseUint_bad hM l _ (fun x hx => hd x (List.mem_cons_of_mem _ hx)) (Nat.not_lt.1 h4) h
/-- a number: what it is, and the code of the answer (5: a zero too many, 2: too great) -/
def numM (neg : Bool) (d : List UInt8) : Int × Int :=
 bif decide (d.head? = some 48) && (decide (1 < d.length) || neg) then (0, 5)
 else bif neg then (bif decide (decA 0 d ≤ 9223372036854775808) then (-(decA 0 d : Int), 0) else (0, 2))
 else (bif decide (decA 0 d < 9223372036854775808) then ((decA 0 d : Int), 0) else (0, 2))
theorem parseUintB_num {d : List UInt8} (hd : allDig d) (hne : d ≠ []) : (decA 0 d ≤ 18446744073709551615 → Lib.parseUintB 64 d = .ok (decA 0 d)) ∧ (18446744073709551615 < decA 0 d → Lib.parseUintB 64 d = .range) := by
 have e : Lib.parseUintB 64 d = Lib.parseUintM 18446744073709551615 0 d := if_neg hne
 rw [e]
 exact ⟨fun h1 => parseUint_ok (by decide) d 0 hd (Nat.zero_le _) h1, fun h1 => parseUint_bad (by decide) d 0 hd (Nat.zero_le _) h1⟩
/-- ParseInt at digits, at a minus and digits -/
theorem parseInt_pos {d : List UInt8} (hd : allDig d) (hne : d ≠ []) : (decA 0 d < 9223372036854775808 → Lib.parseIntB 64 d = .ok (decA 0 d : Int)) ∧ (9223372036854775808 ≤ decA 0 d → Lib.parseIntB 64 d = .range) := by
 obtain ⟨h1, h2⟩ := parseUintB_num hd hne
 cases d with
 | nil => exact absurd rfl hne
 | cons c r =>
  obtain ⟨h3, h4⟩ := dig_bd (hd c List.mem_cons_self)
  have hc1 : ¬ (c.toNat = 43 ∨ c.toNat = 45) := by omega
  have hc2 : ¬ c.toNat = 45 := by omega
  generalize decA 0 (c :: r) = u at h1 h2 ⊢
  unfold Lib.parseIntB
  simp only []
  rw [if_neg hc1]
  constructor
  ·intro h
   rw [h1 (by omega)]
   simp only []
   rw [if_neg (fun k => absurd k.2 (Nat.not_le.2 h)), if_neg (fun k => hc2 k.1), if_neg hc2]
  ·intro h
   by_cases h6 : u ≤ 18446744073709551615
   ·rw [h1 h6]
    simp only []
    rw [if_pos ⟨hc2, h⟩]
   ·rw [h2 (by omega)]
theorem parseInt_neg {d : List UInt8} (hd : allDig d) (hne : d ≠ []) : (decA 0 d ≤ 9223372036854775808 → Lib.parseIntB 64 (45 :: d) = .ok (-(decA 0 d : Int))) ∧ (9223372036854775808 < decA 0 d → Lib.parseIntB 64 (45 :: d) = .range) := by
 obtain ⟨h1, h2⟩ := parseUintB_num hd hne
 have hc1 : (45 : UInt8).toNat = 43 ∨ (45 : UInt8).toNat = 45 := .inr rfl
 have hc2 : (45 : UInt8).toNat = 45 := rfl
 generalize decA 0 d = u at h1 h2 ⊢
 unfold Lib.parseIntB
 simp only []
 rw [if_pos hc1]
 constructor
 ·intro h
  rw [h1 (by omega)]
  simp only []
  rw [if_neg (fun k => k.1 hc2), if_neg (fun k => absurd k.2 (Nat.not_lt.2 h)), if_pos hc2]
 ·intro h
  by_cases h6 : u ≤ 18446744073709551615
  ·rw [h1 h6]
   simp only []
   rw [if_neg (fun k => k.1 hc2), if_pos ⟨hc2, h⟩]
  ·rw [h2 (by omega)]
end Go.Proofs.YtogponhonjiidaaDoor
set_option maxRecDepth 100000
namespace Go.Proofs
open Go.Shelf
def Tryd.hasPrefixL_ren : Go.Shelf.Ren := ⟨fun | 99 => 86 | 206 => 102 | n => n, fun | 9 => 9 | 4 => 4 | 3 => 3 | n => n, fun | n => n⟩
theorem Tryd.hasPrefixL : Go.Proofs.Lays.n99 Tryd.prog Tryd.hasPrefixL_ren := {
 mixed := by kernel_rfl,
 f99 := Tryd.func86.trans (congrArg some (by kernel_rfl)),
 f206 := Tryd.func102.trans (congrArg some (by kernel_rfl)),
 t3 := Tryd.underlying3,
 a3 := Tryd.isAgg3,
 z3 := Tryd.sizeOf3,
 v3 := Tryd.zeroValue3,
 t4 := Tryd.underlying4,
 a4 := Tryd.isAgg4,
 z4 := Tryd.sizeOf4,
 v4 := Tryd.zeroValue4,
 t9 := Tryd.underlying9,
 a9 := Tryd.isAgg9,
 z9 := Tryd.sizeOf9,
 v9 := Tryd.zeroValue9 }
def Tryd.trimPrefixL_ren : Go.Shelf.Ren := ⟨fun | 101 => 82 | 208 => 97 | 206 => 102 | n => n, fun | 9 => 9 | 4 => 4 | 3 => 3 | n => n, fun | n => n⟩
theorem Tryd.trimPrefixL : Go.Proofs.Lays.n101 Tryd.prog Tryd.trimPrefixL_ren := {
 mixed := by kernel_rfl,
 f101 := Tryd.func82.trans (congrArg some (by kernel_rfl)),
 f206 := Tryd.func102.trans (congrArg some (by kernel_rfl)),
 f208 := Tryd.func97.trans (congrArg some (by kernel_rfl)),
 t3 := Tryd.underlying3,
 a3 := Tryd.isAgg3,
 z3 := Tryd.sizeOf3,
 v3 := Tryd.zeroValue3,
 t4 := Tryd.underlying4,
 a4 := Tryd.isAgg4,
 z4 := Tryd.sizeOf4,
 v4 := Tryd.zeroValue4,
 t9 := Tryd.underlying9,
 a9 := Tryd.isAgg9,
 z9 := Tryd.sizeOf9,
 v9 := Tryd.zeroValue9 }
def Tryd.parseIntL_ren : Go.Shelf.Ren := ⟨fun | 174 => 83 | 247 => 98 | 245 => 99 | 287 => 111 | 279 => 112 | 280 => 113 | 281 => 114 | 282 => 115 | 321 => 121 | 322 => 122 | 316 => 123 | 171 => 125 | 205 => 124 | 243 => 130 | 246 => 68 | 283 => 87 | 284 => 88 | 285 => 89 | 286 => 90 | 129 => 104 | 317 => 103 | 318 => 105 | 319 => 106 | 320 => 107 | 337 => 118 | 338 => 119 | n => n, fun | 9 => 9 | 3 => 3 | 2 => 2 | 75 => 82 | 85 => 112 | 4 => 4 | 167 => 141 | 5 => 5 | 53 => 107 | 175 => 142 | 46 => 36 | 168 => 144 | 37 => 40 | 0 => 0 | 210 => 151 | 21 => 21 | 127 => 106 | 145 => 157 | 143 => 155 | 171 => 119 | 173 => 122 | 212 => 134 | 51 => 135 | 20 => 20 | 213 => 136 | 232 => 153 | 233 => 154 | 80 => 85 | n => n, fun | 15 => 4 | 16 => 5 | 17 => 1 | 18 => 6 | 19 => 7 | n => n⟩
theorem Tryd.parseIntL : Go.Proofs.LaysC.n174 Tryd.prog Tryd.parseIntL_ren := {
 mixed := by kernel_rfl,
 f129 := Tryd.func104.trans (congrArg some (by kernel_rfl)),
 f171 := Tryd.func125.trans (congrArg some (by kernel_rfl)),
 f174 := Tryd.func83.trans (congrArg some (by kernel_rfl)),
 f205 := Tryd.func124.trans (congrArg some (by kernel_rfl)),
 f243 := Tryd.func130.trans (congrArg some (by kernel_rfl)),
 f245 := Tryd.func99.trans (congrArg some (by kernel_rfl)),
 f246 := Tryd.func68.trans (congrArg some (by kernel_rfl)),
 f247 := Tryd.func98.trans (congrArg some (by kernel_rfl)),
 f279 := Tryd.func112.trans (congrArg some (by kernel_rfl)),
 f280 := Tryd.func113.trans (congrArg some (by kernel_rfl)),
 f281 := Tryd.func114.trans (congrArg some (by kernel_rfl)),
 f282 := Tryd.func115.trans (congrArg some (by kernel_rfl)),
 f283 := Tryd.func87.trans (congrArg some (by kernel_rfl)),
 f284 := Tryd.func88.trans (congrArg some (by kernel_rfl)),
 f285 := Tryd.func89.trans (congrArg some (by kernel_rfl)),
 f286 := Tryd.func90.trans (congrArg some (by kernel_rfl)),
 f287 := Tryd.func111.trans (congrArg some (by kernel_rfl)),
 f316 := Tryd.func123.trans (congrArg some (by kernel_rfl)),
 f317 := Tryd.func103.trans (congrArg some (by kernel_rfl)),
 f318 := Tryd.func105.trans (congrArg some (by kernel_rfl)),
 f319 := Tryd.func106.trans (congrArg some (by kernel_rfl)),
 f320 := Tryd.func107.trans (congrArg some (by kernel_rfl)),
 f321 := Tryd.func121.trans (congrArg some (by kernel_rfl)),
 f322 := Tryd.func122.trans (congrArg some (by kernel_rfl)),
 f337 := Tryd.func118.trans (congrArg some (by kernel_rfl)),
 f338 := Tryd.func119.trans (congrArg some (by kernel_rfl)),
 t0 := Tryd.underlying0,
 a0 := Tryd.isAgg0,
 z0 := Tryd.sizeOf0,
 v0 := Tryd.zeroValue0,
 t2 := Tryd.underlying2,
 a2 := Tryd.isAgg2,
 z2 := Tryd.sizeOf2,
 v2 := Tryd.zeroValue2,
 t3 := Tryd.underlying3,
 a3 := Tryd.isAgg3,
 z3 := Tryd.sizeOf3,
 v3 := Tryd.zeroValue3,
 t4 := Tryd.underlying4,
 a4 := Tryd.isAgg4,
 z4 := Tryd.sizeOf4,
 v4 := Tryd.zeroValue4,
 t5 := Tryd.underlying5,
 a5 := Tryd.isAgg5,
 z5 := Tryd.sizeOf5,
 v5 := Tryd.zeroValue5,
 t9 := Tryd.underlying9,
 a9 := Tryd.isAgg9,
 z9 := Tryd.sizeOf9,
 v9 := Tryd.zeroValue9,
 t20 := Tryd.underlying20,
 a20 := Tryd.isAgg20,
 z20 := Tryd.sizeOf20,
 v20 := Tryd.zeroValue20,
 t21 := Tryd.underlying21,
 a21 := Tryd.isAgg21,
 z21 := Tryd.sizeOf21,
 v21 := Tryd.zeroValue21,
 t37 := Tryd.underlying40,
 a37 := Tryd.isAgg40,
 z37 := Tryd.sizeOf40,
 v37 := Tryd.zeroValue40,
 t46 := Tryd.underlying36,
 a46 := Tryd.isAgg36,
 z46 := Tryd.sizeOf36,
 v46 := Tryd.zeroValue36,
 t51 := Tryd.underlying135,
 a51 := Tryd.isAgg135,
 z51 := Tryd.sizeOf135,
 v51 := Tryd.zeroValue135,
 t53 := Tryd.underlying107,
 a53 := Tryd.isAgg107,
 z53 := Tryd.sizeOf107,
 v53 := Tryd.zeroValue107,
 t75 := Tryd.underlying82,
 a75 := Tryd.isAgg82,
 z75 := Tryd.sizeOf82,
 v75 := Tryd.zeroValue82,
 t85 := Tryd.underlying112,
 a85 := Tryd.isAgg112,
 z85 := Tryd.sizeOf112,
 v85 := Tryd.zeroValue112,
 t127 := Tryd.underlying106,
 a127 := Tryd.isAgg106,
 z127 := Tryd.sizeOf106,
 v127 := Tryd.zeroValue106,
 t143 := Tryd.underlying155,
 a143 := Tryd.isAgg155,
 z143 := Tryd.sizeOf155,
 v143 := Tryd.zeroValue155,
 t145 := Tryd.underlying157,
 a145 := Tryd.isAgg157,
 z145 := Tryd.sizeOf157,
 v145 := Tryd.zeroValue157,
 t167 := Tryd.underlying141,
 a167 := Tryd.isAgg141,
 z167 := Tryd.sizeOf141,
 v167 := Tryd.zeroValue141,
 t168 := Tryd.underlying144,
 a168 := Tryd.isAgg144,
 z168 := Tryd.sizeOf144,
 v168 := Tryd.zeroValue144,
 t171 := Tryd.underlying119,
 a171 := Tryd.isAgg119,
 z171 := Tryd.sizeOf119,
 v171 := Tryd.zeroValue119,
 t173 := Tryd.underlying122,
 a173 := Tryd.isAgg122,
 z173 := Tryd.sizeOf122,
 v173 := Tryd.zeroValue122,
 t175 := Tryd.underlying142,
 a175 := Tryd.isAgg142,
 z175 := Tryd.sizeOf142,
 v175 := Tryd.zeroValue142,
 t210 := Tryd.underlying151,
 a210 := Tryd.isAgg151,
 z210 := Tryd.sizeOf151,
 v210 := Tryd.zeroValue151,
 t212 := Tryd.underlying134,
 a212 := Tryd.isAgg134,
 z212 := Tryd.sizeOf134,
 v212 := Tryd.zeroValue134,
 t213 := Tryd.underlying136,
 a213 := Tryd.isAgg136,
 z213 := Tryd.sizeOf136,
 t232 := Tryd.underlying153,
 a232 := Tryd.isAgg153,
 z232 := Tryd.sizeOf153,
 v232 := Tryd.zeroValue153,
 t233 := Tryd.underlying154,
 a233 := Tryd.isAgg154,
 z233 := Tryd.sizeOf154,
 v233 := Tryd.zeroValue154,
 g15 := by kernel_rfl,
 g16 := by kernel_rfl,
 g17 := by kernel_rfl,
 g18 := by kernel_rfl,
 g19 := by kernel_rfl,
 t80 := Tryd.underlying85,
 a80 := Tryd.isAgg85,
 z80 := Tryd.sizeOf85,
 v80 := Tryd.zeroValue85,
 i0 := by kernel_rfl,
 i2 := by kernel_rfl,
 i3 := by kernel_rfl,
 i4 := by kernel_rfl,
 i5 := by kernel_rfl,
 i9 := by kernel_rfl,
 i20 := by kernel_rfl,
 i21 := by kernel_rfl,
 i37 := by kernel_rfl,
 i46 := by kernel_rfl,
 i51 := by kernel_rfl,
 i53 := by kernel_rfl,
 i75 := by kernel_rfl,
 i80 := by kernel_rfl,
 i85 := by kernel_rfl,
 i127 := by kernel_rfl,
 i143 := by kernel_rfl,
 i145 := by kernel_rfl,
 i167 := by kernel_rfl,
 i168 := by kernel_rfl,
 i171 := by kernel_rfl,
 i173 := by kernel_rfl,
 i175 := by kernel_rfl,
 i210 := by kernel_rfl,
 i212 := by kernel_rfl,
 i232 := by kernel_rfl,
 i233 := by kernel_rfl,
 m15 := by kernel_rfl,
 m16 := by kernel_rfl,
 m17 := by kernel_rfl,
 m18 := by kernel_rfl,
 m19 := by kernel_rfl,
 c0 := by kernel_rfl,
 c2 := by kernel_rfl,
 c3 := by kernel_rfl,
 c4 := by kernel_rfl,
 c5 := by kernel_rfl,
 c9 := by kernel_rfl,
 c20 := by kernel_rfl,
 c21 := by kernel_rfl,
 c37 := by kernel_rfl,
 c46 := by kernel_rfl,
 c51 := by kernel_rfl,
 c53 := by kernel_rfl,
 c75 := by kernel_rfl,
 c80 := by kernel_rfl,
 c85 := by kernel_rfl,
 c127 := by kernel_rfl,
 c143 := by kernel_rfl,
 c145 := by kernel_rfl,
 c167 := by kernel_rfl,
 c168 := by kernel_rfl,
 c171 := by kernel_rfl,
 c173 := by kernel_rfl,
 c175 := by kernel_rfl,
 c210 := by kernel_rfl,
 c212 := by kernel_rfl,
 c213 := by kernel_rfl,
 c232 := by kernel_rfl,
 c233 := by kernel_rfl }
def Tryd.cutL_ren : Go.Shelf.Ren := ⟨fun | 145 => 85 | 220 => 101 | 219 => 117 | 217 => 116 | 225 => 127 | 224 => 128 | 267 => 129 | 266 => 126 | 314 => 131 | n => n, fun | 9 => 9 | 4 => 4 | 59 => 116 | 3 => 3 | 5 => 5 | 46 => 36 | 146 => 158 | 51 => 135 | n => n, fun | 1 => 3 | n => n⟩
theorem Tryd.cutL : Go.Proofs.Lays.n145 Tryd.prog Tryd.cutL_ren := {
 mixed := by kernel_rfl,
 f145 := Tryd.func85.trans (congrArg some (by kernel_rfl)),
 f217 := Tryd.func116.trans (congrArg some (by kernel_rfl)),
 f219 := Tryd.func117.trans (congrArg some (by kernel_rfl)),
 f220 := Tryd.func101.trans (congrArg some (by kernel_rfl)),
 f224 := Tryd.func128.trans (congrArg some (by kernel_rfl)),
 f225 := Tryd.func127.trans (congrArg some (by kernel_rfl)),
 f266 := Tryd.func126.trans (congrArg some (by kernel_rfl)),
 f267 := Tryd.func129.trans (congrArg some (by kernel_rfl)),
 f314 := Tryd.func131.trans (congrArg some (by kernel_rfl)),
 t3 := Tryd.underlying3,
 a3 := Tryd.isAgg3,
 z3 := Tryd.sizeOf3,
 v3 := Tryd.zeroValue3,
 t4 := Tryd.underlying4,
 a4 := Tryd.isAgg4,
 z4 := Tryd.sizeOf4,
 v4 := Tryd.zeroValue4,
 t5 := Tryd.underlying5,
 a5 := Tryd.isAgg5,
 z5 := Tryd.sizeOf5,
 v5 := Tryd.zeroValue5,
 t9 := Tryd.underlying9,
 a9 := Tryd.isAgg9,
 z9 := Tryd.sizeOf9,
 v9 := Tryd.zeroValue9,
 t46 := Tryd.underlying36,
 a46 := Tryd.isAgg36,
 z46 := Tryd.sizeOf36,
 v46 := Tryd.zeroValue36,
 t51 := Tryd.underlying135,
 a51 := Tryd.isAgg135,
 z51 := Tryd.sizeOf135,
 v51 := Tryd.zeroValue135,
 t59 := Tryd.underlying116,
 a59 := Tryd.isAgg116,
 z59 := Tryd.sizeOf116,
 v59 := Tryd.zeroValue116,
 t146 := Tryd.underlying158,
 a146 := Tryd.isAgg158,
 z146 := Tryd.sizeOf158,
 v146 := Tryd.zeroValue158,
 g1 := by kernel_rfl }
def Tryd.indexByteL_ren : Go.Shelf.Ren := ⟨fun | 137 => 100 | 217 => 116 | 266 => 126 | n => n, fun | 9 => 9 | 5 => 5 | 3 => 3 | n => n, fun | n => n⟩
theorem Tryd.indexByteL : Go.Proofs.Lays.n137 Tryd.prog Tryd.indexByteL_ren := {
 mixed := by kernel_rfl,
 f137 := Tryd.func100.trans (congrArg some (by kernel_rfl)),
 f217 := Tryd.func116.trans (congrArg some (by kernel_rfl)),
 f266 := Tryd.func126.trans (congrArg some (by kernel_rfl)),
 t3 := Tryd.underlying3,
 a3 := Tryd.isAgg3,
 z3 := Tryd.sizeOf3,
 v3 := Tryd.zeroValue3,
 t5 := Tryd.underlying5,
 a5 := Tryd.isAgg5,
 z5 := Tryd.sizeOf5,
 v5 := Tryd.zeroValue5,
 t9 := Tryd.underlying9,
 a9 := Tryd.isAgg9,
 z9 := Tryd.sizeOf9,
 v9 := Tryd.zeroValue9 }
end Go.Proofs
set_option linter.unusedSimpArgs false
set_option linter.unusedVariables false
set_option maxRecDepth 20000
set_option maxHeartbeats 4000000
namespace Go.Proofs.YtogponhonjiidaaDoor
open Go Go.Sx Go.RowKit
abbrev Er (b : Bool) : T := .one (.dat (.err b))
theorem hasPrefix_c (s p : List UInt8) : PC Tryd.prog 86 [S s, S p] (Bo (Lib.hasPrefix s p)) := by
 refine PC.native ⟨_, Tryd.func86, by decide, rfl⟩ fun M ν w vs hf hv => ?_
 obtain ⟨x, y, rfl, h1, h2⟩ := reps2 hv
 rw [rep_S] at h1 h2
 subst h1 h2
 refine Calls.mono (Any.strings_HasPrefix Tryd.hasPrefixL ⟨s.toArray⟩ ⟨p.toArray⟩ w) ?_
 rintro e w' ⟨rfl, rfl⟩
 exact ⟨_, rfl, by simp only [T.rep, Cell.rep, C.rep], Below.refl _ _⟩
theorem trimPrefix_c (s p : List UInt8) : PC Tryd.prog 82 [S s, S p] (S (Lib.trimPrefix s p)) := by
 refine PC.native ⟨_, Tryd.func82, by decide, rfl⟩ fun M ν w vs hf hv => ?_
 obtain ⟨x, y, rfl, h1, h2⟩ := reps2 hv
 rw [rep_S] at h1 h2
 subst h1 h2
 refine Calls.mono (Any.strings_TrimPrefix Tryd.trimPrefixL ⟨s.toArray⟩ ⟨p.toArray⟩ w) ?_
 rintro e w' ⟨rfl, rfl⟩
 exact ⟨_, rfl, by simp only [T.rep, Cell.rep, C.rep], Below.refl _ _⟩
theorem cut_c (s p : List UInt8) (hs : s.length ≤ 1000000000) : PC Tryd.prog 85 [S s, S p] (.tup [S (Lib.cut s p).1, S (Lib.cut s p).2.1, Bo (Lib.cut s p).2.2]) := by
 refine PC.native ⟨_, Tryd.func85, by decide, rfl⟩ fun M ν w vs hf hv => ?_
 obtain ⟨x, y, rfl, h1, h2⟩ := reps2 hv
 rw [rep_S] at h1 h2
 subst h1 h2
 obtain ⟨m, hm⟩ := M.glo.2.1
 refine Calls.mono (Any.strings_Cut Tryd.cutL ⟨s.toArray⟩ ⟨p.toArray⟩ m w (by show s.toArray.size < _; simp; omega) (cell_of_At hf hm)) ?_
 rintro e w' ⟨rfl, n, rfl⟩
 refine ⟨_, rfl, ?_, ⟨rfl, rfl, rfl, Nat.le_refl _, fun _ _ => rfl⟩⟩
 simp only [T.rep, T.reps, Cell.rep, C.rep]
 exact ⟨_, rfl, _, _, rfl, rfl, _, _, rfl, rfl, _, _, rfl, rfl, rfl⟩
/-- what ParseInt gives -/
def piT (s : List UInt8) : T := match Lib.parseIntB 64 s with
 | .ok v => .tup [I .i64 v, Er false]
 | .range => .tup [I .i64 (Lib.intSat 64 s), Er true]
 | _ => .tup [I .i64 0, Er true]
theorem err_at {M : Mem} {w : World} (hf : ∀ b o, M b = some o → w.heap[b]? = some o) {g : Nat} (hg : gl.lookup g = some [.err true]) : ∃ te pe, w.cell? ⟨g, 0, none⟩ = some (.iface te pe) := by
 obtain ⟨vs, h1, h2⟩ := M.glo.1 g _ hg
 simp only [repRow, C.rep, cond_true] at h2
 obtain ⟨v, vs', rfl, ⟨te, pe, rfl⟩, rfl⟩ := h2
 exact ⟨te, pe, cell_of_At hf h1⟩
theorem parseInt_c (s : List UInt8) (hs : s.length ≤ 1000000000) : PC Tryd.prog 83 [S s, I .i64 10, I .i64 64] (piT s) := by
 refine PC.native ⟨_, Tryd.func83, by decide, rfl⟩ fun M ν w vs hf hv => ?_
 obtain ⟨x, y, z, rfl, h1, h2, h3⟩ := reps3 hv
 rw [rep_S] at h1
 simp only [T.rep, Cell.rep, C.rep] at h2 h3
 subst h1 h2 h3
 obtain ⟨t4, p4, e4⟩ := err_at (g := 4) hf rfl
 obtain ⟨t5, p5, e5⟩ := err_at (g := 5) hf rfl
 have hsz : ∀ n : Nat, 1000000000 ≤ n → (ByteArray.mk s.toArray).size ≤ n := fun n hn => by show s.toArray.size ≤ _; simp; omega
 unfold piT
 cases hp : Lib.parseIntB 64 s with
 | ok v =>
  refine Calls.mono (Any.strconv_ParseInt_10_at64_ok Tryd.parseIntL ⟨s.toArray⟩ (hsz _ (by decide)) v hp w) ?_
  rintro e w' ⟨rfl, hw⟩
  refine ⟨_, rfl, ?_, ?_⟩
  ·simp only [T.rep, T.reps, Cell.rep, C.rep, cond_false]
   exact ⟨_, rfl, _, _, rfl, rfl, _, _, rfl, rfl, rfl⟩
  ·rcases hw with rfl | ⟨t, rfl⟩
   ·exact Below.refl _ _
   ·exact Lib.bytesWorld_below _ _ _
 | range =>
  refine Calls.mono (Any.strconv_ParseInt_10_at64_range Tryd.parseIntL ⟨s.toArray⟩ (hsz _ (by decide)) hp _ w e5 (.inr ⟨_, _, rfl⟩)) ?_
  rintro e w' ⟨N, rfl, _, _, hb⟩
  refine ⟨_, rfl, ?_, hb⟩
  simp only [T.rep, T.reps, Cell.rep, C.rep, cond_true]
  exact ⟨_, rfl, _, _, rfl, rfl, _, _, rfl, ⟨_, _, rfl⟩, rfl⟩
 | _ =>
  refine Calls.mono (Any.strconv_ParseInt_10_at64_syntax Tryd.parseIntL ⟨s.toArray⟩ (hsz _ (by decide)) hp _ w e4 (.inr ⟨_, _, rfl⟩)) ?_
  rintro e w' ⟨N, rfl, _, _, hb⟩
  refine ⟨_, rfl, ?_, hb⟩
  simp only [T.rep, T.reps, Cell.rep, C.rep, cond_true]
  exact ⟨_, rfl, _, _, rfl, rfl, _, _, rfl, ⟨_, _, rfl⟩, rfl⟩
end Go.Proofs.YtogponhonjiidaaDoor
set_option linter.unusedSimpArgs false
set_option linter.unusedVariables false
set_option maxRecDepth 20000
set_option maxHeartbeats 16000000
namespace Go.Proofs.YtogponhonjiidaaDoor
open Go Go.Sx
open Nat renaming reduceBEq → zA, reduceBNe → zB, reduceAdd → zC, reduceSub → zD, reduceMul → zE, reduceLeDiff → zF, reduceLT → zG, reduceEqDiff → zH
open Int renaming reduceToNat → zI, reduceLE → zJ, reduceLT → zK, reduceEq → zL
open Bool renaming not_eq_true' → zM, not_eq_false' → zN
abbrev TkR (r : Tok × Int) : T := .tup [.st (encTok r.1), I .i64 r.2]
def wordV (kind : Int) (text : List UInt8) : Tok × Int := bif decide ((16 : Int) < (text.length : Int)) then (zeroTok, 2) else (⟨kind, text, 0, 0⟩, 0)
theorem word_c (kind : Int) (text : List UInt8) : PC Tryd.prog 58 [I .i64 kind, S text] (TkR (wordV kind text)) := by
 refine PCB.of_body Tryd.func58 rfl (by decide) Tryd.ntmps58 Tryd.results58 rfl rfl rfl ?_ rfl rfl
 cases h0 : decide ((16 : Int) < (text.length : Int))
 ·
  repeat' (first | (simp only [go_sem, zA, zB, zC, zD, zE, zF, zG, reduceCtorEq, zH, zI, zJ, zK, zL, h0]; all_goals fail_if_success guard_target =ₛ False) | (with_reducible first | ((first | refine seqVC_stepN rfl ?_ | refine AWP.seq ?_ | refine AWP.seqR (by kernel_rfl) ?_); intro K hK) | ((first | refine hK _ _ _ ?_ | refine hK _ _ ?_ | refine hK _ ?_); clear hK K) | refine seqVC_nil ?_ | refine AWP.block ?_ | (refine AWP.cond (by with_unfolding_all rfl) ?_ ?_ <;> intro h <;> (try simp only [zM, zN] at h) <;> try exact absurd h (by decide)) | refine AWP.skip ?_ | refine AWP.ret ?_ | refine AWP.exit ?_ | refine Or.inl ?_) | (clear hK K))
  all_goals (refine fin0 ?_; simp only [wordV, h0, cond_false]; rfl)
 ·
  repeat' (first | (simp only [go_sem, zA, zB, zC, zD, zE, zF, zG, reduceCtorEq, zH, zI, zJ, zK, zL, h0]; all_goals fail_if_success guard_target =ₛ False) | (with_reducible first | ((first | refine seqVC_stepN rfl ?_ | refine AWP.seq ?_ | refine AWP.seqR (by kernel_rfl) ?_); intro K hK) | ((first | refine hK _ _ _ ?_ | refine hK _ _ ?_ | refine hK _ ?_); clear hK K) | refine seqVC_nil ?_ | refine AWP.block ?_ | (refine AWP.cond (by with_unfolding_all rfl) ?_ ?_ <;> intro h <;> (try simp only [zM, zN] at h) <;> try exact absurd h (by decide)) | refine AWP.skip ?_ | refine AWP.ret ?_ | refine AWP.exit ?_ | refine Or.inl ?_) | (clear hK K))
  all_goals (refine fin0 ?_; simp only [wordV, h0, cond_true]; rfl)
theorem run_k (k : Nat) (F : FuncId) (p : Int → Bool) (hF : ∀ n : Int, PC Tryd.prog F [I .u8 n] (Bo (p n))) (s : List UInt8) (hs : s.length ≤ 1000000000000) (i : Nat) (hi : i < s.length) :
  PCBk Tryd.prog 59 [Scp k, .one (.dat (.fn F))] k (scB s i) (S ((s.take (toW p s (i + 1))).drop i)) (scB s (toW p s (i + 1))) := PCBk.mk k (run_c F p hF s hs i hi)
/-- what words.number gives at the text t -/
def numT (neg : Bool) (d : List UInt8) : Tok × Int := bif decide ((numM neg d).2 = 0) then (⟨3, [], (numM neg d).1, 0⟩, 0) else (zeroTok, (numM neg d).2)
theorem trim_minus (d : List UInt8) : Lib.trimPrefix (45 :: d) [45] = d := by simp [Lib.trimPrefix, Lib.hasPrefix]
theorem trim_digs {d : List UInt8} (hd : allDig d) (hne : d ≠ []) : Lib.trimPrefix d [45] = d := by
 cases d with
 | nil => exact absurd rfl hne
 | cons c r =>
  have h := dig_bd (hd c List.mem_cons_self)
  have hc : ¬ (45 : UInt8) = c := fun e => by subst e; exact absurd h.1 (by decide)
  have e : Lib.hasPrefix (c :: r) [45] = false := by simp [Lib.hasPrefix, List.isPrefixOf, hc]
  simp [Lib.trimPrefix, e]
theorem b48 (b : UInt8) : decide ((b.toNat : Int) = 48) = decide (b = 48) := by
 apply decide_eq_decide.2
 constructor
 ·intro h; apply UInt8.toNat_inj.1; show b.toNat = 48; omega
 ·rintro rfl; rfl
/-- the text of a number: a minus or none, digits -/
theorem number_c (s : List UInt8) (hs : s.length ≤ 1000000000) (i : Nat) (hi : i < s.length) (neg : Bool) (d : List UInt8) (ht : (s.take (toW digI s (i + 1))).drop i = bif neg then 45 :: d else d) (hd : allDig d) (hne : d ≠ []) :
  PCB Tryd.prog 64 [Scp pin] [(pin, scB s i)] (TkR (numT neg d)) [(pin, scB s (toW digI s (i + 1)))] := by
 have hr := run_k 1000000 61 digI wordsdigit_c s (by omega) i hi
 rw [ht] at hr
 have htl : (bif neg then 45 :: d else d).length ≤ 1000000000 := by rw [← ht, List.length_drop, List.length_take]; omega
 have hcut : Lib.trimPrefix (bif neg then 45 :: d else d) [45] = d := by
  cases neg
  ·exact trim_digs hd hne
  ·exact trim_minus d
 have hT := trimPrefix_c (bif neg then 45 :: d else d) [45]
 rw [hcut] at hT
 have hP := parseInt_c (bif neg then 45 :: d else d) htl
 have hpos := parseInt_pos hd hne
 have hneg := parseInt_neg hd hne
 obtain ⟨b, r, rfl⟩ : ∃ b r, d = b :: r := by cases d with | nil => exact absurd rfl hne | cons b r => exact ⟨b, r, rfl⟩
 have hb0 : (b :: r)[0]? = some b := rfl
 have e48 : (decide ((b.toNat : Int) = 48) && !decide ((bif neg then 45 :: b :: r else b :: r) = [48])) = (decide ((b :: r).head? = some 48) && (decide (1 < (b :: r).length) || neg)) := by
  rw [b48]
  cases neg
  ·cases r with
   | nil => by_cases h : b = 48 <;> simp [h]
   | cons c r => by_cases h : b = 48 <;> simp [h]
  ·by_cases h : b = 48 <;> simp [h]
 have hpi : (decide ((b :: r).head? = some 48) && (decide (1 < (b :: r).length) || neg)) = false → Lib.parseIntB 64 (bif neg then 45 :: b :: r else b :: r) = if (numM neg (b :: r)).2 = 0 then .ok (numM neg (b :: r)).1 else .range := by
  intro h0
  unfold numM
  rw [h0, cond_false]
  cases neg
  ·simp only [cond_false]
   by_cases h : decA 0 (b :: r) < 9223372036854775808
   ·rw [hpos.1 h, decide_eq_true h]; rfl
   ·rw [hpos.2 (by omega), decide_eq_false h]; rfl
  ·simp only [cond_true]
   by_cases h : decA 0 (b :: r) ≤ 9223372036854775808
   ·rw [hneg.1 h, decide_eq_true h]; rfl
   ·rw [hneg.2 (by omega), decide_eq_false h]; rfl
 have hcode : (numM neg (b :: r)).2 = 0 ∨ (numM neg (b :: r)).2 = 2 ∨ ((numM neg (b :: r)).2 = 5 ∧ (decide ((b :: r).head? = some 48) && (decide (1 < (b :: r).length) || neg)) = true) := by
  unfold numM
  cases h0 : (decide ((b :: r).head? = some 48) && (decide (1 < (b :: r).length) || neg))
  ·rw [cond_false]
   cases neg
   ·simp only [cond_false]; cases decide (decA 0 (b :: r) < 9223372036854775808) <;> simp
   ·simp only [cond_true]; cases decide (decA 0 (b :: r) ≤ 9223372036854775808) <;> simp
  ·exact .inr (.inr ⟨rfl, rfl⟩)
 have hfive : (decide ((b :: r).head? = some 48) && (decide (1 < (b :: r).length) || neg)) = true → (numM neg (b :: r)).2 = 5 := by
  intro h0; unfold numM; rw [h0]; rfl
 generalize hX : (bif neg then 45 :: b :: r else b :: r) = X at *
 generalize (decide ((b :: r).head? = some 48) && (decide (1 < (b :: r).length) || neg)) = z at *
 unfold piT at hP
 refine PCB.of_body Tryd.func64 rfl (by decide) Tryd.ntmps64 Tryd.results64 rfl rfl rfl ?_ rfl rfl
 cases z with
 | true =>
  have h1 : decide ((b.toNat : Int) = 48) = true := by revert e48; cases decide ((b.toNat : Int) = 48) <;> simp
  have h2 : decide (X = [48]) = false := by revert e48; rw [h1]; cases decide (X = [48]) <;> simp
  have hq := hfive rfl
  repeat' (first | (simp only [go_sem, zA, zB, zC, zD, zE, zF, zG, reduceCtorEq, zH, zI, zJ, zK, zL, pin, h1, h2, vErr]; all_goals fail_if_success guard_target =ₛ False) | (with_reducible first | ((first | refine seqVC_stepN rfl ?_ | refine seqVC_stepG rfl (by with_unfolding_all rfl) ?_ | refine AWP.seq ?_ | refine AWP.seqR (by kernel_rfl) ?_); intro K hK) | ((first | refine hK _ _ _ ?_ | refine hK _ _ ?_ | refine hK _ ?_); clear hK K) | refine seqVC_nil ?_ | refine AWP.block ?_ | (refine AWP.cond (by with_unfolding_all rfl) ?_ ?_ <;> intro h <;> (try simp only [zM, zN] at h) <;> try exact absurd h (by decide)) | refine AWP.skip ?_ | refine AWP.ret ?_ | refine AWP.exit ?_ | (refine ⟨fun h => ?_, fun h => ?_⟩ <;> (try simp only [zM, zN] at h) <;> try simp only [h]) | refine ⟨_, hT, ?_⟩ | refine ⟨by omega, b, hb0, ?_⟩) | (refine ⟨1000000, _, _, _, hr, rfl, ?_⟩) | (with_reducible first | refine Or.inl ?_) | (clear hK K))
  all_goals (simp only [numT, hq, zeroTok, encTok])
  all_goals (refine ⟨by first | trivial | rfl, fun x hx => ?_⟩; simp only [List.mem_singleton] at hx; subst hx; simp)
 | false =>
  have hp := hpi rfl
  cases h1 : decide ((b.toNat : Int) = 48) with
  | false =>
   by_cases hz : (numM neg (b :: r)).2 = 0
   ·rw [if_pos hz] at hp
    rw [hp] at hP
    repeat' (first | (simp only [go_sem, zA, zB, zC, zD, zE, zF, zG, reduceCtorEq, zH, zI, zJ, zK, zL, pin, h1, vErr]; all_goals fail_if_success guard_target =ₛ False) | (with_reducible first | ((first | refine seqVC_stepN rfl ?_ | refine seqVC_stepG rfl (by with_unfolding_all rfl) ?_ | refine AWP.seq ?_ | refine AWP.seqR (by kernel_rfl) ?_); intro K hK) | ((first | refine hK _ _ _ ?_ | refine hK _ _ ?_ | refine hK _ ?_); clear hK K) | refine seqVC_nil ?_ | refine AWP.block ?_ | (refine AWP.cond (by with_unfolding_all rfl) ?_ ?_ <;> intro h <;> (try simp only [zM, zN] at h) <;> try exact absurd h (by decide)) | refine AWP.skip ?_ | refine AWP.ret ?_ | refine AWP.exit ?_ | (refine ⟨fun h => ?_, fun h => ?_⟩ <;> (try simp only [zM, zN] at h) <;> try simp only [h]) | refine ⟨_, hT, ?_⟩ | refine ⟨_, hP, ?_⟩ | refine ⟨by omega, b, hb0, ?_⟩) | (refine ⟨1000000, _, _, _, hr, rfl, ?_⟩) | (with_reducible first | refine Or.inl ?_) | (clear hK K))
    all_goals (simp only [numT, hz, decide_true, cond_true, encTok])
    all_goals (refine ⟨by first | trivial | rfl, fun x hx => ?_⟩; simp only [List.mem_singleton] at hx; subst hx; simp)
   ·rw [if_neg hz] at hp
    rw [hp] at hP
    have h2 : (numM neg (b :: r)).2 = 2 := by
     rcases hcode with h | h | ⟨_, h⟩
     ·exact absurd h hz
     ·exact h
     ·cases h
    repeat' (first | (simp only [go_sem, zA, zB, zC, zD, zE, zF, zG, reduceCtorEq, zH, zI, zJ, zK, zL, pin, h1, vErr]; all_goals fail_if_success guard_target =ₛ False) | (with_reducible first | ((first | refine seqVC_stepN rfl ?_ | refine seqVC_stepG rfl (by with_unfolding_all rfl) ?_ | refine AWP.seq ?_ | refine AWP.seqR (by kernel_rfl) ?_); intro K hK) | ((first | refine hK _ _ _ ?_ | refine hK _ _ ?_ | refine hK _ ?_); clear hK K) | refine seqVC_nil ?_ | refine AWP.block ?_ | (refine AWP.cond (by with_unfolding_all rfl) ?_ ?_ <;> intro h <;> (try simp only [zM, zN] at h) <;> try exact absurd h (by decide)) | refine AWP.skip ?_ | refine AWP.ret ?_ | refine AWP.exit ?_ | (refine ⟨fun h => ?_, fun h => ?_⟩ <;> (try simp only [zM, zN] at h) <;> try simp only [h]) | refine ⟨_, hT, ?_⟩ | refine ⟨_, hP, ?_⟩ | refine ⟨by omega, b, hb0, ?_⟩) | (refine ⟨1000000, _, _, _, hr, rfl, ?_⟩) | (with_reducible first | refine Or.inl ?_) | (clear hK K))
    all_goals (simp only [numT, h2, zeroTok, encTok])
    all_goals (refine ⟨by first | trivial | rfl, fun x hx => ?_⟩; simp only [List.mem_singleton] at hx; subst hx; simp)
  | true =>
   have h2 : decide (X = [48]) = true := by revert e48; rw [h1]; cases decide (X = [48]) <;> simp
   by_cases hz : (numM neg (b :: r)).2 = 0
   ·rw [if_pos hz] at hp
    rw [hp] at hP
    repeat' (first | (simp only [go_sem, zA, zB, zC, zD, zE, zF, zG, reduceCtorEq, zH, zI, zJ, zK, zL, pin, h1, h2, vErr]; all_goals fail_if_success guard_target =ₛ False) | (with_reducible first | ((first | refine seqVC_stepN rfl ?_ | refine seqVC_stepG rfl (by with_unfolding_all rfl) ?_ | refine AWP.seq ?_ | refine AWP.seqR (by kernel_rfl) ?_); intro K hK) | ((first | refine hK _ _ _ ?_ | refine hK _ _ ?_ | refine hK _ ?_); clear hK K) | refine seqVC_nil ?_ | refine AWP.block ?_ | (refine AWP.cond (by with_unfolding_all rfl) ?_ ?_ <;> intro h <;> (try simp only [zM, zN] at h) <;> try exact absurd h (by decide)) | refine AWP.skip ?_ | refine AWP.ret ?_ | refine AWP.exit ?_ | (refine ⟨fun h => ?_, fun h => ?_⟩ <;> (try simp only [zM, zN] at h) <;> try simp only [h]) | refine ⟨_, hT, ?_⟩ | refine ⟨_, hP, ?_⟩ | refine ⟨by omega, b, hb0, ?_⟩) | (refine ⟨1000000, _, _, _, hr, rfl, ?_⟩) | (with_reducible first | refine Or.inl ?_) | (clear hK K))
    all_goals (simp only [numT, hz, decide_true, cond_true, encTok])
    all_goals (refine ⟨by first | trivial | rfl, fun x hx => ?_⟩; simp only [List.mem_singleton] at hx; subst hx; simp)
   ·rw [if_neg hz] at hp
    rw [hp] at hP
    have h3 : (numM neg (b :: r)).2 = 2 := by
     rcases hcode with h | h | ⟨_, h⟩
     ·exact absurd h hz
     ·exact h
     ·cases h
    repeat' (first | (simp only [go_sem, zA, zB, zC, zD, zE, zF, zG, reduceCtorEq, zH, zI, zJ, zK, zL, pin, h1, h2, vErr]; all_goals fail_if_success guard_target =ₛ False) | (with_reducible first | ((first | refine seqVC_stepN rfl ?_ | refine seqVC_stepG rfl (by with_unfolding_all rfl) ?_ | refine AWP.seq ?_ | refine AWP.seqR (by kernel_rfl) ?_); intro K hK) | ((first | refine hK _ _ _ ?_ | refine hK _ _ ?_ | refine hK _ ?_); clear hK K) | refine seqVC_nil ?_ | refine AWP.block ?_ | (refine AWP.cond (by with_unfolding_all rfl) ?_ ?_ <;> intro h <;> (try simp only [zM, zN] at h) <;> try exact absurd h (by decide)) | refine AWP.skip ?_ | refine AWP.ret ?_ | refine AWP.exit ?_ | (refine ⟨fun h => ?_, fun h => ?_⟩ <;> (try simp only [zM, zN] at h) <;> try simp only [h]) | refine ⟨_, hT, ?_⟩ | refine ⟨_, hP, ?_⟩ | refine ⟨by omega, b, hb0, ?_⟩) | (refine ⟨1000000, _, _, _, hr, rfl, ?_⟩) | (with_reducible first | refine Or.inl ?_) | (clear hK K))
    all_goals (simp only [numT, h3, zeroTok, encTok])
    all_goals (refine ⟨by first | trivial | rfl, fun x hx => ?_⟩; simp only [List.mem_singleton] at hx; subst hx; simp)
/-- the signs, the longer ones first -/
def signL : List (List UInt8) := [[35, 123], [45, 62], [61, 62], [61, 61], [61, 60], [40], [41], [91], [93], [123], [125], [44], [59], [46], [58], [124], [47], [38], [61], [60], [43], [45], [42]]
def findS (t : List UInt8) : List (List UInt8) → Option (List UInt8)
 | [] => none
 | x :: l => bif Lib.hasPrefix t x then some x else findS t l
def signV (t : List UInt8) : (Tok × Int) × Nat := match findS t signL with
 | some x => ((⟨6, x, 0, 0⟩, 0), x.length)
 | none => ((zeroTok, 5), 0)
theorem prefix_len {t x : List UInt8} (h : Lib.hasPrefix t x = true) : x.length ≤ t.length := by
 unfold Lib.hasPrefix at h
 exact (List.isPrefixOf_iff_prefix.1 h).length_le
theorem gl0 : gl.lookup 0 = some [.sl 1 (signL.map Sx.encStr)] := rfl
theorem sign_c (s : List UInt8) (hs : s.length ≤ 1000000000) (i : Nat) (hi : i ≤ s.length) :
  PCB Tryd.prog 67 [Scp pin] [(pin, scB s i)] (TkR (signV (s.drop i)).1) [(pin, scB s (i + (signV (s.drop i)).2))] := by
 refine PCB.of_body Tryd.func67 rfl (by decide) Tryd.ntmps67 Tryd.results67 rfl rfl rfl ?_ rfl rfl
 repeat' (first | (simp only [go_sem, zA, zB, zC, zD, zE, zF, zG, reduceCtorEq, zH, zI, zJ, zK, zL, pin, gl0]; all_goals fail_if_success guard_target =ₛ False) | (with_reducible first | ((first | refine seqVC_stepN rfl ?_ | refine AWP.seq ?_ | refine AWP.seqR (by kernel_rfl) ?_ | refine parVC_stepN rfl ?_ | refine parEVC_stepN rfl ?_ | refine genVC_stepN rfl ?_); intro K hK) | ((first | refine hK _ _ _ ?_ | refine hK _ _ ?_ | refine hK _ ?_); clear hK K) | refine seqVC_nil ?_ | refine parVC_nil ?_ | refine parEVC_nil ?_ | refine genVC_nil ?_ | refine AWP.block ?_ | (refine AWP.cond (by with_unfolding_all rfl) ?_ ?_ <;> intro h <;> (try simp only [zM, zN] at h) <;> try exact absurd h (by decide)) | refine AWP.skip ?_ | refine AWP.ret ?_ | refine AWP.exit ?_ | refine AWP.parR mixed (by kernel_rfl) fun K hK => ?_ | refine ⟨(by kernel_rfl : depB _ _ _ = true), ?_⟩ | refine Or.inl ?_) | (clear hK K))
 refine AWP.len 6 rfl fun hlen0 => ?_
 (try rw [List.length_map] at hlen0)
 refine AWP.range (S := Nat) (signL) Sx.encStr (fun k u => (8, I .i64 (k : Nat)) :: []) (fun k u => [(1000000, scB s i), (2, .cells [.dat (.int .i64 0), .dat (.str []), .dat (.int .i64 0), .dat (.int .i64 0)])]) [0, 2, 6, 7] [] (fun k u => findS (s.drop i) signL = findS (s.drop i) (signL.drop k)) (0) (by simp only [go_sem, zA, zB, zC, zD, zE, zF, zG, reduceCtorEq, zH, zI, zJ, zK, zL]; exact Gh.to [] (by repeat (first | exact trivial | refine ⟨rfl, ?_⟩ | refine ⟨by (simp only [go_sem, zA, zB, zC, zD, zE, zF, zG, reduceCtorEq, zH, zI, zJ, zK, zL, List.length_append, List.length_map, List.length_cons, List.length_nil, Nat.zero_add]) <;> rfl, ?_⟩)) (by repeat (first | exact trivial | refine ⟨rfl, ?_⟩ | refine ⟨by (simp only [go_sem, zA, zB, zC, zD, zE, zF, zG, reduceCtorEq, zH, zI, zJ, zK, zL, List.length_append, List.length_map, List.length_cons, List.length_nil, Nat.zero_add]) <;> rfl, ?_⟩)) rfl rfl rfl) ?_ ?_ ?_
 ·rfl
 ·intro k u x hlt hx hx' hb hok
  simp only [go_sem, zA, zB, zC, zD, zE, zF, zG, reduceCtorEq, zH, zI, zJ, zK, zL]
  rw [List.drop_eq_getElem_cons hlt, show signL[k] = x from (List.getElem?_eq_some_iff.1 hx).2, findS] at hok
  have hp := hasPrefix_c (s.drop i) x
  cases hz : Lib.hasPrefix (s.drop i) x
  ·
   rw [hz, cond_false] at hok
   rw [hz] at hp
   repeat' (first | (simp only [go_sem, zA, zB, zC, zD, zE, zF, zG, reduceCtorEq, zH, zI, zJ, zK, zL, List.length_map, List.take_length, hb, encStr, pin]; all_goals fail_if_success guard_target =ₛ False) | (with_reducible first | ((first | refine seqVC_stepN rfl ?_ | refine AWP.seq ?_ | refine AWP.seqR (by kernel_rfl) ?_ | refine parVC_stepN rfl ?_ | refine parEVC_stepN rfl ?_ | refine genVC_stepN rfl ?_); intro K hK) | ((first | refine hK _ _ _ ?_ | refine hK _ _ ?_ | refine hK _ ?_); clear hK K) | refine seqVC_nil ?_ | refine parVC_nil ?_ | refine parEVC_nil ?_ | refine genVC_nil ?_ | refine AWP.block ?_ | (refine AWP.cond (by with_unfolding_all rfl) ?_ ?_ <;> intro h <;> (try simp only [zM, zN] at h) <;> try exact absurd h (by decide)) | refine AWP.skip ?_ | refine AWP.ret ?_ | refine AWP.exit ?_ | refine ⟨_, hp, ?_⟩ | refine ⟨by omega, encStr x, hx', ?_⟩ | refine ⟨by omega, ?_⟩ | refine ⟨by omega, by omega, by omega, ?_⟩ | refine AWP.parR mixed (by kernel_rfl) fun K hK => ?_ | refine ⟨(by kernel_rfl : depB _ _ _ = true), ?_⟩ | refine Or.inl ?_) | (clear hK K))
   all_goals (rw [wrap_succ hlt hlen0])
   all_goals (exact Gh.to [] (by repeat (first | exact trivial | refine ⟨rfl, ?_⟩ | refine ⟨by (simp only [go_sem, zA, zB, zC, zD, zE, zF, zG, reduceCtorEq, zH, zI, zJ, zK, zL, List.length_append, List.length_map, List.length_cons, List.length_nil, Nat.zero_add]) <;> rfl, ?_⟩)) (by repeat (first | exact trivial | refine ⟨rfl, ?_⟩ | refine ⟨by (simp only [go_sem, zA, zB, zC, zD, zE, zF, zG, reduceCtorEq, zH, zI, zJ, zK, zL, List.length_append, List.length_map, List.length_cons, List.length_nil, Nat.zero_add]) <;> rfl, ?_⟩)) rfl rfl rfl)
  ·
   rw [hz, cond_true] at hok
   rw [hz] at hp
   have hl := prefix_len hz
   rw [List.length_drop] at hl
   have hw : IntKind.i64.wrap ((i : Int) + (x.length : Int)) = ((i + x.length : Nat) : Int) := by rw [w64 (by omega)]; rfl
   repeat' (first | (simp only [go_sem, zA, zB, zC, zD, zE, zF, zG, reduceCtorEq, zH, zI, zJ, zK, zL, List.length_map, List.take_length, hb, encStr, pin, hw]; all_goals fail_if_success guard_target =ₛ False) | (with_reducible first | ((first | refine seqVC_stepN rfl ?_ | refine AWP.seq ?_ | refine AWP.seqR (by kernel_rfl) ?_ | refine parVC_stepN rfl ?_ | refine parEVC_stepN rfl ?_ | refine genVC_stepN rfl ?_); intro K hK) | ((first | refine hK _ _ _ ?_ | refine hK _ _ ?_ | refine hK _ ?_); clear hK K) | refine seqVC_nil ?_ | refine parVC_nil ?_ | refine parEVC_nil ?_ | refine genVC_nil ?_ | refine AWP.block ?_ | (refine AWP.cond (by with_unfolding_all rfl) ?_ ?_ <;> intro h <;> (try simp only [zM, zN] at h) <;> try exact absurd h (by decide)) | refine AWP.skip ?_ | refine AWP.ret ?_ | refine AWP.exit ?_ | refine ⟨_, hp, ?_⟩ | refine ⟨by omega, encStr x, hx', ?_⟩ | refine ⟨by omega, ?_⟩ | refine ⟨by omega, by omega, by omega, ?_⟩ | refine AWP.parR mixed (by kernel_rfl) fun K hK => ?_ | refine ⟨(by kernel_rfl : depB _ _ _ = true), ?_⟩ | refine Or.inl ?_) | (clear hK K))
   all_goals (simp only [signV, hok])
   all_goals (refine ⟨by first | trivial | rfl, fun x hx => ?_⟩; simp only [List.mem_singleton] at hx; subst hx; simp)
 ·intro u hb hok
  simp only [go_sem, zA, zB, zC, zD, zE, zF, zG, reduceCtorEq, zH, zI, zJ, zK, zL]
  rw [List.drop_length, findS] at hok
  repeat' (first | (simp only [go_sem, zA, zB, zC, zD, zE, zF, zG, reduceCtorEq, zH, zI, zJ, zK, zL, List.length_map, hb, pin]; all_goals fail_if_success guard_target =ₛ False) | (with_reducible first | ((first | refine seqVC_stepN rfl ?_ | refine AWP.seq ?_ | refine AWP.seqR (by kernel_rfl) ?_ | refine parVC_stepN rfl ?_ | refine parEVC_stepN rfl ?_ | refine genVC_stepN rfl ?_); intro K hK) | ((first | refine hK _ _ _ ?_ | refine hK _ _ ?_ | refine hK _ ?_); clear hK K) | refine seqVC_nil ?_ | refine parVC_nil ?_ | refine parEVC_nil ?_ | refine genVC_nil ?_ | refine AWP.block ?_ | (refine AWP.cond (by with_unfolding_all rfl) ?_ ?_ <;> intro h <;> (try simp only [zM, zN] at h) <;> try exact absurd h (by decide)) | refine AWP.skip ?_ | refine AWP.ret ?_ | refine AWP.exit ?_ | refine AWP.parR mixed (by kernel_rfl) fun K hK => ?_ | refine ⟨(by kernel_rfl : depB _ _ _ = true), ?_⟩ | refine Or.inl ?_) | (clear hK K))
  all_goals (simp only [signV, hok])
  all_goals (refine ⟨by first | trivial | rfl, fun x hx => ?_⟩; simp only [List.mem_singleton] at hx; subst hx; simp)
end Go.Proofs.YtogponhonjiidaaDoor
set_option linter.unusedVariables false
set_option maxRecDepth 20000
namespace Go.Proofs.YtogponhonjiidaaDoor
open Go Go.Sx
open Nat renaming reduceBEq → zA, reduceBNe → zB, reduceAdd → zC, reduceSub → zD, reduceMul → zE, reduceLeDiff → zF, reduceLT → zG, reduceEqDiff → zH
open Int renaming reduceToNat → zI, reduceLE → zJ, reduceLT → zK, reduceEq → zL
open Bool renaming not_eq_true' → zM, not_eq_false' → zN
theorem errG {W : World} {n : String} {d : DataW Unit} {nm : String} {rest : List (String × DataW Unit)} {g : Nat} (hg : Tryd.prog.globalNamed n = some g) (hty : (Tryd.prog.globals[g]?).map (·.type) = some 82)
  (h : laidMet Tryd.prog ((n, DataW.iface nm d) :: rest) W) : ∃ vs, At (W.heap[g]?) 0 vs ∧ repRow (fun b => W.heap[b]?) [.err true] vs := by
 obtain ⟨g', t, cs, fuel, p, h1, h2, h3, h4⟩ := laidMet_head h
 obtain rfl := Option.some.inj (hg.symm.trans h1)
 obtain rfl := Option.some.inj (hty.symm.trans h2)
 obtain ⟨et, fz, hb⟩ := tab_of h3 hg
 obtain ⟨te, pe, hcs⟩ := err_of Tryd.underlying82 h4
 refine ⟨[.iface te pe], ⟨cs, et, fz, [], [], hb, by rw [hcs]; rfl, rfl⟩, ?_⟩
 simp only [repRow, C.rep, cond_true]
 exact ⟨_, _, rfl, ⟨te, pe, rfl⟩, rfl⟩
theorem repStrs {M : Mem0} : ∀ l : List (List UInt8), repRows M 1 (l.map Sx.encStr) (l.map fun s => Value.string ⟨s.toArray⟩)
 | [] => by simp [repRows]
 | s :: l => by
  have := repStrs (M := M) l
  simp only [List.map_cons, repRows]
  exact ⟨[.string ⟨s.toArray⟩], _, rfl, rfl, by simp only [Sx.encStr, repRow, C.rep]; exact ⟨_, _, rfl, rfl, rfl⟩, this⟩
theorem repInts {M : Mem0} : ∀ l : List Int, repRow M (l.map fun z => C.int .u64 z) (l.map fun z => Value.int .u64 z)
 | [] => by simp [repRow]
 | s :: l => by
  have := repInts (M := M) l
  simp only [List.map_cons, repRow, C.rep]
  exact ⟨_, _, rfl, rfl, this⟩
theorem globOk {W : World} (hL : laidMet Tryd.prog Rows.tokenReservedRow.laid W) (hS : W.ShapedOpen Tryd.prog) : GlobOk (fun b => W.heap[b]?) := by
 have l2 := laidMet_tail (laidMet_tail hL)
 have l3 := laidMet_tail l2
 have l4 := laidMet_tail l3
 have l6 := laidMet_tail (laidMet_tail l4)
 have e5 := errG (g := 5) (by kernel_rfl) (by kernel_rfl) l3
 have e4 := errG (g := 4) (by kernel_rfl) (by kernel_rfl) l4
 have e1 : Lib.TabIs Tryd.prog W "internal/strconv.uint64pow10" .u64 pow10V := Lib.tabIs_of_head (g := 1) (t := 134) (e := 107) (n := 20) (by kernel_rfl) (by kernel_rfl) Tryd.underlying134 Tryd.underlying107 (by kernel_rfl) (by kernel_rfl) l2
 obtain ⟨t1, z1, b1⟩ := tab_of e1 (g := 1) (by kernel_rfl)
 have e0 : ∃ vs, At (W.heap[0]?) 0 vs ∧ repRow (fun b => W.heap[b]?) [.sl 1 (signL.map Sx.encStr)] vs := by
  obtain ⟨g', t, cs, fuel, p, h1, h2, h3, h4⟩ := laidMet_head l6
  obtain rfl := Option.some.inj ((show Tryd.prog.globalNamed "semtype/words.signs" = some 0 by kernel_rfl).symm.trans h1)
  obtain rfl := Option.some.inj ((show (Tryd.prog.globals[0]?).map (·.type) = some 28 by kernel_rfl).symm.trans h2)
  obtain ⟨et, fz, hb⟩ := tab_of h3 h1
  obtain ⟨b, off, cap, hcs, hc1, hc2, hat⟩ := strs_of (strs := signL) (rst := []) Tryd.underlying28 Tryd.underlying9 (by kernel_rfl) (by decide) h4
  refine ⟨[.slice (some ⟨b, off, none⟩) signL.length cap], ⟨cs, et, fz, [], [], hb, by rw [hcs]; rfl, rfl⟩, ?_⟩
  simp only [repRow, C.rep]
  refine ⟨_, _, rfl, ⟨_, cap, signL.map fun s => Value.string ⟨s.toArray⟩, rfl, hc1, hc2, repStrs signL, .inr ⟨b, off, rfl, hat⟩⟩, rfl⟩
 have em : ∃ m : Int, At (W.heap[3]?) 0 [.int .i64 m] := by
  obtain ⟨m, hm⟩ := Go.Proofs.cell_of_shapedOpen_int (g := 3) (k := .i64) (zero := #[.int .i64 0]) (t := 3) hS (of_decide_eq_true (by kernel_rfl)) (by kernel_rfl) rfl (by kernel_rfl) (by kernel_rfl) Tryd.underlying3
  exact ⟨m, at_of_cells (by simp) fun i v hv => by
   cases i with
   | zero => cases hv; exact hm
   | succ i => simp at hv⟩
 refine ⟨fun g r hg => ?_, em, t1, z1, b1⟩
 by_cases g0 : g = 0
 ·subst g0
  obtain rfl := Option.some.inj (gl0.symm.trans hg)
  exact e0
 by_cases g1 : g = 1
 ·subst g1
  obtain rfl := Option.some.inj ((show gl.lookup 1 = some (pow10V.map fun z => C.int .u64 z) from rfl).symm.trans hg)
  exact ⟨pow10V.map fun z => Value.int .u64 z, ⟨_, t1, z1, [], [], b1, by simp, rfl⟩, repInts pow10V⟩
 by_cases g4 : g = 4
 ·subst g4
  obtain rfl := Option.some.inj ((show gl.lookup 4 = some [.err true] from rfl).symm.trans hg)
  exact e4
 by_cases g5 : g = 5
 ·subst g5
  obtain rfl := Option.some.inj ((show gl.lookup 5 = some [.err true] from rfl).symm.trans hg)
  exact e5
 ·exfalso
  have h0 : (g == 0) = false := by simpa using g0
  have h1 : (g == 1) = false := by simpa using g1
  have h4 : (g == 4) = false := by simpa using g4
  have h5 : (g == 5) = false := by simpa using g5
  unfold gl at hg
  simp only [List.lookup, h0, h1, h4, h5] at hg
  cases hg
end Go.Proofs.YtogponhonjiidaaDoor
set_option linter.unusedSimpArgs false
set_option linter.unusedVariables false
set_option maxRecDepth 20000
set_option maxHeartbeats 16000000
namespace Go.Proofs.YtogponhonjiidaaDoor
open Go Go.Sx
open Nat renaming reduceBEq → zA, reduceBNe → zB, reduceAdd → zC, reduceSub → zD, reduceMul → zE, reduceLeDiff → zF, reduceLT → zG, reduceEqDiff → zH
open Int renaming reduceToNat → zI, reduceLE → zJ, reduceLT → zK, reduceEq → zL
open Bool renaming not_eq_true' → zM, not_eq_false' → zN
open Go.RowKit
theorem by1 (b : UInt8) : bytesOf [[C.int .u8 (b.toNat : Int)]] = some [b] := bytesOf_enc [b]
theorem itoa_neg {n : Int} (h : n < 0) : Lib.itoa n = 45 :: Lib.decDigits n.natAbs := by unfold Lib.itoa; rw [if_pos h]
theorem itoa_pos {n : Int} (h : ¬ n < 0) : Lib.itoa n = Lib.decDigits n.toNat := by unfold Lib.itoa; rw [if_neg h]
theorem dig_step {u : Nat} (h : ¬ u < 10) : Lib.decDigits u = Lib.decDigits (u / 10) ++ [UInt8.ofNat (48 + u % 10)] := by rw [Lib.decDigits, dif_neg h]
theorem digits_le : ∀ (k u : Nat), u < 10 ^ (k + 1) → (Lib.decDigits u).length ≤ k + 1
 | 0, u, h => by rw [Lib.decDigits, dif_pos (by simpa using h)]; simp
 | k + 1, u, h => by
  by_cases h1 : u < 10
  ·rw [Lib.decDigits, dif_pos h1]; simp
  ·rw [dig_step h1, List.length_append]
   have := digits_le k (u / 10) (by rw [Nat.pow_succ] at h; omega)
   simp only [List.length_cons, List.length_nil]; omega
theorem digB (r : Nat) (h : r < 10) : IntKind.u8.wrap (IntKind.i64.wrap (48 + (r : Int))) = ((UInt8.ofNat (48 + r)).toNat : Int) := by
 have : ∀ r : Nat, r < 10 → IntKind.u8.wrap (IntKind.i64.wrap (48 + (r : Int))) = ((UInt8.ofNat (48 + r)).toNat : Int) := by decide +kernel
 exact this r h
theorem itoa_len {n : Int} (h0 : -9223372036854775808 ≤ n) (h1 : n ≤ 9223372036854775807) : (Lib.itoa n).length ≤ 30 := by
 unfold Lib.itoa
 split
 ·have := digits_le 19 n.natAbs (by omega)
  rw [List.length_cons]; omega
 ·have := digits_le 19 n.toNat (by omega)
  omega
theorem wrapI (z : Int) (h0 : -9223372036854775808 ≤ z) (h1 : z ≤ 9223372036854775807) : IntKind.i64.wrap z = z := by rw [IntKind.wrap_i64]; omega
theorem decimal_c : ∀ (m : Nat) (n : Int), n.natAbs ≤ m → -9223372036854775808 ≤ n → n ≤ 9223372036854775807 → PC Tryd.prog 26 [I .i64 n] (S (Lib.itoa n)) := by
 intro m
 induction m with
 | zero =>
  intro n hm _ _
  obtain rfl : n = 0 := by omega
  have e : Lib.itoa 0 = [UInt8.ofNat (48 + 0)] := by rw [itoa_pos (by omega), show (0 : Int).toNat = 0 from rfl, Lib.decDigits, dif_pos (by omega)]
  rw [e]
  have hb : IntKind.u8.wrap (IntKind.i64.wrap 48) = ((UInt8.ofNat (48 + 0)).toNat : Int) := by decide
  have hlt : decide ((0 : Int) < 0) = false := by decide
  have hlt2 : decide ((0 : Int) < 10) = true := by decide
  have h0 : IntKind.i64.wrap (48 + Int.tmod 0 10) = IntKind.i64.wrap 48 := by decide
  have h1 := by1 (UInt8.ofNat (48 + 0))
  generalize UInt8.ofNat (48 + 0) = x at hb h1
  refine PCB.of_body Tryd.func26 rfl (by decide) Tryd.ntmps26 Tryd.results26 rfl rfl rfl ?_ rfl rfl
  repeat' (first | (simp only [go_sem, zA, zB, zC, zD, zE, zF, zG, reduceCtorEq, zH, zI, zJ, zK, zL, hlt, hlt2, h0, hb, h1]; all_goals fail_if_success guard_target =ₛ False) | (with_reducible first | ((first | refine seqVC_stepN rfl ?_ | refine AWP.seq ?_ | refine AWP.seqR (by kernel_rfl) ?_); intro K hK) | ((first | refine hK _ _ _ ?_ | refine hK _ _ ?_ | refine hK _ ?_); clear hK K) | refine seqVC_nil ?_ | refine AWP.block ?_ | (refine AWP.cond (by with_unfolding_all rfl) ?_ ?_ <;> intro h <;> (try simp only [zM, zN] at h) <;> try exact absurd h (by decide)) | refine AWP.skip ?_ | refine AWP.ret ?_ | refine AWP.exit ?_ | refine ⟨by decide, ?_⟩ | refine Or.inl ?_) | (clear hK K))
  all_goals (first | exact fun _ h => absurd h List.not_mem_nil | refine fin0 ?_)
  all_goals rfl
 | succ m ih =>
  intro n hm hn0 hn1
  by_cases hneg : n < 0
  ·obtain ⟨u, hu⟩ : ∃ u : Nat, n = -(u : Int) := ⟨n.natAbs, by omega⟩
   have hlt : decide (n < 0) = true := by simpa using hneg
   have hnu : n.natAbs = u := by omega
   have hq : IntKind.i64.wrap (n.tdiv 10) = -((u / 10 : Nat) : Int) := by
    rw [show n.tdiv 10 = -((u / 10 : Nat) : Int) by rw [hu, Int.neg_tdiv]; rfl]
    exact wrapI _ (by omega) (by omega)
   have hr : IntKind.i64.wrap (0 - n.tmod 10) = ((u % 10 : Nat) : Int) := by
    rw [show n.tmod 10 = -((u % 10 : Nat) : Int) by rw [hu, Int.neg_tmod]; rfl]
    rw [show (0 : Int) - -((u % 10 : Nat) : Int) = ((u % 10 : Nat) : Int) by omega]
    exact wrapI _ (by omega) (by omega)
   have hb := digB (u % 10) (by omega)
   have h1 := by1 (UInt8.ofNat (48 + u % 10))
   have hI := itoa_neg hneg
   rw [hnu] at hI
   by_cases h10 : u < 10
   ·have hz : decide (-((u / 10 : Nat) : Int) = 0) = true := by rw [decide_eq_true_eq]; omega
    rw [Lib.decDigits, dif_pos h10, show u = u % 10 by omega] at hI
    rw [hI]
    have hml : 1 + 1 ≤ maxLen := by unfold maxLen; omega
    generalize UInt8.ofNat (48 + u % 10) = x at hb h1
    refine PCB.of_body Tryd.func26 rfl (by decide) Tryd.ntmps26 Tryd.results26 rfl rfl rfl ?_ rfl rfl
    repeat' (first | (simp only [go_sem, zA, zB, zC, zD, zE, zF, zG, reduceCtorEq, zH, zI, zJ, zK, zL, hlt, hq, hr, hb, h1, hz, List.length_cons, List.length_nil, List.cons_append, List.nil_append]; all_goals fail_if_success guard_target =ₛ False) | (with_reducible first | ((first | refine seqVC_stepN rfl ?_ | refine AWP.seq ?_ | refine AWP.seqR (by kernel_rfl) ?_); intro K hK) | ((first | refine hK _ _ _ ?_ | refine hK _ _ ?_ | refine hK _ ?_); clear hK K) | refine seqVC_nil ?_ | refine AWP.block ?_ | (refine AWP.cond (by with_unfolding_all rfl) ?_ ?_ <;> intro h <;> (try simp only [zM, zN] at h) <;> try exact absurd h (by decide)) | refine AWP.skip ?_ | refine AWP.ret ?_ | refine AWP.exit ?_ | refine ⟨by decide, ?_⟩ | refine ⟨hml, ?_⟩ | refine Or.inl ?_) | (clear hK K))
    all_goals (first | exact fun _ h => absurd h List.not_mem_nil | refine fin0 ?_)
    all_goals rfl
   ·have hz : decide (-((u / 10 : Nat) : Int) = 0) = false := by rw [decide_eq_false_iff_not]; omega
    have hrec := ih (-((u / 10 : Nat) : Int)) (by omega) (by omega) (by omega)
    have hlen := itoa_len (n := -((u / 10 : Nat) : Int)) (by omega) (by omega)
    have hIq : Lib.itoa (-((u / 10 : Nat) : Int)) = 45 :: Lib.decDigits (u / 10) := by rw [itoa_neg (by omega)]; congr 2; omega
    rw [dig_step h10] at hI
    have hfin : Lib.itoa n = Lib.itoa (-((u / 10 : Nat) : Int)) ++ [UInt8.ofNat (48 + u % 10)] := by rw [hI, hIq]; rfl
    rw [hfin]
    have hml : (Lib.itoa (-((u / 10 : Nat) : Int))).length + 1 ≤ maxLen := by unfold maxLen; omega
    generalize UInt8.ofNat (48 + u % 10) = x at hb h1
    refine PCB.of_body Tryd.func26 rfl (by decide) Tryd.ntmps26 Tryd.results26 rfl rfl rfl ?_ rfl rfl
    repeat' (first | (simp only [go_sem, zA, zB, zC, zD, zE, zF, zG, reduceCtorEq, zH, zI, zJ, zK, zL, hlt, hq, hr, hb, h1, hz, List.length_cons, List.length_nil]; all_goals fail_if_success guard_target =ₛ False) | (with_reducible first | ((first | refine seqVC_stepN rfl ?_ | refine AWP.seq ?_ | refine AWP.seqR (by kernel_rfl) ?_); intro K hK) | ((first | refine hK _ _ _ ?_ | refine hK _ _ ?_ | refine hK _ ?_); clear hK K) | refine seqVC_nil ?_ | refine AWP.block ?_ | (refine AWP.cond (by with_unfolding_all rfl) ?_ ?_ <;> intro h <;> (try simp only [zM, zN] at h) <;> try exact absurd h (by decide)) | refine AWP.skip ?_ | refine AWP.ret ?_ | refine AWP.exit ?_ | refine ⟨_, hrec, ?_⟩ | refine ⟨by decide, ?_⟩ | refine ⟨hml, ?_⟩ | refine Or.inl ?_) | (clear hK K))
    all_goals (first | exact fun _ h => absurd h List.not_mem_nil | refine fin0 ?_)
    all_goals rfl
  ·obtain ⟨u, hu⟩ : ∃ u : Nat, n = (u : Int) := ⟨n.toNat, by omega⟩
   have hlt : decide (n < 0) = false := by simpa using hneg
   have hnu : n.toNat = u := by omega
   have hr : n.tmod 10 = ((u % 10 : Nat) : Int) := by rw [hu]; rfl
   have hq : IntKind.i64.wrap (n.tdiv 10) = ((u / 10 : Nat) : Int) := by
    rw [show n.tdiv 10 = ((u / 10 : Nat) : Int) by rw [hu]; rfl]
    exact wrapI _ (by omega) (by omega)
   have hb := digB (u % 10) (by omega)
   have h1 := by1 (UInt8.ofNat (48 + u % 10))
   have hI := itoa_pos hneg
   rw [hnu] at hI
   by_cases h10 : u < 10
   ·have hz : decide (n < 10) = true := by rw [decide_eq_true_eq]; omega
    rw [Lib.decDigits, dif_pos h10, show u = u % 10 by omega] at hI
    rw [hI]
    generalize UInt8.ofNat (48 + u % 10) = x at hb h1
    refine PCB.of_body Tryd.func26 rfl (by decide) Tryd.ntmps26 Tryd.results26 rfl rfl rfl ?_ rfl rfl
    repeat' (first | (simp only [go_sem, zA, zB, zC, zD, zE, zF, zG, reduceCtorEq, zH, zI, zJ, zK, zL, hlt, hr, hb, h1, hz]; all_goals fail_if_success guard_target =ₛ False) | (with_reducible first | ((first | refine seqVC_stepN rfl ?_ | refine AWP.seq ?_ | refine AWP.seqR (by kernel_rfl) ?_); intro K hK) | ((first | refine hK _ _ _ ?_ | refine hK _ _ ?_ | refine hK _ ?_); clear hK K) | refine seqVC_nil ?_ | refine AWP.block ?_ | (refine AWP.cond (by with_unfolding_all rfl) ?_ ?_ <;> intro h <;> (try simp only [zM, zN] at h) <;> try exact absurd h (by decide)) | refine AWP.skip ?_ | refine AWP.ret ?_ | refine AWP.exit ?_ | refine ⟨by decide, ?_⟩ | refine Or.inl ?_) | (clear hK K))
    all_goals (first | exact fun _ h => absurd h List.not_mem_nil | refine fin0 ?_)
    all_goals rfl
   ·have hz : decide (n < 10) = false := by rw [decide_eq_false_iff_not]; omega
    have hrec := ih ((u / 10 : Nat) : Int) (by omega) (by omega) (by omega)
    have hlen := itoa_len (n := ((u / 10 : Nat) : Int)) (by omega) (by omega)
    have hIq : Lib.itoa ((u / 10 : Nat) : Int) = Lib.decDigits (u / 10) := by rw [itoa_pos (by omega)]; congr 1
    rw [dig_step h10, ← hIq] at hI
    rw [hI]
    have hml : (Lib.itoa ((u / 10 : Nat) : Int)).length + 1 ≤ maxLen := by unfold maxLen; omega
    generalize UInt8.ofNat (48 + u % 10) = x at hb h1
    refine PCB.of_body Tryd.func26 rfl (by decide) Tryd.ntmps26 Tryd.results26 rfl rfl rfl ?_ rfl rfl
    repeat' (first | (simp only [go_sem, zA, zB, zC, zD, zE, zF, zG, reduceCtorEq, zH, zI, zJ, zK, zL, hlt, hr, hq, hb, h1, hz, List.length_cons, List.length_nil]; all_goals fail_if_success guard_target =ₛ False) | (with_reducible first | ((first | refine seqVC_stepN rfl ?_ | refine AWP.seq ?_ | refine AWP.seqR (by kernel_rfl) ?_); intro K hK) | ((first | refine hK _ _ _ ?_ | refine hK _ _ ?_ | refine hK _ ?_); clear hK K) | refine seqVC_nil ?_ | refine AWP.block ?_ | (refine AWP.cond (by with_unfolding_all rfl) ?_ ?_ <;> intro h <;> (try simp only [zM, zN] at h) <;> try exact absurd h (by decide)) | refine AWP.skip ?_ | refine AWP.ret ?_ | refine AWP.exit ?_ | refine ⟨_, hrec, ?_⟩ | refine ⟨by decide, ?_⟩ | refine ⟨hml, ?_⟩ | refine Or.inl ?_) | (clear hK K))
    all_goals (first | exact fun _ h => absurd h List.not_mem_nil | refine fin0 ?_)
    all_goals rfl
end Go.Proofs.YtogponhonjiidaaDoor
set_option linter.unusedSimpArgs false
set_option linter.unusedVariables false
set_option maxRecDepth 20000
set_option maxHeartbeats 16000000
namespace Go.Proofs.YtogponhonjiidaaDoor
open Go Go.Sx
open Nat renaming reduceBEq → zA, reduceBNe → zB, reduceAdd → zC, reduceSub → zD, reduceMul → zE, reduceLeDiff → zF, reduceLT → zG, reduceEqDiff → zH
open Int renaming reduceToNat → zI, reduceLE → zJ, reduceLT → zK, reduceEq → zL
open Bool renaming not_eq_true' → zM, not_eq_false' → zN
/-- the source of numbers -/
structure Src where
 l : List Int
 pos : Nat
def encZ (n : Int) : List C := [.int .i64 n]
def Src.ok (s : Src) : Prop := (∀ x ∈ s.l, -9223372036854775808 ≤ x ∧ x ≤ 9223372036854775807) ∧ s.l.length ≤ 1000000
abbrev srcB (s : Src) : Res := .cells [.dat (.sl 1 (s.l.map encZ)), .dat (.int .i64 s.pos)]
abbrev Sp (k : Nat) : T := .one (.ptr k 0)
def emptyS (s : Src) (n : Int) : Bool := decide (n < 1) || decide ((s.l.length : Int) ≤ (s.pos : Int))
def drawV (s : Src) (n : Int) : Int := bif emptyS s n then 0 else bif decide (((s.l[s.pos]?).getD 0).tmod n < 0) then ((s.l[s.pos]?).getD 0).tmod n + n else ((s.l[s.pos]?).getD 0).tmod n
def nextS (s : Src) (n : Int) : Src := bif emptyS s n then s else { s with pos := s.pos + 1 }
theorem ok_next {s : Src} (h : s.ok) (n : Int) : (nextS s n).ok := by
 unfold nextS; cases emptyS s n <;> exact h
theorem drawV_in (s : Src) {n : Int} (hn : 1 ≤ n) : 0 ≤ drawV s n ∧ drawV s n < n := by
 unfold drawV
 cases emptyS s n with
 | true => simp only [cond_true]; omega
 | false =>
  simp only [cond_false]
  generalize (s.l[s.pos]?).getD 0 = x
  have h1 : (x.tmod n) < n := Int.tmod_lt_of_pos x (by omega)
  have h2 : -n < x.tmod n := by
   have := Int.lt_tmod_of_pos x (show 0 < n by omega)
   omega
  cases hc : decide (x.tmod n < 0) with
  | true => simp only [decide_eq_true_eq] at hc; simp only [cond_true]; omega
  | false => simp only [decide_eq_false_iff_not] at hc; simp only [cond_false]; omega
theorem draw_c (s : Src) (hs : s.ok) (n : Int) (hn : 1 ≤ n ∧ n ≤ 1000000) : PCB Tryd.prog 32 [Sp pin, I .i64 n] [(pin, srcB s)] (I .i64 (drawV s n)) [(pin, srcB (nextS s n))] := by
 refine PCB.of_body Tryd.func32 rfl (by decide) Tryd.ntmps32 Tryd.results32 rfl rfl rfl ?_ rfl rfl
 have h1 : decide (n < 1) = false := by simp; omega
 by_cases hp : s.pos < s.l.length
 ·have h2 : decide ((s.l.length : Int) ≤ (s.pos : Int)) = false := by simp; omega
  have hx : s.l[s.pos]? = some s.l[s.pos] := by simp [hp]
  have hx' : (s.l.map encZ)[s.pos]? = some (encZ s.l[s.pos]) := by simp [hp]
  have hn0 : ¬ n = 0 := by omega
  have hw : IntKind.i64.wrap ((s.pos : Int) + 1) = ((s.pos + 1 : Nat) : Int) := by rw [wrapI _ (by omega) (by have := hs.2; omega)]; omega
  have hb1 := Int.tmod_lt_of_pos s.l[s.pos] (show 0 < n by omega)
  have hb2 := Int.lt_tmod_of_pos s.l[s.pos] (show 0 < n by omega)
  have hw2 : IntKind.i64.wrap (s.l[s.pos].tmod n + n) = s.l[s.pos].tmod n + n := wrapI _ (by omega) (by omega)
  have he : emptyS s n = false := by unfold emptyS; rw [h1, h2]; rfl
  repeat' (first | (simp only [go_sem, zA, zB, zC, zD, zE, zF, zG, reduceCtorEq, zH, zI, zJ, zK, zL, pin, List.length_map, encZ, h1, h2, hw, hw2]; all_goals fail_if_success guard_target =ₛ False) | (with_reducible first | ((first | refine seqVC_stepN rfl ?_ | refine seqVC_stepG rfl (by with_unfolding_all rfl) ?_ | refine AWP.seq ?_ | refine AWP.seqR (by kernel_rfl) ?_ | refine parVC_stepN rfl ?_ | refine parVC_stepG rfl (by with_unfolding_all rfl) ?_ | refine parEVC_stepN rfl ?_ | refine parEVC_stepG rfl (by with_unfolding_all rfl) ?_ | refine genVC_stepN rfl ?_ | refine genVC_stepG rfl (by with_unfolding_all rfl) ?_); intro K hK) | ((first | refine hK _ _ _ ?_ | refine hK _ _ ?_ | refine hK _ ?_); clear hK K) | refine seqVC_nil ?_ | refine parVC_nil ?_ | refine parEVC_nil ?_ | refine genVC_nil ?_ | refine AWP.block ?_ | (refine AWP.cond (by with_unfolding_all rfl) ?_ ?_ <;> intro h <;> (try simp only [zM, zN] at h) <;> try exact absurd h (by decide)) | refine AWP.skip ?_ | refine AWP.ret ?_ | refine AWP.exit ?_ | (refine ⟨fun h => ?_, fun h => ?_⟩ <;> (try simp only [zM, zN] at h) <;> try simp only [h]) | refine ⟨by omega, encZ s.l[s.pos], hx', ?_⟩ | refine ⟨by omega, ?_⟩ | refine ⟨hn0, ?_⟩ | refine AWP.parR mixed (by kernel_rfl) fun K hK => ?_ | refine ⟨(by kernel_rfl : depB _ _ _ = true), ?_⟩ | refine Or.inl ?_) | (clear hK K))
  all_goals (simp only [decide_eq_true_eq, decide_eq_false_iff_not] at h)
  all_goals (refine ⟨by simp only [drawV, he, cond_false, hx, Option.getD_some, h, decide_true, decide_false, cond_true], fun x hx => by simpa only [nextS, he, cond_false] using hx⟩)
 ·have h2 : decide ((s.l.length : Int) ≤ (s.pos : Int)) = true := by simp; omega
  have he : emptyS s n = true := by unfold emptyS; rw [h1, h2]; rfl
  repeat' (first | (simp only [go_sem, zA, zB, zC, zD, zE, zF, zG, reduceCtorEq, zH, zI, zJ, zK, zL, pin, List.length_map, h1, h2]; all_goals fail_if_success guard_target =ₛ False) | (with_reducible first | ((first | refine seqVC_stepN rfl ?_ | refine seqVC_stepG rfl (by with_unfolding_all rfl) ?_ | refine AWP.seq ?_ | refine AWP.seqR (by kernel_rfl) ?_ | refine parVC_stepN rfl ?_ | refine parVC_stepG rfl (by with_unfolding_all rfl) ?_ | refine parEVC_stepN rfl ?_ | refine parEVC_stepG rfl (by with_unfolding_all rfl) ?_ | refine genVC_stepN rfl ?_ | refine genVC_stepG rfl (by with_unfolding_all rfl) ?_); intro K hK) | ((first | refine hK _ _ _ ?_ | refine hK _ _ ?_ | refine hK _ ?_); clear hK K) | refine seqVC_nil ?_ | refine parVC_nil ?_ | refine parEVC_nil ?_ | refine genVC_nil ?_ | refine AWP.block ?_ | (refine AWP.cond (by with_unfolding_all rfl) ?_ ?_ <;> intro h <;> (try simp only [zM, zN] at h) <;> try exact absurd h (by decide)) | refine AWP.skip ?_ | refine AWP.ret ?_ | refine AWP.exit ?_ | (refine ⟨fun h => ?_, fun h => ?_⟩ <;> (try simp only [zM, zN] at h) <;> try simp only [h]) | refine AWP.parR mixed (by kernel_rfl) fun K hK => ?_ | refine ⟨(by kernel_rfl : depB _ _ _ = true), ?_⟩ | refine Or.inl ?_) | (clear hK K))
  all_goals exact ⟨by simp only [drawV, he, cond_true], fun x hx => by simpa only [nextS, he, cond_true] using hx⟩
/-- a place of a literal -/
theorem lit_get {α : Type} (f : α → List C) (l : List α) (d : α) {v : Int} (hv : 0 ≤ v ∧ v < l.length) : (l.map f)[v.toNat]? = some (f (l.getD v.toNat d)) := by
 have h : v.toNat < l.length := by omega
 simp [List.getElem?_map, h]
def atomL : List (List UInt8) := [[97], [98], [111, 107], [101, 114, 114, 111, 114]]
def atomV (s : Src) : List UInt8 := atomL.getD (drawV s 4).toNat []
theorem draw_k (k : Nat) (s : Src) (hs : s.ok) (n : Int) (hn : 1 ≤ n ∧ n ≤ 1000000) : PCBk Tryd.prog 32 [Sp k, I .i64 n] k (srcB s) (I .i64 (drawV s n)) (srcB (nextS s n)) := PCBk.mk k (draw_c s hs n hn)
theorem atomName_c (s : Src) (hs : s.ok) : PCB Tryd.prog 76 [Sp pin] [(pin, srcB s)] (S (atomV s)) [(pin, srcB (nextS s 4))] := by
 refine PCB.of_body Tryd.func76 rfl (by decide) Tryd.ntmps76 Tryd.results76 rfl rfl rfl ?_ rfl rfl
 have hv := drawV_in s (n := 4) (by omega)
 repeat' (first | (simp only [go_sem, zA, zB, zC, zD, zE, zF, zG, reduceCtorEq, zH, zI, zJ, zK, zL, pin]; all_goals fail_if_success guard_target =ₛ False) | (with_reducible first | ((first | refine seqVC_stepN rfl ?_ | refine AWP.seq ?_ | refine AWP.seqR (by kernel_rfl) ?_); intro K hK) | ((first | refine hK _ _ _ ?_ | refine hK _ _ ?_ | refine hK _ ?_); clear hK K) | refine seqVC_nil ?_ | refine AWP.block ?_ | (refine AWP.cond (by with_unfolding_all rfl) ?_ ?_ <;> intro h <;> (try simp only [zM, zN] at h) <;> try exact absurd h (by decide)) | refine AWP.skip ?_ | refine AWP.ret ?_ | refine AWP.exit ?_) | (refine ⟨1000000, _, _, _, draw_k 1000000 s hs 4 (by omega), rfl, ?_⟩) | ( refine ⟨hv.1, [.str (atomV s)], lit_get (fun x => [C.str x]) atomL [] hv, ?_⟩) | (with_reducible first | refine Or.inl ?_) | (clear hK K))
 all_goals exact fun x hx => hx
theorem atomName_k (k : Nat) (s : Src) (hs : s.ok) : PCBk Tryd.prog 76 [Sp k] k (srcB s) (S (atomV s)) (srcB (nextS s 4)) := PCBk.mk k (atomName_c s hs)
end Go.Proofs.YtogponhonjiidaaDoor
set_option linter.unusedVariables false
namespace Go.Sx
variable {P : Program} {n : Nat} {Q : Exit → AS → Prop}
def keepC (k : Nat) (c : Cell) (B : Bx) : Prop := match B.lookup k with
 | some (.cells (c' :: _)) => c' = c
 | _ => False
def FsW (fixB : Bx) (k : Nat) (c : Cell) (B : Bx) : Prop := Bx.subL fixB B ∧ keepC k c B
/-- a reading of the cell that stays -/
def atW (P : Program) (k : Nat) (o : Oper) (env : Env) : Bool := match o.op with
 | .load t x => (match ev P env 0 x with
  | some (.one (.ptr j 0)) => j == k
  | _ => false) && (match szT P t, aggT P t with
  | some _, some false => true
  | _, _ => false)
 | _ => false
/-- one operation -/
def parWOp (P : Program) (fixB : Bx) (k : Nat) (c : Cell) (o : Oper) (env : Env) (B : Bx) (K : T → Bx → Prop) : Prop :=
 match effCall P o env with
 | some (g, us) => vCallB P g us B fun r B' => FsW fixB k c B' ∧ K r B'
 | none => bif atW P k o env then K (.one c) B else pureVC P o env fixB fun t => K t B
def parWVC (P : Program) (all : List Oper) (fixB : Bx) (k : Nat) (c : Cell) : List Oper → Env → Bx → (Env → Bx → Prop) → Prop
 | [], env, B, K => K env B
 | o :: os, env, B, K => guardT all env o (parWOp P fixB k c o env B fun t B' => parWVC P all fixB k c os (putE env o.dst t) B' K) (parWVC P all fixB k c os (putE env o.dst undefT) B K)
theorem atW_sound {k : Nat} {c : Cell} {o : Oper} {env : Env} {B : Bx} (h : atW P k o env = true) (hk : keepC k c B) : OpP P o env B (.one c) := by
 unfold atW at h
 split at h
 ·rename_i t x ho
  simp only [Bool.and_eq_true] at h
  obtain ⟨h1, h2⟩ := h
  split at h1
  ·rename_i j hx
   have hj : j = k := by simpa using h1
   subst hj
   split at h2
   ·rename_i m hs ha
    unfold keepC at hk
    split at hk
    ·rename_i c' cs hb
     subst hk
     obtain ⟨u, hu, e⟩ := vLoad_sound (P := P) (B := B) (env := env) (K := fun u => u = .one c') (ty := 0) ho (by
      unfold vLoad
      rw [hs, ha, hx]
      simp only [hb, cutC, takeT, cond_false])
     rw [← e]; exact hu
    ·exact hk.elim
   ·cases h2
  ·cases h1
 ·cases h
theorem parWVC_sound (all : List Oper) (fixB : Bx) (k : Nat) (c : Cell) (K : Env → Bx → Prop) : ∀ (l : List Oper) (env : Env) (B : Bx), dstsOk n l = true → parWVC P all fixB k c l env B K → parSemF P n all (FsW fixB k c) l env B K
 | [], env, B, _, h => h
 | o :: os, env, B, hd, h => by
  simp only [dstsOk, List.all_cons, Bool.and_eq_true] at hd
  obtain ⟨⟨hd1, hd2⟩, hd3⟩ := hd
  refine guardT_map h (fun h => ?_) (fun h => ⟨hd1, parWVC_sound all fixB k c K os _ B hd3 h⟩)
  unfold parWOp at h
  split at h
  ·rename_i g us he
   unfold effCall at he
   split at he
   ·rename_i f args ts ho
    split at he
    ·rename_i g' caps us' hf hu
     cases hp : T.anyPtr (us' ++ caps) with
     | false => rw [hp] at he; simp at he
     | true =>
      rw [hp] at he
      simp only [cond_true, Option.some.injEq, Prod.mk.injEq] at he
      obtain ⟨rfl, rfl⟩ := he
      obtain ⟨u, B', h1, h2, h3⟩ := vCallB_sound (args := args.toList) (by rw [ho]) hf hu h
      exact .eff u B' (by unfold mayEff; rw [ho]) h2 h1 hd1 (parWVC_sound all fixB k c K os _ B' hd3 h3)
    ·cases he
   ·cases he
  ·cases hat : atW P k o env with
   | true =>
    rw [hat] at h
    exact .pure _ (fun B0 hB0 => atW_sound hat hB0.2) hd1 (parWVC_sound all fixB k c K os _ B hd3 h)
   | false =>
    rw [hat] at h
    obtain ⟨t, h1, h2⟩ := pureVC_sound h
    exact .pure t (fun B0 hB0 => h1.mono_B (Bx.subL_spec hB0.1)) hd1 (parWVC_sound all fixB k c K os _ B hd3 h2)
/-- THE RULE -/
theorem AWP.parW {id : Nat} {l : List Oper} {env : Env} {B : Bx} (fixB : Bx) (k : Nat) (c : Cell) (hm : P.follows .mixedOrders = true) (hl : lexOkE n l = true) (hfix : FsW fixB k c B)
  (h : ∀ K : Env → Bx → Prop, (∀ e b, Q .normal ⟨e, b⟩ → K e b) → parWVC P l fixB k c l env B K) : AWP P n (.region id l.toArray true) ⟨env, B⟩ Q := by
 simp only [lexOkE, Bool.and_eq_true] at hl
 exact AWP.region_parF (FsW fixB k c) hm hl.1.1 hl.2 hfix fun K hK => parWVC_sound l fixB k c _ l env B hl.1.2 (h _ fun e b q => hK _ q)
theorem parWVC_nil {all : List Oper} {fixB : Bx} {k : Nat} {c : Cell} {env : Env} {B : Bx} {K : Env → Bx → Prop} (h : K env B) : parWVC P all fixB k c [] env B K := h
theorem parWVC_stepN {all os : List Oper} {fixB : Bx} {k : Nat} {c : Cell} {o : Oper} {env : Env} {B : Bx} {K : Env → Bx → Prop} (hg : o.guard = none)
  (h : ∀ K' : Env → Bx → Prop, (∀ e b, parWVC P all fixB k c os e b K → K' e b) → parWOp P fixB k c o env B (fun t B' => K' (putE env o.dst t) B')) : parWVC P all fixB k c (o :: os) env B K :=
 guardT_none hg (h (fun e b => parWVC P all fixB k c os e b K) fun _ _ q => q)
end Go.Sx
set_option linter.unusedVariables false
namespace Go.Sx
variable {P : Program}
attribute [go_sem] evsH Bx.drops
theorem vCallX.mk {g : FuncId} {us : List T} {env : Env} {B : Bx} {K : T → Bx → Prop} {r : T} {B1 B1' : Bx} (h : PCX P g us B1 r B1') (h1 : Bx.subL B1 B) (h2 : nodupN (B1.map (·.1)) = true) (h3 : newNames (B1'.map (·.1)) env B = true)
  (h4 : r.inP (B1'.map (·.1)).contains = true) (h5 : bxInP (B1'.map (·.1)).contains B1' = true) (hK : K r (B1' ++ Bx.drops (B1.map (·.1)) B)) : vCallX P g us env B K :=
 ⟨r, B1, B1', h, h1, h2, h3, h4, h5, hK⟩
end Go.Sx
set_option linter.unusedSimpArgs false
set_option linter.unusedVariables false
set_option maxRecDepth 20000
set_option maxHeartbeats 16000000
namespace Go.Proofs.YtogponhonjiidaaDoor
open Go Go.Sx
open Nat renaming reduceBEq → zA, reduceBNe → zB, reduceAdd → zC, reduceSub → zD, reduceMul → zE, reduceLeDiff → zF, reduceLT → zG, reduceEqDiff → zH
open Int renaming reduceToNat → zI, reduceLE → zJ, reduceLT → zK, reduceEq → zL
open Bool renaming not_eq_true' → zM, not_eq_false' → zN
/-- the maker of texts -/
structure NamD where
 text : List UInt8
 sort : Int
def encNam (x : NamD) : List C := [.str x.text, .int .i64 x.sort]
structure CalD where
 mod : List UInt8
 name : List UInt8
 params : List Int
 res : Int
def encCal (c : CalD) : List C := [.str c.mod, .str c.name, .sl 1 (c.params.map encZ), .int .i64 c.res]
structure Gn where
 s : Src
 k : Int
structure Cst where
 calls : List CalD
 wild : Int
 many : Bool
abbrev mkB (c : Cst) (g : Gn) : Res := .cells [.ptr 1000001 0, .dat (.sl 4 (c.calls.map encCal)), .dat (.int .i64 c.wild), .dat (.bool c.many), .dat (.int .i64 g.k)]
abbrev gB (c : Cst) (g : Gn) : Bx := [(1000000, mkB c g), (1000001, srcB g.s)]
def incK (g : Gn) : Gn := { g with k := IntKind.i64.wrap (g.k + 1) }
def nxt (g : Gn) (n : Int) : Gn := { g with s := nextS g.s n }
def freshV (g : Gn) : List UInt8 := [86] ++ Lib.itoa (IntKind.i64.wrap (g.k + 1))
def smallV (g : Gn) : List UInt8 := Lib.itoa (drawV g.s 7 - 2)
theorem wrap64_in (z : Int) : -9223372036854775808 ≤ IntKind.i64.wrap z ∧ IntKind.i64.wrap z ≤ 9223372036854775807 := by rw [IntKind.wrap_i64]; omega
theorem freshV_len (g : Gn) : (freshV g).length ≤ 31 := by
 have := itoa_len (wrap64_in (g.k + 1)).1 (wrap64_in (g.k + 1)).2
 unfold freshV; rw [List.length_append, List.length_cons, List.length_nil]; omega
theorem smallV_len (g : Gn) : (smallV g).length ≤ 30 := by
 have h := drawV_in g.s (n := 7) (by omega)
 exact itoa_len (by omega) (by omega)
theorem fresh_c (c : Cst) (g : Gn) : PCB Tryd.prog 54 [Sp 1000000] (gB c g) (S (freshV g)) (gB c (incK g)) := by
 have hd := decimal_c _ (IntKind.i64.wrap (g.k + 1)) (Nat.le_refl _) (wrap64_in _).1 (wrap64_in _).2
 have hl := itoa_len (wrap64_in (g.k + 1)).1 (wrap64_in (g.k + 1)).2
 refine PCB.of_body Tryd.func54 rfl (by decide) Tryd.ntmps54 Tryd.results54 rfl rfl rfl ?_ rfl rfl
 repeat' (first | (simp only [go_sem, zA, zB, zC, zD, zE, zF, zG, reduceCtorEq, zH, zI, zJ, zK, zL, List.length_map, List.length_cons, List.length_nil]; all_goals fail_if_success guard_target =ₛ False) | (with_reducible first | ((first | refine seqVC_stepN rfl ?_ | refine AWP.seq ?_ | refine AWP.seqR (by kernel_rfl) ?_); intro K hK) | ((first | refine hK _ _ _ ?_ | refine hK _ _ ?_ | refine hK _ ?_); clear hK K) | refine seqVC_nil ?_ | refine AWP.block ?_ | (refine AWP.cond (by with_unfolding_all rfl) ?_ ?_ <;> intro h <;> (try simp only [zM, zN] at h) <;> try exact absurd h (by decide)) | refine AWP.skip ?_ | refine AWP.ret ?_ | refine AWP.exit ?_ | refine ⟨_, hd, ?_⟩ | (refine ⟨(by simp only [maxLen]; omega : _ ≤ maxLen), ?_⟩) | refine Or.inl ?_) | (clear hK K))
 all_goals exact ⟨rfl, fun x hx => hx⟩
theorem small_c (c : Cst) (g : Gn) (hg : g.s.ok) : PCB Tryd.prog 75 [Sp 1000000] (gB c g) (S (smallV g)) (gB c (nxt g 7)) := by
 have h := drawV_in g.s (n := 7) (by omega)
 have hd := decimal_c _ (drawV g.s 7 - 2) (Nat.le_refl _) (by omega) (by omega)
 have hw : IntKind.i64.wrap (drawV g.s 7 - 2) = drawV g.s 7 - 2 := wrapI _ (by omega) (by omega)
 refine PCB.of_body Tryd.func75 rfl (by decide) Tryd.ntmps75 Tryd.results75 rfl rfl rfl ?_ rfl rfl
 repeat' (first | (simp only [go_sem, zA, zB, zC, zD, zE, zF, zG, reduceCtorEq, zH, zI, zJ, zK, zL, hw]; all_goals fail_if_success guard_target =ₛ False) | (with_reducible first | ((first | refine seqVC_stepN rfl ?_ | refine AWP.seq ?_ | refine AWP.seqR (by kernel_rfl) ?_); intro K hK) | ((first | refine hK _ _ _ ?_ | refine hK _ _ ?_ | refine hK _ ?_); clear hK K) | refine seqVC_nil ?_ | refine AWP.block ?_ | (refine AWP.cond (by with_unfolding_all rfl) ?_ ?_ <;> intro h <;> (try simp only [zM, zN] at h) <;> try exact absurd h (by decide)) | refine AWP.skip ?_ | refine AWP.ret ?_ | refine AWP.exit ?_ | refine ⟨_, hd, ?_⟩) | (refine ⟨1000001, _, _, _, draw_k 1000001 g.s hg 7 (by omega), rfl, ?_⟩) | (with_reducible first | refine Or.inl ?_) | (clear hK K))
 all_goals exact ⟨rfl, fun x hx => hx⟩
theorem strs_snoc (l : List (List UInt8)) (s : List UInt8) : l.map encStr ++ [[C.str s]] = (l ++ [s]).map encStr := by rw [List.map_append]; rfl
def ofV (env : List NamD) (sort : Int) : List (List UInt8) := (env.filter fun x => decide (x.sort = sort)).map (·.text)
theorem of_c (env : List NamD) (he : env.length ≤ 1000) (sort : Int) : PC Tryd.prog 96 [.one (.dat (.sl 2 (env.map encNam))), I .i64 sort] (.one (.dat (.sl 1 ((ofV env sort).map encStr)))) := by
 refine PCB.of_body Tryd.func96 rfl (by decide) Tryd.ntmps96 Tryd.results96 rfl rfl rfl ?_ rfl rfl
 repeat' (first | (simp only [go_sem, zA, zB, zC, zD, zE, zF, zG, reduceCtorEq, zH, zI, zJ, zK, zL, List.length_map]; all_goals fail_if_success guard_target =ₛ False) | (with_reducible first | ((first | refine seqVC_stepN rfl ?_ | refine AWP.seq ?_ | refine AWP.seqR (by kernel_rfl) ?_); intro K hK) | ((first | refine hK _ _ _ ?_ | refine hK _ _ ?_ | refine hK _ ?_); clear hK K) | refine seqVC_nil ?_ | refine AWP.block ?_ | (refine AWP.cond (by with_unfolding_all rfl) ?_ ?_ <;> intro h <;> (try simp only [zM, zN] at h) <;> try exact absurd h (by decide)) | refine AWP.skip ?_ | refine AWP.ret ?_ | refine AWP.exit ?_ | refine Or.inl ?_) | (clear hK K))
 refine AWP.gh (Gh.nilrow 5 900 rfl rfl rfl (by simp [Bx.fresh, Cell.freshs, Cell.fresh])) ?_
 refine AWP.len 8 rfl fun hlen0 => ?_
 (try rw [List.length_map] at hlen0)
 refine AWP.range (S := List (List UInt8)) (env) encNam (fun k s => (10, I .i64 (k : Nat)) :: [(5, .one (.own 900 s.length))]) (fun k s => [(900, .row 1 (s.map encStr))]) [1, 8, 9] [] (fun k s => s = ofV (env.take k) sort) ([]) (by simp only [go_sem, zA, zB, zC, zD, zE, zF, zG, reduceCtorEq, zH, zI, zJ, zK, zL]; exact Gh.to [] (by repeat (first | exact trivial | refine ⟨rfl, ?_⟩ | refine ⟨by (simp only [go_sem, zA, zB, zC, zD, zE, zF, zG, reduceCtorEq, zH, zI, zJ, zK, zL, List.length_append, List.length_map, List.length_cons, List.length_nil, Nat.zero_add]) <;> rfl, ?_⟩)) (by repeat (first | exact trivial | refine ⟨rfl, ?_⟩ | refine ⟨by (simp only [go_sem, zA, zB, zC, zD, zE, zF, zG, reduceCtorEq, zH, zI, zJ, zK, zL, List.length_append, List.length_map, List.length_cons, List.length_nil, Nat.zero_add]) <;> rfl, ?_⟩)) rfl rfl rfl) ?_ ?_ ?_
 ·rfl
 ·intro k s x hlt hx hx' hbb hok
  simp only [go_sem, zA, zB, zC, zD, zE, zF, zG, reduceCtorEq, zH, zI, zJ, zK, zL]
  have hsl : s.length ≤ 1000 := by
   rw [hok]; unfold ofV
   have := List.length_filter_le (fun x : NamD => decide (x.sort = sort)) (env.take k)
   rw [List.length_map]; rw [List.length_take] at this; omega
  have hok' : ofV (env.take (k + 1)) sort = bif decide (x.sort = sort) then s ++ [x.text] else s := by
   rw [List.take_add_one, hx, hok]
   unfold ofV
   rw [List.filter_append, List.map_append]
   cases hd : decide (x.sort = sort) <;> simp [List.filter_cons, hd]
  repeat' (first | (simp only [go_sem, zA, zB, zC, zD, zE, zF, zG, reduceCtorEq, zH, zI, zJ, zK, zL, List.length_map, hbb, encNam, strs_snoc]; all_goals fail_if_success guard_target =ₛ False) | (with_reducible first | ((first | refine seqVC_stepN rfl ?_ | refine AWP.seq ?_ | refine AWP.seqR (by kernel_rfl) ?_); intro K hK) | ((first | refine hK _ _ _ ?_ | refine hK _ _ ?_ | refine hK _ ?_); clear hK K) | refine seqVC_nil ?_ | refine AWP.block ?_ | (refine AWP.cond (by with_unfolding_all rfl) ?_ ?_ <;> intro h <;> (try simp only [zM, zN] at h) <;> try exact absurd h (by decide)) | refine AWP.skip ?_ | refine AWP.ret ?_ | refine AWP.exit ?_ | refine ⟨(by omega : _ ≤ _), ?_⟩ | refine ⟨(by omega : _ ≤ _), (by omega : _ ≤ _), ?_⟩ | refine ⟨by omega, encNam x, hx', ?_⟩ | refine ⟨encNam x, hx', ?_⟩ | refine Or.inl ?_) | (clear hK K))
  all_goals rw [wrap_succ hlt hlen0, hok', h]
  ·rw [cond_true]; exact Gh.to [(900, 22)] (by repeat (first | exact trivial | refine ⟨rfl, ?_⟩ | refine ⟨by (simp only [go_sem, zA, zB, zC, zD, zE, zF, zG, reduceCtorEq, zH, zI, zJ, zK, zL, List.length_append, List.length_map, List.length_cons, List.length_nil, Nat.zero_add]) <;> rfl, ?_⟩)) (by repeat (first | exact trivial | refine ⟨rfl, ?_⟩ | refine ⟨by (simp only [go_sem, zA, zB, zC, zD, zE, zF, zG, reduceCtorEq, zH, zI, zJ, zK, zL, List.length_append, List.length_map, List.length_cons, List.length_nil, Nat.zero_add]) <;> rfl, ?_⟩)) rfl rfl rfl
  ·rw [cond_false]; exact Gh.to [(900, 900)] (by repeat (first | exact trivial | refine ⟨rfl, ?_⟩ | refine ⟨by (simp only [go_sem, zA, zB, zC, zD, zE, zF, zG, reduceCtorEq, zH, zI, zJ, zK, zL, List.length_append, List.length_map, List.length_cons, List.length_nil, Nat.zero_add]) <;> rfl, ?_⟩)) (by repeat (first | exact trivial | refine ⟨rfl, ?_⟩ | refine ⟨by (simp only [go_sem, zA, zB, zC, zD, zE, zF, zG, reduceCtorEq, zH, zI, zJ, zK, zL, List.length_append, List.length_map, List.length_cons, List.length_nil, Nat.zero_add]) <;> rfl, ?_⟩)) rfl rfl rfl
 ·intro s hbb hok
  simp only [go_sem, zA, zB, zC, zD, zE, zF, zG, reduceCtorEq, zH, zI, zJ, zK, zL]
  rw [List.take_length] at hok
  refine AWP.gh (Gh.freeze 900 rfl rfl (by simp only [go_sem, zA, zB, zC, zD, zE, zF, zG, reduceCtorEq, zH, zI, zJ, zK, zL, List.length_map]) (by simp only [go_sem, zA, zB, zC, zD, zE, zF, zG, reduceCtorEq, zH, zI, zJ, zK, zL, List.length_map])) ?_
  simp only [go_sem, zA, zB, zC, zD, zE, zF, zG, reduceCtorEq, zH, zI, zJ, zK, zL, List.length_map]
  repeat' (first | (simp only [go_sem, zA, zB, zC, zD, zE, zF, zG, reduceCtorEq, zH, zI, zJ, zK, zL, List.length_map, hbb]; all_goals fail_if_success guard_target =ₛ False) | (with_reducible first | ((first | refine seqVC_stepN rfl ?_ | refine AWP.seq ?_ | refine AWP.seqR (by kernel_rfl) ?_); intro K hK) | ((first | refine hK _ _ _ ?_ | refine hK _ _ ?_ | refine hK _ ?_); clear hK K) | refine seqVC_nil ?_ | refine AWP.block ?_ | (refine AWP.cond (by with_unfolding_all rfl) ?_ ?_ <;> intro h <;> (try simp only [zM, zN] at h) <;> try exact absurd h (by decide)) | refine AWP.skip ?_ | refine AWP.ret ?_ | refine AWP.exit ?_ | refine Or.inl ?_) | (clear hK K))
  rw [hok]
  all_goals (first | exact fun _ h => absurd h List.not_mem_nil | refine fin0 ?_)
  all_goals rfl
end Go.Proofs.YtogponhonjiidaaDoor

