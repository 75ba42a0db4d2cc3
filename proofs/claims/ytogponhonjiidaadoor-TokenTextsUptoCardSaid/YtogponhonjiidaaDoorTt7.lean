/- A part of the proof: lemmas about the walk of the program and about plain integers and lists. No conditions beyond those that each lemma states. -/
import Derived.Test.YtogponhonjiidaaDoorTt6
import Derived.Test.YtogponhonjiidaaDoorTt5
import Derived.Lib.ParseIntB
import Derived.Shelf.Strings.Prefix
import Derived.Shelf.Strings.Cut
import Derived.Shelf.Strconv.ParseIntPublic10
import Derived.Shelf.Strconv.Itoa4
import Derived.Shelf.Small.Strs
import Derived.Test.YtogponhonjiidaaDoorProg
import Derived.Shelf.Vars
import Derived.Test.YtogponhonjiidaaDoorRows
import Derived.Shelf.Bytes.BufferK
import Derived.Shelf.Bytes.String
import Derived.Test.YtogponhonjiidaaDoorTt1
import Derived.Lib.BufferKept
import Derived.BigCall
import Derived.Deep.RegionWith
import Derived.Lib.BufferOld
set_option linter.unusedSimpArgs false
set_option linter.unusedVariables false
set_option maxRecDepth 20000
set_option maxHeartbeats 16000000
namespace Go.Proofs.YtogponhonjiidaaDoor
open Go Go.Sx
open Nat renaming reduceBEq → zA, reduceBNe → zB, reduceAdd → zC, reduceSub → zD, reduceMul → zE, reduceLeDiff → zF, reduceLT → zG, reduceEqDiff → zH
open Int renaming reduceToNat → zI, reduceLE → zJ, reduceLT → zK, reduceEq → zL
open Bool renaming not_eq_true' → zM, not_eq_false' → zN
/-- the reserved words -/
def resW : List (List UInt8) := [[109, 111, 100, 117, 108, 101], [105, 109, 112, 111, 114, 116], [101, 120, 112, 111, 114, 116], [115, 105, 103], [119, 104, 101, 110], [99, 97, 115, 101], [111, 102], [101, 110, 100], [116, 114, 121], [99, 97, 116, 99, 104], [114, 97, 105, 115, 101], [97, 115, 115, 101, 114, 116], [115, 112, 97, 119, 110], [115, 101, 108, 102], [115, 101, 110, 100], [114, 101, 99, 101, 105, 118, 101], [97, 102, 116, 101, 114], [108, 101, 116], [105, 110], [102, 117, 110], [97, 112, 112, 108, 121], [112, 117, 116], [103, 101, 116], [97, 110, 100], [111, 114], [110, 111, 116], [100, 105, 118], [114, 101, 109]]
@[go_sem] theorem mp57 : mpT Tryd.prog 57 = some ([.bool false], false) := by kernel_rfl
theorem assoc_putA (k s : List UInt8) (r : List C) : ∀ es, assoc s (putA k r es) = bif decide (k = s) then some r else assoc s es
  | [] => by simp only [putA, assoc]
  | p :: es => by
    have ih := assoc_putA k s r es
    rw [putA]
    by_cases h : p.1 = k
    · rw [decide_eq_true h, cond_true]
      simp only [assoc, h]
      cases decide (k = s) <;> rfl
    · rw [decide_eq_false h, cond_false, assoc, ih, assoc]
      by_cases h2 : k = s
      · rw [decide_eq_true h2, cond_true, cond_true]
        rw [decide_eq_false (by rintro rfl; exact h h2.symm), cond_false]
      · rw [decide_eq_false h2, cond_false, cond_false]
def mapW : List (List UInt8) → List (List UInt8 × List C) → List (List UInt8 × List C)
  | [], es => es
  | k :: l, es => mapW l (putA k [.bool true] es)
theorem assoc_mapW (s : List UInt8) : ∀ l es, assoc s (mapW l es) = bif l.any (fun x => decide (x = s)) then some [.bool true] else assoc s es
  | [], es => rfl
  | k :: l, es => by
    rw [mapW, assoc_mapW s l, assoc_putA, List.any_cons]
    cases l.any _ <;> cases decide (k = s) <;> rfl
theorem reserved_c (s : List UInt8) : PC Tryd.prog 17 [S s] (Bo (resW.any fun x => decide (x = s))) := by
  have hm := assoc_mapW s resW []
  generalize (resW.any fun x => decide (x = s)) = c at hm ⊢
  simp only [resW, mapW] at hm
  refine PCB.of_body Tryd.func17 rfl (by decide) Tryd.ntmps17 Tryd.results17 rfl rfl rfl ?_ rfl rfl
  repeat' (first | (simp only [go_sem, zA, zB, zC, zD, zE, zF, zG, reduceCtorEq, zH, zI, zJ, zK, zL, hm, assoc]; all_goals fail_if_success guard_target =ₛ False) | (with_reducible first | ((first | refine seqVC_stepN rfl ?_ | refine AWP.seq ?_ | refine AWP.seqR (by kernel_rfl) ?_); intro K hK) | ((first | refine hK _ _ _ ?_ | refine hK _ _ ?_ | refine hK _ ?_); clear hK K) | refine seqVC_nil ?_ | refine AWP.block ?_ | (refine AWP.cond (by with_unfolding_all rfl) ?_ ?_ <;> intro h <;> (try simp only [zM, zN] at h) <;> try exact absurd h (by decide)) | refine AWP.skip ?_ | refine AWP.ret ?_ | refine AWP.exit ?_ | refine Or.inl ?_) | (clear hK K))
  all_goals (refine fin0 ?_; cases c <;> rfl)
theorem sepI_yes {n : Int} (h : sepI n = true) : n = 9 ∨ n = 10 ∨ n = 13 ∨ n = 32 := by simpa [sepI] using h
theorem sepI_no {n : Int} (h : sepI n = false) : decide (n = 9) = false ∧ decide (n = 10) = false ∧ decide (n = 13) = false ∧ decide (n = 32) = false := by simpa [sepI] using h
theorem byte_at {s : List UInt8} {k : Nat} (h : k < s.length) : ∃ b, s[k]? = some b := ⟨s[k], List.getElem?_eq_getElem h⟩
theorem wk64 {k n : Nat} (h : k < n) (hn : n ≤ 1000000000000) : IntKind.i64.wrap ((k : Int) + 1) = ((k + 1 : Nat) : Int) := by rw [w64 (by omega)]; rfl
/-- skip passes over separators -/
theorem wskip_c (s : List UInt8) (hs : s.length ≤ 1000000000000) (k0 : Nat) (hk0 : k0 ≤ s.length) :
    PCB Tryd.prog 36 [Scp pin] [(pin, scB s k0)] (.tup []) [(pin, scB s (skipTo s k0))] := by
  refine PCB.of_body Tryd.func36 rfl (by decide) Tryd.ntmps36 Tryd.results36 rfl rfl rfl ?_ rfl rfl
  repeat' (first | (simp only [go_sem, zA, zB, zC, zD, zE, zF, zG, reduceCtorEq, zH, zI, zJ, zK, zL, pin]; all_goals fail_if_success guard_target =ₛ False) | (with_reducible first | ((first | refine seqVC_stepN rfl ?_ | refine seqVC_stepG rfl (by with_unfolding_all rfl) ?_ | refine AWP.seq ?_ | refine AWP.seqR (by kernel_rfl) ?_ | refine parVC_stepN rfl ?_ | refine parVC_stepG rfl (by with_unfolding_all rfl) ?_ | refine parEVC_stepN rfl ?_ | refine parEVC_stepG rfl (by with_unfolding_all rfl) ?_ | refine genVC_stepN rfl ?_ | refine genVC_stepG rfl (by with_unfolding_all rfl) ?_); intro K hK) | ((first | refine hK _ _ _ ?_ | refine hK _ _ ?_ | refine hK _ ?_); clear hK K) | refine seqVC_nil ?_ | refine parVC_nil ?_ | refine parEVC_nil ?_ | refine genVC_nil ?_ | refine AWP.block ?_ | (refine AWP.cond (by with_unfolding_all rfl) ?_ ?_ <;> intro h <;> (try simp only [zM, zN] at h) <;> try exact absurd h (by decide)) | refine AWP.skip ?_ | refine AWP.ret ?_ | refine AWP.exit ?_ | (refine ⟨fun h => ?_, fun h => ?_⟩ <;> (try simp only [zM, zN] at h) <;> try simp only [h]) | refine AWP.parR mixed (by kernel_rfl) fun K hK => ?_ | refine ⟨(by kernel_rfl : depB _ _ _ = true), ?_⟩ | refine Or.inl ?_) | (clear hK K))
  refine AWP.loopF (X := Nat) (fun k => [(0, Scp 1000000)]) (fun k => [(1000000, scB s k)]) [] [] (fun k => k ≤ s.length ∧ skipTo s k0 = skipTo s k) (fun k => s.length - k) (k0) (by simp only [go_sem, zA, zB, zC, zD, zE, zF, zG, reduceCtorEq, zH, zI, zJ, zK, zL]; exact Gh.to [] (by repeat (first | exact trivial | refine ⟨rfl, ?_⟩ | refine ⟨by (simp only [go_sem, zA, zB, zC, zD, zE, zF, zG, reduceCtorEq, zH, zI, zJ, zK, zL, List.length_append, List.length_map, List.length_cons, List.length_nil, Nat.zero_add]) <;> rfl, ?_⟩)) (by repeat (first | exact trivial | refine ⟨rfl, ?_⟩ | refine ⟨by (simp only [go_sem, zA, zB, zC, zD, zE, zF, zG, reduceCtorEq, zH, zI, zJ, zK, zL, List.length_append, List.length_map, List.length_cons, List.length_nil, Nat.zero_add]) <;> rfl, ?_⟩)) rfl rfl rfl) ?_ ?_
  · exact ⟨hk0, rfl⟩
  rintro k ⟨hkl, hok⟩
  simp only [go_sem, zA, zB, zC, zD, zE, zF, zG, reduceCtorEq, zH, zI, zJ, zK, zL]
  by_cases hlt : k < s.length
  · obtain ⟨b, hb⟩ := byte_at hlt
    have hd : decide ((k : Int) < (s.length : Int)) = true := by rw [decide_eq_true_eq]; omega
    have hwk := wk64 hlt hs
    cases hz : sepI b.toNat
    · obtain ⟨h9, h10, h13, h32⟩ := sepI_no hz
      cases hc : decide ((b.toNat : Int) = 37)
      · rw [skipTo_no hb hz hc] at hok
        repeat' (first | (simp only [go_sem, zA, zB, zC, zD, zE, zF, zG, reduceCtorEq, zH, zI, zJ, zK, zL, pin, hd, hwk, h9, h10, h13, h32, hc]; all_goals fail_if_success guard_target =ₛ False) | (with_reducible first | ((first | refine seqVC_stepN rfl ?_ | refine seqVC_stepG rfl (by with_unfolding_all rfl) ?_ | refine AWP.seq ?_ | refine AWP.seqR (by kernel_rfl) ?_ | refine parVC_stepN rfl ?_ | refine parVC_stepG rfl (by with_unfolding_all rfl) ?_ | refine parEVC_stepN rfl ?_ | refine parEVC_stepG rfl (by with_unfolding_all rfl) ?_ | refine genVC_stepN rfl ?_ | refine genVC_stepG rfl (by with_unfolding_all rfl) ?_); intro K hK) | ((first | refine hK _ _ _ ?_ | refine hK _ _ ?_ | refine hK _ ?_); clear hK K) | refine seqVC_nil ?_ | refine parVC_nil ?_ | refine parEVC_nil ?_ | refine genVC_nil ?_ | refine AWP.block ?_ | (refine AWP.cond (by with_unfolding_all rfl) ?_ ?_ <;> intro h <;> (try simp only [zM, zN] at h) <;> try exact absurd h (by decide)) | refine AWP.skip ?_ | refine AWP.ret ?_ | refine AWP.exit ?_ | (refine ⟨fun h => ?_, fun h => ?_⟩ <;> (try simp only [zM, zN] at h) <;> try simp only [h]) | refine ⟨by omega, b, hb, ?_⟩ | refine AWP.parR mixed (by kernel_rfl) fun K hK => ?_ | refine ⟨(by kernel_rfl : depB _ _ _ = true), ?_⟩ | refine Or.inl ?_) | (clear hK K))
        all_goals (simp only [hok])
        all_goals (exact fun x hx => hx)
      · rw [skipTo_com hb hz hc] at hok
        repeat' (first | (simp only [go_sem, zA, zB, zC, zD, zE, zF, zG, reduceCtorEq, zH, zI, zJ, zK, zL, pin, hd, hwk, h9, h10, h13, h32, hc]; all_goals fail_if_success guard_target =ₛ False) | (with_reducible first | ((first | refine seqVC_stepN rfl ?_ | refine seqVC_stepG rfl (by with_unfolding_all rfl) ?_ | refine AWP.seq ?_ | refine AWP.seqR (by kernel_rfl) ?_ | refine parVC_stepN rfl ?_ | refine parVC_stepG rfl (by with_unfolding_all rfl) ?_ | refine parEVC_stepN rfl ?_ | refine parEVC_stepG rfl (by with_unfolding_all rfl) ?_ | refine genVC_stepN rfl ?_ | refine genVC_stepG rfl (by with_unfolding_all rfl) ?_); intro K hK) | ((first | refine hK _ _ _ ?_ | refine hK _ _ ?_ | refine hK _ ?_); clear hK K) | refine seqVC_nil ?_ | refine parVC_nil ?_ | refine parEVC_nil ?_ | refine genVC_nil ?_ | refine AWP.block ?_ | (refine AWP.cond (by with_unfolding_all rfl) ?_ ?_ <;> intro h <;> (try simp only [zM, zN] at h) <;> try exact absurd h (by decide)) | refine AWP.skip ?_ | refine AWP.ret ?_ | refine AWP.exit ?_ | (refine ⟨fun h => ?_, fun h => ?_⟩ <;> (try simp only [zM, zN] at h) <;> try simp only [h]) | refine ⟨by omega, b, hb, ?_⟩ | refine AWP.parR mixed (by kernel_rfl) fun K hK => ?_ | refine ⟨(by kernel_rfl : depB _ _ _ = true), ?_⟩ | refine Or.inl ?_) | (clear hK K))
        refine AWP.loopF (X := Nat) (fun j => [(0, Scp 1000000)]) (fun j => [(1000000, scB s j)]) [] [] (fun j => k ≤ j ∧ j < s.length ∧ toW noLf s (k + 1) = toW noLf s (j + 1)) (fun j => s.length - j) (k) (by simp only [go_sem, zA, zB, zC, zD, zE, zF, zG, reduceCtorEq, zH, zI, zJ, zK, zL]; exact Gh.to [] (by repeat (first | exact trivial | refine ⟨rfl, ?_⟩ | refine ⟨by (simp only [go_sem, zA, zB, zC, zD, zE, zF, zG, reduceCtorEq, zH, zI, zJ, zK, zL, List.length_append, List.length_map, List.length_cons, List.length_nil, Nat.zero_add]) <;> rfl, ?_⟩)) (by repeat (first | exact trivial | refine ⟨rfl, ?_⟩ | refine ⟨by (simp only [go_sem, zA, zB, zC, zD, zE, zF, zG, reduceCtorEq, zH, zI, zJ, zK, zL, List.length_append, List.length_map, List.length_cons, List.length_nil, Nat.zero_add]) <;> rfl, ?_⟩)) rfl rfl rfl) ?_ ?_
        · exact ⟨Nat.le_refl _, hlt, rfl⟩
        rintro j ⟨hkj, hjl, hoj⟩
        simp only [go_sem, zA, zB, zC, zD, zE, zF, zG, reduceCtorEq, zH, zI, zJ, zK, zL]
        have hwj := wk64 hjl hs
        by_cases hj1 : j + 1 < s.length
        · obtain ⟨c, hcj⟩ := byte_at hj1
          have hdj : decide (((j + 1 : Nat) : Int) < (s.length : Int)) = true := by rw [decide_eq_true_eq]; omega
          cases h0 : decide ((c.toNat : Int) = 10)
          · have hn : noLf c.toNat = true := by simp only [noLf, h0, Bool.not_false]
            rw [toW_yes hcj hn] at hoj
            repeat' (first | (simp only [go_sem, zA, zB, zC, zD, zE, zF, zG, reduceCtorEq, zH, zI, zJ, zK, zL, pin, hwj, hdj, h0]; all_goals fail_if_success guard_target =ₛ False) | (with_reducible first | ((first | refine seqVC_stepN rfl ?_ | refine seqVC_stepG rfl (by with_unfolding_all rfl) ?_ | refine AWP.seq ?_ | refine AWP.seqR (by kernel_rfl) ?_ | refine parVC_stepN rfl ?_ | refine parVC_stepG rfl (by with_unfolding_all rfl) ?_ | refine parEVC_stepN rfl ?_ | refine parEVC_stepG rfl (by with_unfolding_all rfl) ?_ | refine genVC_stepN rfl ?_ | refine genVC_stepG rfl (by with_unfolding_all rfl) ?_); intro K hK) | ((first | refine hK _ _ _ ?_ | refine hK _ _ ?_ | refine hK _ ?_); clear hK K) | refine seqVC_nil ?_ | refine parVC_nil ?_ | refine parEVC_nil ?_ | refine genVC_nil ?_ | refine AWP.block ?_ | (refine AWP.cond (by with_unfolding_all rfl) ?_ ?_ <;> intro h <;> (try simp only [zM, zN] at h) <;> try exact absurd h (by decide)) | refine AWP.skip ?_ | refine AWP.ret ?_ | refine AWP.exit ?_ | (refine ⟨fun h => ?_, fun h => ?_⟩ <;> (try simp only [zM, zN] at h) <;> try simp only [h]) | refine ⟨by omega, c, hcj, ?_⟩ | refine AWP.parR mixed (by kernel_rfl) fun K hK => ?_ | refine ⟨(by kernel_rfl : depB _ _ _ = true), ?_⟩ | refine Or.inl ?_) | (clear hK K))
            all_goals (refine ⟨j + 1, by first | omega | (simp only; omega), ⟨by omega, by omega, hoj⟩, Gh.to [] (by repeat (first | exact trivial | refine ⟨rfl, ?_⟩ | refine ⟨by (simp only [go_sem, zA, zB, zC, zD, zE, zF, zG, reduceCtorEq, zH, zI, zJ, zK, zL, List.length_append, List.length_map, List.length_cons, List.length_nil, Nat.zero_add]) <;> rfl, ?_⟩)) (by repeat (first | exact trivial | refine ⟨rfl, ?_⟩ | refine ⟨by (simp only [go_sem, zA, zB, zC, zD, zE, zF, zG, reduceCtorEq, zH, zI, zJ, zK, zL, List.length_append, List.length_map, List.length_cons, List.length_nil, Nat.zero_add]) <;> rfl, ?_⟩)) rfl rfl rfl⟩)
          · have hn : noLf c.toNat = false := by simp only [noLf, h0, Bool.not_true]
            rw [toW_no hcj hn] at hoj
            repeat' (first | (simp only [go_sem, zA, zB, zC, zD, zE, zF, zG, reduceCtorEq, zH, zI, zJ, zK, zL, pin, hwj, hdj, h0]; all_goals fail_if_success guard_target =ₛ False) | (with_reducible first | ((first | refine seqVC_stepN rfl ?_ | refine seqVC_stepG rfl (by with_unfolding_all rfl) ?_ | refine AWP.seq ?_ | refine AWP.seqR (by kernel_rfl) ?_ | refine parVC_stepN rfl ?_ | refine parVC_stepG rfl (by with_unfolding_all rfl) ?_ | refine parEVC_stepN rfl ?_ | refine parEVC_stepG rfl (by with_unfolding_all rfl) ?_ | refine genVC_stepN rfl ?_ | refine genVC_stepG rfl (by with_unfolding_all rfl) ?_); intro K hK) | ((first | refine hK _ _ _ ?_ | refine hK _ _ ?_ | refine hK _ ?_); clear hK K) | refine seqVC_nil ?_ | refine parVC_nil ?_ | refine parEVC_nil ?_ | refine genVC_nil ?_ | refine AWP.block ?_ | (refine AWP.cond (by with_unfolding_all rfl) ?_ ?_ <;> intro h <;> (try simp only [zM, zN] at h) <;> try exact absurd h (by decide)) | refine AWP.skip ?_ | refine AWP.ret ?_ | refine AWP.exit ?_ | (refine ⟨fun h => ?_, fun h => ?_⟩ <;> (try simp only [zM, zN] at h) <;> try simp only [h]) | refine ⟨by omega, c, hcj, ?_⟩ | refine AWP.parR mixed (by kernel_rfl) fun K hK => ?_ | refine ⟨(by kernel_rfl : depB _ _ _ = true), ?_⟩ | refine Or.inl ?_) | (clear hK K))
            all_goals (refine ⟨j + 1, by first | omega | (simp only; omega), ⟨by omega, by rw [hok, hoj]⟩, Gh.to [] (by repeat (first | exact trivial | refine ⟨rfl, ?_⟩ | refine ⟨by (simp only [go_sem, zA, zB, zC, zD, zE, zF, zG, reduceCtorEq, zH, zI, zJ, zK, zL, List.length_append, List.length_map, List.length_cons, List.length_nil, Nat.zero_add]) <;> rfl, ?_⟩)) (by repeat (first | exact trivial | refine ⟨rfl, ?_⟩ | refine ⟨by (simp only [go_sem, zA, zB, zC, zD, zE, zF, zG, reduceCtorEq, zH, zI, zJ, zK, zL, List.length_append, List.length_map, List.length_cons, List.length_nil, Nat.zero_add]) <;> rfl, ?_⟩)) rfl rfl rfl⟩)
        · have hdj : decide (((j + 1 : Nat) : Int) < (s.length : Int)) = false := by rw [decide_eq_false_iff_not]; omega
          rw [toW_end (s := s) (k := j + 1) (by omega)] at hoj
          repeat' (first | (simp only [go_sem, zA, zB, zC, zD, zE, zF, zG, reduceCtorEq, zH, zI, zJ, zK, zL, pin, hwj, hdj]; all_goals fail_if_success guard_target =ₛ False) | (with_reducible first | ((first | refine seqVC_stepN rfl ?_ | refine seqVC_stepG rfl (by with_unfolding_all rfl) ?_ | refine AWP.seq ?_ | refine AWP.seqR (by kernel_rfl) ?_ | refine parVC_stepN rfl ?_ | refine parVC_stepG rfl (by with_unfolding_all rfl) ?_ | refine parEVC_stepN rfl ?_ | refine parEVC_stepG rfl (by with_unfolding_all rfl) ?_ | refine genVC_stepN rfl ?_ | refine genVC_stepG rfl (by with_unfolding_all rfl) ?_); intro K hK) | ((first | refine hK _ _ _ ?_ | refine hK _ _ ?_ | refine hK _ ?_); clear hK K) | refine seqVC_nil ?_ | refine parVC_nil ?_ | refine parEVC_nil ?_ | refine genVC_nil ?_ | refine AWP.block ?_ | (refine AWP.cond (by with_unfolding_all rfl) ?_ ?_ <;> intro h <;> (try simp only [zM, zN] at h) <;> try exact absurd h (by decide)) | refine AWP.skip ?_ | refine AWP.ret ?_ | refine AWP.exit ?_ | (refine ⟨fun h => ?_, fun h => ?_⟩ <;> (try simp only [zM, zN] at h) <;> try simp only [h]) | refine AWP.parR mixed (by kernel_rfl) fun K hK => ?_ | refine ⟨(by kernel_rfl : depB _ _ _ = true), ?_⟩ | refine Or.inl ?_) | (clear hK K))
          all_goals (refine ⟨j + 1, by first | omega | (simp only; omega), ⟨by omega, by rw [hok, hoj]⟩, Gh.to [] (by repeat (first | exact trivial | refine ⟨rfl, ?_⟩ | refine ⟨by (simp only [go_sem, zA, zB, zC, zD, zE, zF, zG, reduceCtorEq, zH, zI, zJ, zK, zL, List.length_append, List.length_map, List.length_cons, List.length_nil, Nat.zero_add]) <;> rfl, ?_⟩)) (by repeat (first | exact trivial | refine ⟨rfl, ?_⟩ | refine ⟨by (simp only [go_sem, zA, zB, zC, zD, zE, zF, zG, reduceCtorEq, zH, zI, zJ, zK, zL, List.length_append, List.length_map, List.length_cons, List.length_nil, Nat.zero_add]) <;> rfl, ?_⟩)) rfl rfl rfl⟩)
    · rw [skipTo_sep hb hz] at hok
      rcases sepI_yes hz with h4 | h4 | h4 | h4
      all_goals
        repeat' (first | (simp only [go_sem, zA, zB, zC, zD, zE, zF, zG, reduceCtorEq, zH, zI, zJ, zK, zL, pin, hd, hwk, h4]; all_goals fail_if_success guard_target =ₛ False) | (with_reducible first | ((first | refine seqVC_stepN rfl ?_ | refine seqVC_stepG rfl (by with_unfolding_all rfl) ?_ | refine AWP.seq ?_ | refine AWP.seqR (by kernel_rfl) ?_ | refine parVC_stepN rfl ?_ | refine parVC_stepG rfl (by with_unfolding_all rfl) ?_ | refine parEVC_stepN rfl ?_ | refine parEVC_stepG rfl (by with_unfolding_all rfl) ?_ | refine genVC_stepN rfl ?_ | refine genVC_stepG rfl (by with_unfolding_all rfl) ?_); intro K hK) | ((first | refine hK _ _ _ ?_ | refine hK _ _ ?_ | refine hK _ ?_); clear hK K) | refine seqVC_nil ?_ | refine parVC_nil ?_ | refine parEVC_nil ?_ | refine genVC_nil ?_ | refine AWP.block ?_ | (refine AWP.cond (by with_unfolding_all rfl) ?_ ?_ <;> intro h <;> (try simp only [zM, zN] at h) <;> try exact absurd h (by decide)) | refine AWP.skip ?_ | refine AWP.ret ?_ | refine AWP.exit ?_ | (refine ⟨fun h => ?_, fun h => ?_⟩ <;> (try simp only [zM, zN] at h) <;> try simp only [h]) | refine ⟨by omega, b, hb, ?_⟩ | refine AWP.parR mixed (by kernel_rfl) fun K hK => ?_ | refine ⟨(by kernel_rfl : depB _ _ _ = true), ?_⟩ | refine Or.inl ?_) | (clear hK K))
        all_goals (refine ⟨k + 1, by first | omega | (simp only; omega), ⟨by omega, hok⟩, Gh.to [] (by repeat (first | exact trivial | refine ⟨rfl, ?_⟩ | refine ⟨by (simp only [go_sem, zA, zB, zC, zD, zE, zF, zG, reduceCtorEq, zH, zI, zJ, zK, zL, List.length_append, List.length_map, List.length_cons, List.length_nil, Nat.zero_add]) <;> rfl, ?_⟩)) (by repeat (first | exact trivial | refine ⟨rfl, ?_⟩ | refine ⟨by (simp only [go_sem, zA, zB, zC, zD, zE, zF, zG, reduceCtorEq, zH, zI, zJ, zK, zL, List.length_append, List.length_map, List.length_cons, List.length_nil, Nat.zero_add]) <;> rfl, ?_⟩)) rfl rfl rfl⟩)
  · have hd : decide ((k : Int) < (s.length : Int)) = false := by rw [decide_eq_false_iff_not]; omega
    rw [skipTo_end (s := s) (k := k) (by omega)] at hok
    repeat' (first | (simp only [go_sem, zA, zB, zC, zD, zE, zF, zG, reduceCtorEq, zH, zI, zJ, zK, zL, pin, hd]; all_goals fail_if_success guard_target =ₛ False) | (with_reducible first | ((first | refine seqVC_stepN rfl ?_ | refine seqVC_stepG rfl (by with_unfolding_all rfl) ?_ | refine AWP.seq ?_ | refine AWP.seqR (by kernel_rfl) ?_ | refine parVC_stepN rfl ?_ | refine parVC_stepG rfl (by with_unfolding_all rfl) ?_ | refine parEVC_stepN rfl ?_ | refine parEVC_stepG rfl (by with_unfolding_all rfl) ?_ | refine genVC_stepN rfl ?_ | refine genVC_stepG rfl (by with_unfolding_all rfl) ?_); intro K hK) | ((first | refine hK _ _ _ ?_ | refine hK _ _ ?_ | refine hK _ ?_); clear hK K) | refine seqVC_nil ?_ | refine parVC_nil ?_ | refine parEVC_nil ?_ | refine genVC_nil ?_ | refine AWP.block ?_ | (refine AWP.cond (by with_unfolding_all rfl) ?_ ?_ <;> intro h <;> (try simp only [zM, zN] at h) <;> try exact absurd h (by decide)) | refine AWP.skip ?_ | refine AWP.ret ?_ | refine AWP.exit ?_ | (refine ⟨fun h => ?_, fun h => ?_⟩ <;> (try simp only [zM, zN] at h) <;> try simp only [h]) | refine AWP.parR mixed (by kernel_rfl) fun K hK => ?_ | refine ⟨(by kernel_rfl : depB _ _ _ = true), ?_⟩ | refine Or.inl ?_) | (clear hK K))
    all_goals (simp only [hok])
    all_goals (exact fun x hx => hx)
end Go.Proofs.YtogponhonjiidaaDoor
set_option linter.unusedSimpArgs false
set_option linter.unusedVariables false
set_option maxRecDepth 20000
set_option maxHeartbeats 400000
namespace Go.Proofs.YtogponhonjiidaaDoor
open Go Go.Sx
open Nat renaming reduceBEq → zA, reduceBNe → zB, reduceAdd → zC, reduceSub → zD, reduceMul → zE, reduceLeDiff → zF, reduceLT → zG, reduceEqDiff → zH
open Int renaming reduceToNat → zI, reduceLE → zJ, reduceLT → zK, reduceEq → zL
open Bool renaming not_eq_true' → zM, not_eq_false' → zN
/-- the number that digits spell, after acc -/
@[irreducible] def dval (b : UInt8) : Nat := b.toNat - 48
theorem dval_eq (b : UInt8) : dval b = b.toNat - 48 := by unfold dval; exact Eq.refl _
def decA (acc : Nat) : List UInt8 → Nat
  | [] => acc
  | b :: l => decA (acc * 10 + dval b) l
theorem decA_ge (l : List UInt8) : ∀ acc, acc ≤ decA acc l := by
  induction l with
  | nil => exact fun _ => Nat.le_refl _
  | cons b l ih => exact fun acc => Nat.le_trans (by omega) (ih _)
/-- all are digits -/
def allDig (l : List UInt8) : Prop := ∀ b ∈ l, digI b.toNat = true
theorem dig_bd {b : UInt8} (h : digI b.toNat = true) : 48 ≤ b.toNat ∧ b.toNat ≤ 57 := by
  simp only [digI, Bool.and_eq_true, decide_eq_true_eq] at h; omega
theorem pu_big {M acc : Nat} {c : UInt8} {r : List UInt8} (h : 48 ≤ c.toNat ∧ c.toNat ≤ 57) (h3 : 1844674407370955162 ≤ acc) : Lib.parseUintM M acc (c :: r) = .range := by
  simp only [Lib.parseUintM, h, and_self, if_true, h3]
theorem pu_over {M acc : Nat} {c : UInt8} {r : List UInt8} (h : 48 ≤ c.toNat ∧ c.toNat ≤ 57) (h3 : ¬ 1844674407370955162 ≤ acc) (h4 : M < acc * 10 + (c.toNat - 48)) : Lib.parseUintM M acc (c :: r) = .range := by
  simp only [Lib.parseUintM, h, and_self, if_true, h3, if_false, h4]
theorem pu_step {M acc : Nat} {c : UInt8} {r : List UInt8} (h : 48 ≤ c.toNat ∧ c.toNat ≤ 57) (h3 : ¬ 1844674407370955162 ≤ acc) (h4 : ¬ M < acc * 10 + (c.toNat - 48)) : Lib.parseUintM M acc (c :: r) = Lib.parseUintM M (acc * 10 + (c.toNat - 48)) r := by
  simp only [Lib.parseUintM, h, and_self, if_true, h3, if_false, h4]
theorem decA_cons (acc : Nat) (b : UInt8) (l : List UInt8) : decA acc (b :: l) = decA (acc * 10 + (b.toNat - 48)) l := by rw [decA, dval_eq]
theorem pu_aux {M acc x D : Nat} (hM : M < 18446744073709551620) (h3 : 1844674407370955162 ≤ acc) (h : acc * 10 ≤ x) (hg : x ≤ D) : M < D := by omega
theorem parseUint_ok {M : Nat} (hM : M < 18446744073709551620) : ∀ (l : List UInt8) (acc : Nat), allDig l → acc ≤ M → decA acc l ≤ M → Lib.parseUintM M acc l = .ok (decA acc l)
  | [], acc, _, _, _ => rfl
  | b :: l, acc, hd, hacc, h => by
    have hb := dig_bd (hd b List.mem_cons_self)
    have hge := decA_ge l (acc * 10 + (b.toNat - 48))
    have hle : acc * 10 ≤ acc * 10 + (b.toNat - 48) := Nat.le_add_right _ _
    rw [decA_cons] at h ⊢
    have h3 : ¬ 1844674407370955162 ≤ acc := fun h3 => absurd h (Nat.not_le.2 (pu_aux hM h3 hle hge))
    have h4 : ¬ M < acc * 10 + (b.toNat - 48) := Nat.not_lt.2 (Nat.le_trans hge h)
    rw [pu_step hb h3 h4]
    exact parseUint_ok hM l _ (fun x hx => hd x (List.mem_cons_of_mem _ hx)) (Nat.le_trans hge h) h
theorem parseUint_bad {M : Nat} (hM : M < 18446744073709551620) : ∀ (l : List UInt8) (acc : Nat), allDig l → acc ≤ M → M < decA acc l → Lib.parseUintM M acc l = .range
  | [], acc, _, h, h2 => absurd h (Nat.not_le.2 h2)
  | b :: l, acc, hd, hacc, h => by
    have hb := dig_bd (hd b List.mem_cons_self)
    rw [decA_cons] at h
    by_cases h3 : 1844674407370955162 ≤ acc
    · exact pu_big hb h3
    · by_cases h4 : M < acc * 10 + (b.toNat - 48)
      · exact pu_over hb h3 h4
      · rw [pu_step hb h3 h4]
        exact parseUint_bad hM l _ (fun x hx => hd x (List.mem_cons_of_mem _ hx)) (Nat.not_lt.1 h4) h
/-- a number: what it is, and the code of the answer (5: a zero too many, 2: too great) -/
def numM (neg : Bool) (d : List UInt8) : Int × Int :=
  bif decide (d.head? = some 48) && (decide (1 < d.length) || neg) then (0, 5)
  else bif neg then (bif decide (decA 0 d ≤ 9223372036854775808) then (-(decA 0 d : Int), 0) else (0, 2))
  else (bif decide (decA 0 d < 9223372036854775808) then ((decA 0 d : Int), 0) else (0, 2))
theorem parseUintB_num {d : List UInt8} (hd : allDig d) (hne : d ≠ []) : (decA 0 d ≤ 18446744073709551615 → Lib.parseUintB 64 d = .ok (decA 0 d)) ∧ (18446744073709551615 < decA 0 d → Lib.parseUintB 64 d = .range) := by
  have e : Lib.parseUintB 64 d = Lib.parseUintM 18446744073709551615 0 d := if_neg hne
  rw [e]
  exact ⟨fun h1 => parseUint_ok (by decide) d 0 hd (Nat.zero_le _) h1, fun h1 => parseUint_bad (by decide) d 0 hd (Nat.zero_le _) h1⟩
/-- ParseInt at digits, at a minus and digits -/
theorem parseInt_pos {d : List UInt8} (hd : allDig d) (hne : d ≠ []) : (decA 0 d < 9223372036854775808 → Lib.parseIntB 64 d = .ok (decA 0 d : Int)) ∧ (9223372036854775808 ≤ decA 0 d → Lib.parseIntB 64 d = .range) := by
  obtain ⟨h1, h2⟩ := parseUintB_num hd hne
  cases d with
  | nil => exact absurd rfl hne
  | cons c r =>
    obtain ⟨h3, h4⟩ := dig_bd (hd c List.mem_cons_self)
    have hc1 : ¬ (c.toNat = 43 ∨ c.toNat = 45) := by omega
    have hc2 : ¬ c.toNat = 45 := by omega
    generalize decA 0 (c :: r) = u at h1 h2 ⊢
    unfold Lib.parseIntB
    simp only []
    rw [if_neg hc1]
    constructor
    · intro h
      rw [h1 (by omega)]
      simp only []
      rw [if_neg (fun k => absurd k.2 (Nat.not_le.2 h)), if_neg (fun k => hc2 k.1), if_neg hc2]
    · intro h
      by_cases h6 : u ≤ 18446744073709551615
      · rw [h1 h6]
        simp only []
        rw [if_pos ⟨hc2, h⟩]
      · rw [h2 (by omega)]
theorem parseInt_neg {d : List UInt8} (hd : allDig d) (hne : d ≠ []) : (decA 0 d ≤ 9223372036854775808 → Lib.parseIntB 64 (45 :: d) = .ok (-(decA 0 d : Int))) ∧ (9223372036854775808 < decA 0 d → Lib.parseIntB 64 (45 :: d) = .range) := by
  obtain ⟨h1, h2⟩ := parseUintB_num hd hne
  have hc1 : (45 : UInt8).toNat = 43 ∨ (45 : UInt8).toNat = 45 := .inr rfl
  have hc2 : (45 : UInt8).toNat = 45 := rfl
  generalize decA 0 d = u at h1 h2 ⊢
  unfold Lib.parseIntB
  simp only []
  rw [if_pos hc1]
  constructor
  · intro h
    rw [h1 (by omega)]
    simp only []
    rw [if_neg (fun k => k.1 hc2), if_neg (fun k => absurd k.2 (Nat.not_lt.2 h)), if_pos hc2]
  · intro h
    by_cases h6 : u ≤ 18446744073709551615
    · rw [h1 h6]
      simp only []
      rw [if_neg (fun k => k.1 hc2), if_pos ⟨hc2, h⟩]
    · rw [h2 (by omega)]
end Go.Proofs.YtogponhonjiidaaDoor
set_option maxRecDepth 100000
namespace Go.Proofs
open Go.Shelf
def Tryd.hasPrefixL_ren : Go.Shelf.Ren := ⟨fun | 99 => 86 | 206 => 102 | n => n, fun | 9 => 9 | 4 => 4 | 3 => 3 | n => n, fun | n => n⟩
theorem Tryd.hasPrefixL : Go.Proofs.Lays.n99 Tryd.prog Tryd.hasPrefixL_ren := {
  mixed := by kernel_rfl,
  f99 := Tryd.func86.trans (congrArg some (by kernel_rfl)),
  f206 := Tryd.func102.trans (congrArg some (by kernel_rfl)),
  t3 := Tryd.underlying3,
  a3 := Tryd.isAgg3,
  z3 := Tryd.sizeOf3,
  v3 := Tryd.zeroValue3,
  t4 := Tryd.underlying4,
  a4 := Tryd.isAgg4,
  z4 := Tryd.sizeOf4,
  v4 := Tryd.zeroValue4,
  t9 := Tryd.underlying9,
  a9 := Tryd.isAgg9,
  z9 := Tryd.sizeOf9,
  v9 := Tryd.zeroValue9 }
def Tryd.trimPrefixL_ren : Go.Shelf.Ren := ⟨fun | 101 => 82 | 208 => 97 | 206 => 102 | n => n, fun | 9 => 9 | 4 => 4 | 3 => 3 | n => n, fun | n => n⟩
theorem Tryd.trimPrefixL : Go.Proofs.Lays.n101 Tryd.prog Tryd.trimPrefixL_ren := {
  mixed := by kernel_rfl,
  f101 := Tryd.func82.trans (congrArg some (by kernel_rfl)),
  f206 := Tryd.func102.trans (congrArg some (by kernel_rfl)),
  f208 := Tryd.func97.trans (congrArg some (by kernel_rfl)),
  t3 := Tryd.underlying3,
  a3 := Tryd.isAgg3,
  z3 := Tryd.sizeOf3,
  v3 := Tryd.zeroValue3,
  t4 := Tryd.underlying4,
  a4 := Tryd.isAgg4,
  z4 := Tryd.sizeOf4,
  v4 := Tryd.zeroValue4,
  t9 := Tryd.underlying9,
  a9 := Tryd.isAgg9,
  z9 := Tryd.sizeOf9,
  v9 := Tryd.zeroValue9 }
def Tryd.parseIntL_ren : Go.Shelf.Ren := ⟨fun | 174 => 83 | 247 => 98 | 245 => 99 | 287 => 111 | 279 => 112 | 280 => 113 | 281 => 114 | 282 => 115 | 321 => 121 | 322 => 122 | 316 => 123 | 171 => 125 | 205 => 124 | 243 => 130 | 246 => 68 | 283 => 87 | 284 => 88 | 285 => 89 | 286 => 90 | 129 => 104 | 317 => 103 | 318 => 105 | 319 => 106 | 320 => 107 | 337 => 118 | 338 => 119 | n => n, fun | 9 => 9 | 3 => 3 | 2 => 2 | 75 => 82 | 85 => 112 | 4 => 4 | 167 => 141 | 5 => 5 | 53 => 107 | 175 => 142 | 46 => 36 | 168 => 144 | 37 => 40 | 0 => 0 | 210 => 151 | 21 => 21 | 127 => 106 | 145 => 157 | 143 => 155 | 171 => 119 | 173 => 122 | 212 => 134 | 51 => 135 | 20 => 20 | 213 => 136 | 232 => 153 | 233 => 154 | 80 => 85 | n => n, fun | 15 => 4 | 16 => 5 | 17 => 1 | 18 => 6 | 19 => 7 | n => n⟩
theorem Tryd.parseIntL : Go.Proofs.LaysC.n174 Tryd.prog Tryd.parseIntL_ren := {
  mixed := by kernel_rfl,
  f129 := Tryd.func104.trans (congrArg some (by kernel_rfl)),
  f171 := Tryd.func125.trans (congrArg some (by kernel_rfl)),
  f174 := Tryd.func83.trans (congrArg some (by kernel_rfl)),
  f205 := Tryd.func124.trans (congrArg some (by kernel_rfl)),
  f243 := Tryd.func130.trans (congrArg some (by kernel_rfl)),
  f245 := Tryd.func99.trans (congrArg some (by kernel_rfl)),
  f246 := Tryd.func68.trans (congrArg some (by kernel_rfl)),
  f247 := Tryd.func98.trans (congrArg some (by kernel_rfl)),
  f279 := Tryd.func112.trans (congrArg some (by kernel_rfl)),
  f280 := Tryd.func113.trans (congrArg some (by kernel_rfl)),
  f281 := Tryd.func114.trans (congrArg some (by kernel_rfl)),
  f282 := Tryd.func115.trans (congrArg some (by kernel_rfl)),
  f283 := Tryd.func87.trans (congrArg some (by kernel_rfl)),
  f284 := Tryd.func88.trans (congrArg some (by kernel_rfl)),
  f285 := Tryd.func89.trans (congrArg some (by kernel_rfl)),
  f286 := Tryd.func90.trans (congrArg some (by kernel_rfl)),
  f287 := Tryd.func111.trans (congrArg some (by kernel_rfl)),
  f316 := Tryd.func123.trans (congrArg some (by kernel_rfl)),
  f317 := Tryd.func103.trans (congrArg some (by kernel_rfl)),
  f318 := Tryd.func105.trans (congrArg some (by kernel_rfl)),
  f319 := Tryd.func106.trans (congrArg some (by kernel_rfl)),
  f320 := Tryd.func107.trans (congrArg some (by kernel_rfl)),
  f321 := Tryd.func121.trans (congrArg some (by kernel_rfl)),
  f322 := Tryd.func122.trans (congrArg some (by kernel_rfl)),
  f337 := Tryd.func118.trans (congrArg some (by kernel_rfl)),
  f338 := Tryd.func119.trans (congrArg some (by kernel_rfl)),
  t0 := Tryd.underlying0,
  a0 := Tryd.isAgg0,
  z0 := Tryd.sizeOf0,
  v0 := Tryd.zeroValue0,
  t2 := Tryd.underlying2,
  a2 := Tryd.isAgg2,
  z2 := Tryd.sizeOf2,
  v2 := Tryd.zeroValue2,
  t3 := Tryd.underlying3,
  a3 := Tryd.isAgg3,
  z3 := Tryd.sizeOf3,
  v3 := Tryd.zeroValue3,
  t4 := Tryd.underlying4,
  a4 := Tryd.isAgg4,
  z4 := Tryd.sizeOf4,
  v4 := Tryd.zeroValue4,
  t5 := Tryd.underlying5,
  a5 := Tryd.isAgg5,
  z5 := Tryd.sizeOf5,
  v5 := Tryd.zeroValue5,
  t9 := Tryd.underlying9,
  a9 := Tryd.isAgg9,
  z9 := Tryd.sizeOf9,
  v9 := Tryd.zeroValue9,
  t20 := Tryd.underlying20,
  a20 := Tryd.isAgg20,
  z20 := Tryd.sizeOf20,
  v20 := Tryd.zeroValue20,
  t21 := Tryd.underlying21,
  a21 := Tryd.isAgg21,
  z21 := Tryd.sizeOf21,
  v21 := Tryd.zeroValue21,
  t37 := Tryd.underlying40,
  a37 := Tryd.isAgg40,
  z37 := Tryd.sizeOf40,
  v37 := Tryd.zeroValue40,
  t46 := Tryd.underlying36,
  a46 := Tryd.isAgg36,
  z46 := Tryd.sizeOf36,
  v46 := Tryd.zeroValue36,
  t51 := Tryd.underlying135,
  a51 := Tryd.isAgg135,
  z51 := Tryd.sizeOf135,
  v51 := Tryd.zeroValue135,
  t53 := Tryd.underlying107,
  a53 := Tryd.isAgg107,
  z53 := Tryd.sizeOf107,
  v53 := Tryd.zeroValue107,
  t75 := Tryd.underlying82,
  a75 := Tryd.isAgg82,
  z75 := Tryd.sizeOf82,
  v75 := Tryd.zeroValue82,
  t85 := Tryd.underlying112,
  a85 := Tryd.isAgg112,
  z85 := Tryd.sizeOf112,
  v85 := Tryd.zeroValue112,
  t127 := Tryd.underlying106,
  a127 := Tryd.isAgg106,
  z127 := Tryd.sizeOf106,
  v127 := Tryd.zeroValue106,
  t143 := Tryd.underlying155,
  a143 := Tryd.isAgg155,
  z143 := Tryd.sizeOf155,
  v143 := Tryd.zeroValue155,
  t145 := Tryd.underlying157,
  a145 := Tryd.isAgg157,
  z145 := Tryd.sizeOf157,
  v145 := Tryd.zeroValue157,
  t167 := Tryd.underlying141,
  a167 := Tryd.isAgg141,
  z167 := Tryd.sizeOf141,
  v167 := Tryd.zeroValue141,
  t168 := Tryd.underlying144,
  a168 := Tryd.isAgg144,
  z168 := Tryd.sizeOf144,
  v168 := Tryd.zeroValue144,
  t171 := Tryd.underlying119,
  a171 := Tryd.isAgg119,
  z171 := Tryd.sizeOf119,
  v171 := Tryd.zeroValue119,
  t173 := Tryd.underlying122,
  a173 := Tryd.isAgg122,
  z173 := Tryd.sizeOf122,
  v173 := Tryd.zeroValue122,
  t175 := Tryd.underlying142,
  a175 := Tryd.isAgg142,
  z175 := Tryd.sizeOf142,
  v175 := Tryd.zeroValue142,
  t210 := Tryd.underlying151,
  a210 := Tryd.isAgg151,
  z210 := Tryd.sizeOf151,
  v210 := Tryd.zeroValue151,
  t212 := Tryd.underlying134,
  a212 := Tryd.isAgg134,
  z212 := Tryd.sizeOf134,
  v212 := Tryd.zeroValue134,
  t213 := Tryd.underlying136,
  a213 := Tryd.isAgg136,
  z213 := Tryd.sizeOf136,
  t232 := Tryd.underlying153,
  a232 := Tryd.isAgg153,
  z232 := Tryd.sizeOf153,
  v232 := Tryd.zeroValue153,
  t233 := Tryd.underlying154,
  a233 := Tryd.isAgg154,
  z233 := Tryd.sizeOf154,
  v233 := Tryd.zeroValue154,
  g15 := by kernel_rfl,
  g16 := by kernel_rfl,
  g17 := by kernel_rfl,
  g18 := by kernel_rfl,
  g19 := by kernel_rfl,
  t80 := Tryd.underlying85,
  a80 := Tryd.isAgg85,
  z80 := Tryd.sizeOf85,
  v80 := Tryd.zeroValue85,
  i0 := by kernel_rfl,
  i2 := by kernel_rfl,
  i3 := by kernel_rfl,
  i4 := by kernel_rfl,
  i5 := by kernel_rfl,
  i9 := by kernel_rfl,
  i20 := by kernel_rfl,
  i21 := by kernel_rfl,
  i37 := by kernel_rfl,
  i46 := by kernel_rfl,
  i51 := by kernel_rfl,
  i53 := by kernel_rfl,
  i75 := by kernel_rfl,
  i80 := by kernel_rfl,
  i85 := by kernel_rfl,
  i127 := by kernel_rfl,
  i143 := by kernel_rfl,
  i145 := by kernel_rfl,
  i167 := by kernel_rfl,
  i168 := by kernel_rfl,
  i171 := by kernel_rfl,
  i173 := by kernel_rfl,
  i175 := by kernel_rfl,
  i210 := by kernel_rfl,
  i212 := by kernel_rfl,
  i232 := by kernel_rfl,
  i233 := by kernel_rfl,
  m15 := by kernel_rfl,
  m16 := by kernel_rfl,
  m17 := by kernel_rfl,
  m18 := by kernel_rfl,
  m19 := by kernel_rfl,
  c0 := by kernel_rfl,
  c2 := by kernel_rfl,
  c3 := by kernel_rfl,
  c4 := by kernel_rfl,
  c5 := by kernel_rfl,
  c9 := by kernel_rfl,
  c20 := by kernel_rfl,
  c21 := by kernel_rfl,
  c37 := by kernel_rfl,
  c46 := by kernel_rfl,
  c51 := by kernel_rfl,
  c53 := by kernel_rfl,
  c75 := by kernel_rfl,
  c80 := by kernel_rfl,
  c85 := by kernel_rfl,
  c127 := by kernel_rfl,
  c143 := by kernel_rfl,
  c145 := by kernel_rfl,
  c167 := by kernel_rfl,
  c168 := by kernel_rfl,
  c171 := by kernel_rfl,
  c173 := by kernel_rfl,
  c175 := by kernel_rfl,
  c210 := by kernel_rfl,
  c212 := by kernel_rfl,
  c213 := by kernel_rfl,
  c232 := by kernel_rfl,
  c233 := by kernel_rfl }
def Tryd.formatIntL_ren : Go.Shelf.Ren := ⟨fun | 173 => 38 | 246 => 68 | 283 => 87 | 284 => 88 | 285 => 89 | 286 => 90 | 129 => 104 | 317 => 103 | 318 => 105 | 319 => 106 | 320 => 107 | 337 => 118 | 338 => 119 | n => n, fun | 2 => 2 | 3 => 3 | 9 => 9 | 4 => 4 | 171 => 119 | 0 => 0 | 53 => 107 | 37 => 40 | 5 => 5 | 173 => 122 | 212 => 134 | 51 => 135 | 20 => 20 | 213 => 136 | 46 => 36 | 232 => 153 | 233 => 154 | n => n, fun | 17 => 1 | 18 => 6 | 19 => 7 | n => n⟩
theorem Tryd.formatIntL : Go.Proofs.LaysM.n173 Tryd.prog Tryd.formatIntL_ren := {
  mixed := by kernel_rfl,
  f129 := Tryd.func104.trans (congrArg some (by kernel_rfl)),
  f173 := Tryd.func38.trans (congrArg some (by kernel_rfl)),
  f246 := Tryd.func68.trans (congrArg some (by kernel_rfl)),
  f283 := Tryd.func87.trans (congrArg some (by kernel_rfl)),
  f284 := Tryd.func88.trans (congrArg some (by kernel_rfl)),
  f285 := Tryd.func89.trans (congrArg some (by kernel_rfl)),
  f286 := Tryd.func90.trans (congrArg some (by kernel_rfl)),
  f317 := Tryd.func103.trans (congrArg some (by kernel_rfl)),
  f318 := Tryd.func105.trans (congrArg some (by kernel_rfl)),
  f319 := Tryd.func106.trans (congrArg some (by kernel_rfl)),
  f320 := Tryd.func107.trans (congrArg some (by kernel_rfl)),
  f337 := Tryd.func118.trans (congrArg some (by kernel_rfl)),
  f338 := Tryd.func119.trans (congrArg some (by kernel_rfl)),
  t0 := Tryd.underlying0,
  a0 := Tryd.isAgg0,
  z0 := Tryd.sizeOf0,
  v0 := Tryd.zeroValue0,
  t2 := Tryd.underlying2,
  a2 := Tryd.isAgg2,
  z2 := Tryd.sizeOf2,
  v2 := Tryd.zeroValue2,
  t3 := Tryd.underlying3,
  a3 := Tryd.isAgg3,
  z3 := Tryd.sizeOf3,
  v3 := Tryd.zeroValue3,
  t4 := Tryd.underlying4,
  a4 := Tryd.isAgg4,
  z4 := Tryd.sizeOf4,
  v4 := Tryd.zeroValue4,
  t5 := Tryd.underlying5,
  a5 := Tryd.isAgg5,
  z5 := Tryd.sizeOf5,
  v5 := Tryd.zeroValue5,
  t9 := Tryd.underlying9,
  a9 := Tryd.isAgg9,
  z9 := Tryd.sizeOf9,
  v9 := Tryd.zeroValue9,
  t20 := Tryd.underlying20,
  a20 := Tryd.isAgg20,
  z20 := Tryd.sizeOf20,
  v20 := Tryd.zeroValue20,
  t37 := Tryd.underlying40,
  a37 := Tryd.isAgg40,
  z37 := Tryd.sizeOf40,
  v37 := Tryd.zeroValue40,
  t46 := Tryd.underlying36,
  a46 := Tryd.isAgg36,
  z46 := Tryd.sizeOf36,
  v46 := Tryd.zeroValue36,
  t51 := Tryd.underlying135,
  a51 := Tryd.isAgg135,
  z51 := Tryd.sizeOf135,
  v51 := Tryd.zeroValue135,
  t53 := Tryd.underlying107,
  a53 := Tryd.isAgg107,
  z53 := Tryd.sizeOf107,
  v53 := Tryd.zeroValue107,
  t171 := Tryd.underlying119,
  a171 := Tryd.isAgg119,
  z171 := Tryd.sizeOf119,
  v171 := Tryd.zeroValue119,
  t173 := Tryd.underlying122,
  a173 := Tryd.isAgg122,
  z173 := Tryd.sizeOf122,
  v173 := Tryd.zeroValue122,
  t212 := Tryd.underlying134,
  a212 := Tryd.isAgg134,
  z212 := Tryd.sizeOf134,
  v212 := Tryd.zeroValue134,
  t213 := Tryd.underlying136,
  a213 := Tryd.isAgg136,
  z213 := Tryd.sizeOf136,
  t232 := Tryd.underlying153,
  a232 := Tryd.isAgg153,
  z232 := Tryd.sizeOf153,
  v232 := Tryd.zeroValue153,
  t233 := Tryd.underlying154,
  a233 := Tryd.isAgg154,
  z233 := Tryd.sizeOf154,
  v233 := Tryd.zeroValue154,
  g17 := by kernel_rfl,
  g18 := by kernel_rfl,
  g19 := by kernel_rfl,
  i0 := by kernel_rfl,
  i2 := by kernel_rfl,
  i3 := by kernel_rfl,
  i4 := by kernel_rfl,
  i5 := by kernel_rfl,
  i9 := by kernel_rfl,
  i20 := by kernel_rfl,
  i37 := by kernel_rfl,
  i46 := by kernel_rfl,
  i51 := by kernel_rfl,
  i53 := by kernel_rfl,
  i171 := by kernel_rfl,
  i173 := by kernel_rfl,
  i212 := by kernel_rfl,
  i232 := by kernel_rfl,
  i233 := by kernel_rfl,
  m17 := by kernel_rfl,
  m18 := by kernel_rfl,
  m19 := by kernel_rfl }
end Go.Proofs
set_option linter.unusedSimpArgs false
set_option linter.unusedVariables false
set_option maxRecDepth 20000
set_option maxHeartbeats 4000000
namespace Go.Proofs.YtogponhonjiidaaDoor
open Go Go.Sx Go.RowKit
abbrev Er (b : Bool) : T := .one (.dat (.err b))
theorem hasPrefix_c (s p : List UInt8) : PC Tryd.prog 86 [S s, S p] (Bo (Lib.hasPrefix s p)) := by
  refine PC.native ⟨_, Tryd.func86, by decide, rfl⟩ fun M ν w vs hf hv => ?_
  obtain ⟨x, y, rfl, h1, h2⟩ := reps2 hv
  rw [rep_S] at h1 h2
  subst h1 h2
  refine Calls.mono (Any.strings_HasPrefix Tryd.hasPrefixL ⟨s.toArray⟩ ⟨p.toArray⟩ w) ?_
  rintro e w' ⟨rfl, rfl⟩
  exact ⟨_, rfl, by simp only [T.rep, Cell.rep, C.rep], Below.refl _ _⟩
theorem trimPrefix_c (s p : List UInt8) : PC Tryd.prog 82 [S s, S p] (S (Lib.trimPrefix s p)) := by
  refine PC.native ⟨_, Tryd.func82, by decide, rfl⟩ fun M ν w vs hf hv => ?_
  obtain ⟨x, y, rfl, h1, h2⟩ := reps2 hv
  rw [rep_S] at h1 h2
  subst h1 h2
  refine Calls.mono (Any.strings_TrimPrefix Tryd.trimPrefixL ⟨s.toArray⟩ ⟨p.toArray⟩ w) ?_
  rintro e w' ⟨rfl, rfl⟩
  exact ⟨_, rfl, by simp only [T.rep, Cell.rep, C.rep], Below.refl _ _⟩
/-- what ParseInt gives -/
def piT (s : List UInt8) : T := match Lib.parseIntB 64 s with
  | .ok v => .tup [I .i64 v, Er false]
  | .range => .tup [I .i64 (Lib.intSat 64 s), Er true]
  | _ => .tup [I .i64 0, Er true]
theorem err_at {M : Mem} {w : World} (hf : ∀ b o, M b = some o → w.heap[b]? = some o) {g : Nat} (hg : gl.lookup g = some [.err true]) : ∃ te pe, w.cell? ⟨g, 0, none⟩ = some (.iface te pe) := by
  obtain ⟨vs, h1, h2⟩ := M.glo.1 g _ hg
  simp only [repRow, C.rep, cond_true] at h2
  obtain ⟨v, vs', rfl, ⟨te, pe, rfl⟩, rfl⟩ := h2
  exact ⟨te, pe, cell_of_At hf h1⟩
theorem parseInt_c (s : List UInt8) (hs : s.length ≤ 1000000000) : PC Tryd.prog 83 [S s, I .i64 10, I .i64 64] (piT s) := by
  refine PC.native ⟨_, Tryd.func83, by decide, rfl⟩ fun M ν w vs hf hv => ?_
  obtain ⟨x, y, z, rfl, h1, h2, h3⟩ := reps3 hv
  rw [rep_S] at h1
  simp only [T.rep, Cell.rep, C.rep] at h2 h3
  subst h1 h2 h3
  obtain ⟨t4, p4, e4⟩ := err_at (g := 4) hf rfl
  obtain ⟨t5, p5, e5⟩ := err_at (g := 5) hf rfl
  have hsz : ∀ n : Nat, 1000000000 ≤ n → (ByteArray.mk s.toArray).size ≤ n := fun n hn => by show s.toArray.size ≤ _; simp; omega
  unfold piT
  cases hp : Lib.parseIntB 64 s with
  | ok v =>
    refine Calls.mono (Any.strconv_ParseInt_10_at64_ok Tryd.parseIntL ⟨s.toArray⟩ (hsz _ (by decide)) v hp w) ?_
    rintro e w' ⟨rfl, hw⟩
    refine ⟨_, rfl, ?_, ?_⟩
    · simp only [T.rep, T.reps, Cell.rep, C.rep, cond_false]
      exact ⟨_, rfl, _, _, rfl, rfl, _, _, rfl, rfl, rfl⟩
    · rcases hw with rfl | ⟨t, rfl⟩
      · exact Below.refl _ _
      · exact Lib.bytesWorld_below _ _ _
  | range =>
    refine Calls.mono (Any.strconv_ParseInt_10_at64_range Tryd.parseIntL ⟨s.toArray⟩ (hsz _ (by decide)) hp _ w e5 (.inr ⟨_, _, rfl⟩)) ?_
    rintro e w' ⟨N, rfl, _, _, hb⟩
    refine ⟨_, rfl, ?_, hb⟩
    simp only [T.rep, T.reps, Cell.rep, C.rep, cond_true]
    exact ⟨_, rfl, _, _, rfl, rfl, _, _, rfl, ⟨_, _, rfl⟩, rfl⟩
  | _ =>
    refine Calls.mono (Any.strconv_ParseInt_10_at64_syntax Tryd.parseIntL ⟨s.toArray⟩ (hsz _ (by decide)) hp _ w e4 (.inr ⟨_, _, rfl⟩)) ?_
    rintro e w' ⟨N, rfl, _, _, hb⟩
    refine ⟨_, rfl, ?_, hb⟩
    simp only [T.rep, T.reps, Cell.rep, C.rep, cond_true]
    exact ⟨_, rfl, _, _, rfl, rfl, _, _, rfl, ⟨_, _, rfl⟩, rfl⟩
theorem formatInt_c (n : Int) (h0 : -9223372036854775808 ≤ n) (h1 : n ≤ 9223372036854775807) : PC Tryd.prog 38 [I .i64 n, I .i64 10] (S (Lib.itoa n)) := by
  refine PC.native ⟨_, Tryd.func38, by decide, rfl⟩ fun M ν w vs hf hv => ?_
  obtain ⟨x, y, rfl, h2, h3⟩ := reps2 hv
  simp only [T.rep, Cell.rep, C.rep] at h2 h3
  subst h2 h3
  have htab : Lib.TabIs Tryd.prog w "internal/strconv.uint64pow10" .u64 Lib.pow10Tab := by
    obtain ⟨et, fz, h4⟩ := M.glo.2.2
    have h5 := hf _ _ h4
    unfold Lib.TabIs World.var?
    rw [show Tryd.prog.globalNamed "internal/strconv.uint64pow10" = some 1 by kernel_rfl]
    simp only [Option.bind_some, h5]
    rfl
  refine Calls.mono (Any.strconv_FormatInt_10 Tryd.formatIntL n h0 h1 w htab) ?_
  rintro e w' ⟨rfl, k, os, rfl⟩
  exact ⟨_, rfl, by simp only [T.rep, Cell.rep, C.rep], below_grow _ _ _⟩
end Go.Proofs.YtogponhonjiidaaDoor
set_option linter.unusedSimpArgs false
set_option linter.unusedVariables false
set_option maxRecDepth 20000
set_option maxHeartbeats 16000000
namespace Go.Proofs.YtogponhonjiidaaDoor
open Go Go.Sx
open Nat renaming reduceBEq → zA, reduceBNe → zB, reduceAdd → zC, reduceSub → zD, reduceMul → zE, reduceLeDiff → zF, reduceLT → zG, reduceEqDiff → zH
open Int renaming reduceToNat → zI, reduceLE → zJ, reduceLT → zK, reduceEq → zL
open Bool renaming not_eq_true' → zM, not_eq_false' → zN
abbrev TkR (r : Tok × Int) : T := .tup [.st (encTok r.1), I .i64 r.2]
def wordV (kind : Int) (text : List UInt8) : Tok × Int := bif decide ((16 : Int) < (text.length : Int)) then (zeroTok, 2) else (⟨kind, text, 0, 0⟩, 0)
theorem word_c (kind : Int) (text : List UInt8) : PC Tryd.prog 58 [I .i64 kind, S text] (TkR (wordV kind text)) := by
  refine PCB.of_body Tryd.func58 rfl (by decide) Tryd.ntmps58 Tryd.results58 rfl rfl rfl ?_ rfl rfl
  cases h0 : decide ((16 : Int) < (text.length : Int))
  ·
    repeat' (first | (simp only [go_sem, zA, zB, zC, zD, zE, zF, zG, reduceCtorEq, zH, zI, zJ, zK, zL, h0]; all_goals fail_if_success guard_target =ₛ False) | (with_reducible first | ((first | refine seqVC_stepN rfl ?_ | refine AWP.seq ?_ | refine AWP.seqR (by kernel_rfl) ?_); intro K hK) | ((first | refine hK _ _ _ ?_ | refine hK _ _ ?_ | refine hK _ ?_); clear hK K) | refine seqVC_nil ?_ | refine AWP.block ?_ | (refine AWP.cond (by with_unfolding_all rfl) ?_ ?_ <;> intro h <;> (try simp only [zM, zN] at h) <;> try exact absurd h (by decide)) | refine AWP.skip ?_ | refine AWP.ret ?_ | refine AWP.exit ?_ | refine Or.inl ?_) | (clear hK K))
    all_goals (refine fin0 ?_; simp only [wordV, h0, cond_false]; rfl)
  ·
    repeat' (first | (simp only [go_sem, zA, zB, zC, zD, zE, zF, zG, reduceCtorEq, zH, zI, zJ, zK, zL, h0]; all_goals fail_if_success guard_target =ₛ False) | (with_reducible first | ((first | refine seqVC_stepN rfl ?_ | refine AWP.seq ?_ | refine AWP.seqR (by kernel_rfl) ?_); intro K hK) | ((first | refine hK _ _ _ ?_ | refine hK _ _ ?_ | refine hK _ ?_); clear hK K) | refine seqVC_nil ?_ | refine AWP.block ?_ | (refine AWP.cond (by with_unfolding_all rfl) ?_ ?_ <;> intro h <;> (try simp only [zM, zN] at h) <;> try exact absurd h (by decide)) | refine AWP.skip ?_ | refine AWP.ret ?_ | refine AWP.exit ?_ | refine Or.inl ?_) | (clear hK K))
    all_goals (refine fin0 ?_; simp only [wordV, h0, cond_true]; rfl)
theorem run_k (k : Nat) (F : FuncId) (p : Int → Bool) (hF : ∀ n : Int, PC Tryd.prog F [I .u8 n] (Bo (p n))) (s : List UInt8) (hs : s.length ≤ 1000000000000) (i : Nat) (hi : i < s.length) :
    PCBk Tryd.prog 59 [Scp k, .one (.dat (.fn F))] k (scB s i) (S ((s.take (toW p s (i + 1))).drop i)) (scB s (toW p s (i + 1))) := PCBk.mk k (run_c F p hF s hs i hi)
/-- what words.number gives at the text t -/
def numT (neg : Bool) (d : List UInt8) : Tok × Int := bif decide ((numM neg d).2 = 0) then (⟨3, [], (numM neg d).1, 0⟩, 0) else (zeroTok, (numM neg d).2)
theorem trim_minus (d : List UInt8) : Lib.trimPrefix (45 :: d) [45] = d := by simp [Lib.trimPrefix, Lib.hasPrefix]
theorem trim_digs {d : List UInt8} (hd : allDig d) (hne : d ≠ []) : Lib.trimPrefix d [45] = d := by
  cases d with
  | nil => exact absurd rfl hne
  | cons c r =>
    have h := dig_bd (hd c List.mem_cons_self)
    have hc : ¬ (45 : UInt8) = c := fun e => by subst e; exact absurd h.1 (by decide)
    have e : Lib.hasPrefix (c :: r) [45] = false := by simp [Lib.hasPrefix, List.isPrefixOf, hc]
    simp [Lib.trimPrefix, e]
theorem b48 (b : UInt8) : decide ((b.toNat : Int) = 48) = decide (b = 48) := by
  apply decide_eq_decide.2
  constructor
  · intro h; apply UInt8.toNat_inj.1; show b.toNat = 48; omega
  · rintro rfl; rfl
/-- the text of a number: a minus or none, digits -/
theorem number_c (s : List UInt8) (hs : s.length ≤ 1000000000) (i : Nat) (hi : i < s.length) (neg : Bool) (d : List UInt8) (ht : (s.take (toW digI s (i + 1))).drop i = bif neg then 45 :: d else d) (hd : allDig d) (hne : d ≠ []) :
    PCB Tryd.prog 64 [Scp pin] [(pin, scB s i)] (TkR (numT neg d)) [(pin, scB s (toW digI s (i + 1)))] := by
  have hr := run_k 1000000 61 digI wordsdigit_c s (by omega) i hi
  rw [ht] at hr
  have htl : (bif neg then 45 :: d else d).length ≤ 1000000000 := by rw [← ht, List.length_drop, List.length_take]; omega
  have hcut : Lib.trimPrefix (bif neg then 45 :: d else d) [45] = d := by
    cases neg
    · exact trim_digs hd hne
    · exact trim_minus d
  have hT := trimPrefix_c (bif neg then 45 :: d else d) [45]
  rw [hcut] at hT
  have hP := parseInt_c (bif neg then 45 :: d else d) htl
  have hpos := parseInt_pos hd hne
  have hneg := parseInt_neg hd hne
  obtain ⟨b, r, rfl⟩ : ∃ b r, d = b :: r := by cases d with | nil => exact absurd rfl hne | cons b r => exact ⟨b, r, rfl⟩
  have hb0 : (b :: r)[0]? = some b := rfl
  have e48 : (decide ((b.toNat : Int) = 48) && !decide ((bif neg then 45 :: b :: r else b :: r) = [48])) = (decide ((b :: r).head? = some 48) && (decide (1 < (b :: r).length) || neg)) := by
    rw [b48]
    cases neg
    · cases r with
      | nil => by_cases h : b = 48 <;> simp [h]
      | cons c r => by_cases h : b = 48 <;> simp [h]
    · by_cases h : b = 48 <;> simp [h]
  have hpi : (decide ((b :: r).head? = some 48) && (decide (1 < (b :: r).length) || neg)) = false → Lib.parseIntB 64 (bif neg then 45 :: b :: r else b :: r) = if (numM neg (b :: r)).2 = 0 then .ok (numM neg (b :: r)).1 else .range := by
    intro h0
    unfold numM
    rw [h0, cond_false]
    cases neg
    · simp only [cond_false]
      by_cases h : decA 0 (b :: r) < 9223372036854775808
      · rw [hpos.1 h, decide_eq_true h]; rfl
      · rw [hpos.2 (by omega), decide_eq_false h]; rfl
    · simp only [cond_true]
      by_cases h : decA 0 (b :: r) ≤ 9223372036854775808
      · rw [hneg.1 h, decide_eq_true h]; rfl
      · rw [hneg.2 (by omega), decide_eq_false h]; rfl
  have hcode : (numM neg (b :: r)).2 = 0 ∨ (numM neg (b :: r)).2 = 2 ∨ ((numM neg (b :: r)).2 = 5 ∧ (decide ((b :: r).head? = some 48) && (decide (1 < (b :: r).length) || neg)) = true) := by
    unfold numM
    cases h0 : (decide ((b :: r).head? = some 48) && (decide (1 < (b :: r).length) || neg))
    · rw [cond_false]
      cases neg
      · simp only [cond_false]; cases decide (decA 0 (b :: r) < 9223372036854775808) <;> simp
      · simp only [cond_true]; cases decide (decA 0 (b :: r) ≤ 9223372036854775808) <;> simp
    · exact .inr (.inr ⟨rfl, rfl⟩)
  have hfive : (decide ((b :: r).head? = some 48) && (decide (1 < (b :: r).length) || neg)) = true → (numM neg (b :: r)).2 = 5 := by
    intro h0; unfold numM; rw [h0]; rfl
  generalize hX : (bif neg then 45 :: b :: r else b :: r) = X at *
  generalize (decide ((b :: r).head? = some 48) && (decide (1 < (b :: r).length) || neg)) = z at *
  unfold piT at hP
  refine PCB.of_body Tryd.func64 rfl (by decide) Tryd.ntmps64 Tryd.results64 rfl rfl rfl ?_ rfl rfl
  cases z with
  | true =>
    have h1 : decide ((b.toNat : Int) = 48) = true := by revert e48; cases decide ((b.toNat : Int) = 48) <;> simp
    have h2 : decide (X = [48]) = false := by revert e48; rw [h1]; cases decide (X = [48]) <;> simp
    have hq := hfive rfl
    repeat' (first | (simp only [go_sem, zA, zB, zC, zD, zE, zF, zG, reduceCtorEq, zH, zI, zJ, zK, zL, pin, h1, h2, vErr]; all_goals fail_if_success guard_target =ₛ False) | (with_reducible first | ((first | refine seqVC_stepN rfl ?_ | refine seqVC_stepG rfl (by with_unfolding_all rfl) ?_ | refine AWP.seq ?_ | refine AWP.seqR (by kernel_rfl) ?_); intro K hK) | ((first | refine hK _ _ _ ?_ | refine hK _ _ ?_ | refine hK _ ?_); clear hK K) | refine seqVC_nil ?_ | refine AWP.block ?_ | (refine AWP.cond (by with_unfolding_all rfl) ?_ ?_ <;> intro h <;> (try simp only [zM, zN] at h) <;> try exact absurd h (by decide)) | refine AWP.skip ?_ | refine AWP.ret ?_ | refine AWP.exit ?_ | (refine ⟨fun h => ?_, fun h => ?_⟩ <;> (try simp only [zM, zN] at h) <;> try simp only [h]) | refine ⟨_, hT, ?_⟩ | refine ⟨by omega, b, hb0, ?_⟩) | (refine ⟨1000000, _, _, _, hr, rfl, ?_⟩) | (with_reducible first | refine Or.inl ?_) | (clear hK K))
    all_goals (simp only [numT, hq, zeroTok, encTok])
    all_goals (refine ⟨by first | trivial | rfl, fun x hx => ?_⟩; simp only [List.mem_singleton] at hx; subst hx; simp)
  | false =>
    have hp := hpi rfl
    cases h1 : decide ((b.toNat : Int) = 48) with
    | false =>
      by_cases hz : (numM neg (b :: r)).2 = 0
      · rw [if_pos hz] at hp
        rw [hp] at hP
        repeat' (first | (simp only [go_sem, zA, zB, zC, zD, zE, zF, zG, reduceCtorEq, zH, zI, zJ, zK, zL, pin, h1, vErr]; all_goals fail_if_success guard_target =ₛ False) | (with_reducible first | ((first | refine seqVC_stepN rfl ?_ | refine seqVC_stepG rfl (by with_unfolding_all rfl) ?_ | refine AWP.seq ?_ | refine AWP.seqR (by kernel_rfl) ?_); intro K hK) | ((first | refine hK _ _ _ ?_ | refine hK _ _ ?_ | refine hK _ ?_); clear hK K) | refine seqVC_nil ?_ | refine AWP.block ?_ | (refine AWP.cond (by with_unfolding_all rfl) ?_ ?_ <;> intro h <;> (try simp only [zM, zN] at h) <;> try exact absurd h (by decide)) | refine AWP.skip ?_ | refine AWP.ret ?_ | refine AWP.exit ?_ | (refine ⟨fun h => ?_, fun h => ?_⟩ <;> (try simp only [zM, zN] at h) <;> try simp only [h]) | refine ⟨_, hT, ?_⟩ | refine ⟨_, hP, ?_⟩ | refine ⟨by omega, b, hb0, ?_⟩) | (refine ⟨1000000, _, _, _, hr, rfl, ?_⟩) | (with_reducible first | refine Or.inl ?_) | (clear hK K))
        all_goals (simp only [numT, hz, decide_true, cond_true, encTok])
        all_goals (refine ⟨by first | trivial | rfl, fun x hx => ?_⟩; simp only [List.mem_singleton] at hx; subst hx; simp)
      · rw [if_neg hz] at hp
        rw [hp] at hP
        have h2 : (numM neg (b :: r)).2 = 2 := by
          rcases hcode with h | h | ⟨_, h⟩
          · exact absurd h hz
          · exact h
          · cases h
        repeat' (first | (simp only [go_sem, zA, zB, zC, zD, zE, zF, zG, reduceCtorEq, zH, zI, zJ, zK, zL, pin, h1, vErr]; all_goals fail_if_success guard_target =ₛ False) | (with_reducible first | ((first | refine seqVC_stepN rfl ?_ | refine seqVC_stepG rfl (by with_unfolding_all rfl) ?_ | refine AWP.seq ?_ | refine AWP.seqR (by kernel_rfl) ?_); intro K hK) | ((first | refine hK _ _ _ ?_ | refine hK _ _ ?_ | refine hK _ ?_); clear hK K) | refine seqVC_nil ?_ | refine AWP.block ?_ | (refine AWP.cond (by with_unfolding_all rfl) ?_ ?_ <;> intro h <;> (try simp only [zM, zN] at h) <;> try exact absurd h (by decide)) | refine AWP.skip ?_ | refine AWP.ret ?_ | refine AWP.exit ?_ | (refine ⟨fun h => ?_, fun h => ?_⟩ <;> (try simp only [zM, zN] at h) <;> try simp only [h]) | refine ⟨_, hT, ?_⟩ | refine ⟨_, hP, ?_⟩ | refine ⟨by omega, b, hb0, ?_⟩) | (refine ⟨1000000, _, _, _, hr, rfl, ?_⟩) | (with_reducible first | refine Or.inl ?_) | (clear hK K))
        all_goals (simp only [numT, h2, zeroTok, encTok])
        all_goals (refine ⟨by first | trivial | rfl, fun x hx => ?_⟩; simp only [List.mem_singleton] at hx; subst hx; simp)
    | true =>
      have h2 : decide (X = [48]) = true := by revert e48; rw [h1]; cases decide (X = [48]) <;> simp
      by_cases hz : (numM neg (b :: r)).2 = 0
      · rw [if_pos hz] at hp
        rw [hp] at hP
        repeat' (first | (simp only [go_sem, zA, zB, zC, zD, zE, zF, zG, reduceCtorEq, zH, zI, zJ, zK, zL, pin, h1, h2, vErr]; all_goals fail_if_success guard_target =ₛ False) | (with_reducible first | ((first | refine seqVC_stepN rfl ?_ | refine seqVC_stepG rfl (by with_unfolding_all rfl) ?_ | refine AWP.seq ?_ | refine AWP.seqR (by kernel_rfl) ?_); intro K hK) | ((first | refine hK _ _ _ ?_ | refine hK _ _ ?_ | refine hK _ ?_); clear hK K) | refine seqVC_nil ?_ | refine AWP.block ?_ | (refine AWP.cond (by with_unfolding_all rfl) ?_ ?_ <;> intro h <;> (try simp only [zM, zN] at h) <;> try exact absurd h (by decide)) | refine AWP.skip ?_ | refine AWP.ret ?_ | refine AWP.exit ?_ | (refine ⟨fun h => ?_, fun h => ?_⟩ <;> (try simp only [zM, zN] at h) <;> try simp only [h]) | refine ⟨_, hT, ?_⟩ | refine ⟨_, hP, ?_⟩ | refine ⟨by omega, b, hb0, ?_⟩) | (refine ⟨1000000, _, _, _, hr, rfl, ?_⟩) | (with_reducible first | refine Or.inl ?_) | (clear hK K))
        all_goals (simp only [numT, hz, decide_true, cond_true, encTok])
        all_goals (refine ⟨by first | trivial | rfl, fun x hx => ?_⟩; simp only [List.mem_singleton] at hx; subst hx; simp)
      · rw [if_neg hz] at hp
        rw [hp] at hP
        have h3 : (numM neg (b :: r)).2 = 2 := by
          rcases hcode with h | h | ⟨_, h⟩
          · exact absurd h hz
          · exact h
          · cases h
        repeat' (first | (simp only [go_sem, zA, zB, zC, zD, zE, zF, zG, reduceCtorEq, zH, zI, zJ, zK, zL, pin, h1, h2, vErr]; all_goals fail_if_success guard_target =ₛ False) | (with_reducible first | ((first | refine seqVC_stepN rfl ?_ | refine seqVC_stepG rfl (by with_unfolding_all rfl) ?_ | refine AWP.seq ?_ | refine AWP.seqR (by kernel_rfl) ?_); intro K hK) | ((first | refine hK _ _ _ ?_ | refine hK _ _ ?_ | refine hK _ ?_); clear hK K) | refine seqVC_nil ?_ | refine AWP.block ?_ | (refine AWP.cond (by with_unfolding_all rfl) ?_ ?_ <;> intro h <;> (try simp only [zM, zN] at h) <;> try exact absurd h (by decide)) | refine AWP.skip ?_ | refine AWP.ret ?_ | refine AWP.exit ?_ | (refine ⟨fun h => ?_, fun h => ?_⟩ <;> (try simp only [zM, zN] at h) <;> try simp only [h]) | refine ⟨_, hT, ?_⟩ | refine ⟨_, hP, ?_⟩ | refine ⟨by omega, b, hb0, ?_⟩) | (refine ⟨1000000, _, _, _, hr, rfl, ?_⟩) | (with_reducible first | refine Or.inl ?_) | (clear hK K))
        all_goals (simp only [numT, h3, zeroTok, encTok])
        all_goals (refine ⟨by first | trivial | rfl, fun x hx => ?_⟩; simp only [List.mem_singleton] at hx; subst hx; simp)
/-- the signs, the longer ones first -/
def signL : List (List UInt8) := [[35, 123], [45, 62], [61, 62], [61, 61], [61, 60], [40], [41], [91], [93], [123], [125], [44], [59], [46], [58], [124], [47], [38], [61], [60], [43], [45], [42]]
def findS (t : List UInt8) : List (List UInt8) → Option (List UInt8)
  | [] => none
  | x :: l => bif Lib.hasPrefix t x then some x else findS t l
def signV (t : List UInt8) : (Tok × Int) × Nat := match findS t signL with
  | some x => ((⟨6, x, 0, 0⟩, 0), x.length)
  | none => ((zeroTok, 5), 0)
theorem prefix_len {t x : List UInt8} (h : Lib.hasPrefix t x = true) : x.length ≤ t.length := by
  unfold Lib.hasPrefix at h
  exact (List.isPrefixOf_iff_prefix.1 h).length_le
theorem gl0 : gl.lookup 0 = some [.sl 1 (signL.map Sx.encStr)] := rfl
theorem sign_c (s : List UInt8) (hs : s.length ≤ 1000000000) (i : Nat) (hi : i ≤ s.length) :
    PCB Tryd.prog 67 [Scp pin] [(pin, scB s i)] (TkR (signV (s.drop i)).1) [(pin, scB s (i + (signV (s.drop i)).2))] := by
  refine PCB.of_body Tryd.func67 rfl (by decide) Tryd.ntmps67 Tryd.results67 rfl rfl rfl ?_ rfl rfl
  repeat' (first | (simp only [go_sem, zA, zB, zC, zD, zE, zF, zG, reduceCtorEq, zH, zI, zJ, zK, zL, pin, gl0]; all_goals fail_if_success guard_target =ₛ False) | (with_reducible first | ((first | refine seqVC_stepN rfl ?_ | refine AWP.seq ?_ | refine AWP.seqR (by kernel_rfl) ?_ | refine parVC_stepN rfl ?_ | refine parEVC_stepN rfl ?_ | refine genVC_stepN rfl ?_); intro K hK) | ((first | refine hK _ _ _ ?_ | refine hK _ _ ?_ | refine hK _ ?_); clear hK K) | refine seqVC_nil ?_ | refine parVC_nil ?_ | refine parEVC_nil ?_ | refine genVC_nil ?_ | refine AWP.block ?_ | (refine AWP.cond (by with_unfolding_all rfl) ?_ ?_ <;> intro h <;> (try simp only [zM, zN] at h) <;> try exact absurd h (by decide)) | refine AWP.skip ?_ | refine AWP.ret ?_ | refine AWP.exit ?_ | refine AWP.parR mixed (by kernel_rfl) fun K hK => ?_ | refine ⟨(by kernel_rfl : depB _ _ _ = true), ?_⟩ | refine Or.inl ?_) | (clear hK K))
  refine AWP.len 6 rfl fun hlen0 => ?_
  (try rw [List.length_map] at hlen0)
  refine AWP.range (S := Nat) (signL) Sx.encStr (fun k u => (8, I .i64 (k : Nat)) :: []) (fun k u => [(1000000, scB s i), (2, .cells [.dat (.int .i64 0), .dat (.str []), .dat (.int .i64 0), .dat (.int .i64 0)])]) [0, 2, 6, 7] [] (fun k u => findS (s.drop i) signL = findS (s.drop i) (signL.drop k)) (0) (by simp only [go_sem, zA, zB, zC, zD, zE, zF, zG, reduceCtorEq, zH, zI, zJ, zK, zL]; exact Gh.to [] (by repeat (first | exact trivial | refine ⟨rfl, ?_⟩ | refine ⟨by (simp only [go_sem, zA, zB, zC, zD, zE, zF, zG, reduceCtorEq, zH, zI, zJ, zK, zL, List.length_append, List.length_map, List.length_cons, List.length_nil, Nat.zero_add]) <;> rfl, ?_⟩)) (by repeat (first | exact trivial | refine ⟨rfl, ?_⟩ | refine ⟨by (simp only [go_sem, zA, zB, zC, zD, zE, zF, zG, reduceCtorEq, zH, zI, zJ, zK, zL, List.length_append, List.length_map, List.length_cons, List.length_nil, Nat.zero_add]) <;> rfl, ?_⟩)) rfl rfl rfl) ?_ ?_ ?_
  · rfl
  · intro k u x hlt hx hx' hb hok
    simp only [go_sem, zA, zB, zC, zD, zE, zF, zG, reduceCtorEq, zH, zI, zJ, zK, zL]
    rw [List.drop_eq_getElem_cons hlt, show signL[k] = x from (List.getElem?_eq_some_iff.1 hx).2, findS] at hok
    have hp := hasPrefix_c (s.drop i) x
    cases hz : Lib.hasPrefix (s.drop i) x
    ·
      rw [hz, cond_false] at hok
      rw [hz] at hp
      repeat' (first | (simp only [go_sem, zA, zB, zC, zD, zE, zF, zG, reduceCtorEq, zH, zI, zJ, zK, zL, List.length_map, List.take_length, hb, encStr, pin]; all_goals fail_if_success guard_target =ₛ False) | (with_reducible first | ((first | refine seqVC_stepN rfl ?_ | refine AWP.seq ?_ | refine AWP.seqR (by kernel_rfl) ?_ | refine parVC_stepN rfl ?_ | refine parEVC_stepN rfl ?_ | refine genVC_stepN rfl ?_); intro K hK) | ((first | refine hK _ _ _ ?_ | refine hK _ _ ?_ | refine hK _ ?_); clear hK K) | refine seqVC_nil ?_ | refine parVC_nil ?_ | refine parEVC_nil ?_ | refine genVC_nil ?_ | refine AWP.block ?_ | (refine AWP.cond (by with_unfolding_all rfl) ?_ ?_ <;> intro h <;> (try simp only [zM, zN] at h) <;> try exact absurd h (by decide)) | refine AWP.skip ?_ | refine AWP.ret ?_ | refine AWP.exit ?_ | refine ⟨_, hp, ?_⟩ | refine ⟨by omega, encStr x, hx', ?_⟩ | refine ⟨by omega, ?_⟩ | refine ⟨by omega, by omega, by omega, ?_⟩ | refine AWP.parR mixed (by kernel_rfl) fun K hK => ?_ | refine ⟨(by kernel_rfl : depB _ _ _ = true), ?_⟩ | refine Or.inl ?_) | (clear hK K))
      all_goals (rw [wrap_succ hlt hlen0])
      all_goals (exact Gh.to [] (by repeat (first | exact trivial | refine ⟨rfl, ?_⟩ | refine ⟨by (simp only [go_sem, zA, zB, zC, zD, zE, zF, zG, reduceCtorEq, zH, zI, zJ, zK, zL, List.length_append, List.length_map, List.length_cons, List.length_nil, Nat.zero_add]) <;> rfl, ?_⟩)) (by repeat (first | exact trivial | refine ⟨rfl, ?_⟩ | refine ⟨by (simp only [go_sem, zA, zB, zC, zD, zE, zF, zG, reduceCtorEq, zH, zI, zJ, zK, zL, List.length_append, List.length_map, List.length_cons, List.length_nil, Nat.zero_add]) <;> rfl, ?_⟩)) rfl rfl rfl)
    ·
      rw [hz, cond_true] at hok
      rw [hz] at hp
      have hl := prefix_len hz
      rw [List.length_drop] at hl
      have hw : IntKind.i64.wrap ((i : Int) + (x.length : Int)) = ((i + x.length : Nat) : Int) := by rw [w64 (by omega)]; rfl
      repeat' (first | (simp only [go_sem, zA, zB, zC, zD, zE, zF, zG, reduceCtorEq, zH, zI, zJ, zK, zL, List.length_map, List.take_length, hb, encStr, pin, hw]; all_goals fail_if_success guard_target =ₛ False) | (with_reducible first | ((first | refine seqVC_stepN rfl ?_ | refine AWP.seq ?_ | refine AWP.seqR (by kernel_rfl) ?_ | refine parVC_stepN rfl ?_ | refine parEVC_stepN rfl ?_ | refine genVC_stepN rfl ?_); intro K hK) | ((first | refine hK _ _ _ ?_ | refine hK _ _ ?_ | refine hK _ ?_); clear hK K) | refine seqVC_nil ?_ | refine parVC_nil ?_ | refine parEVC_nil ?_ | refine genVC_nil ?_ | refine AWP.block ?_ | (refine AWP.cond (by with_unfolding_all rfl) ?_ ?_ <;> intro h <;> (try simp only [zM, zN] at h) <;> try exact absurd h (by decide)) | refine AWP.skip ?_ | refine AWP.ret ?_ | refine AWP.exit ?_ | refine ⟨_, hp, ?_⟩ | refine ⟨by omega, encStr x, hx', ?_⟩ | refine ⟨by omega, ?_⟩ | refine ⟨by omega, by omega, by omega, ?_⟩ | refine AWP.parR mixed (by kernel_rfl) fun K hK => ?_ | refine ⟨(by kernel_rfl : depB _ _ _ = true), ?_⟩ | refine Or.inl ?_) | (clear hK K))
      all_goals (simp only [signV, hok])
      all_goals (refine ⟨by first | trivial | rfl, fun x hx => ?_⟩; simp only [List.mem_singleton] at hx; subst hx; simp)
  · intro u hb hok
    simp only [go_sem, zA, zB, zC, zD, zE, zF, zG, reduceCtorEq, zH, zI, zJ, zK, zL]
    rw [List.drop_length, findS] at hok
    repeat' (first | (simp only [go_sem, zA, zB, zC, zD, zE, zF, zG, reduceCtorEq, zH, zI, zJ, zK, zL, List.length_map, hb, pin]; all_goals fail_if_success guard_target =ₛ False) | (with_reducible first | ((first | refine seqVC_stepN rfl ?_ | refine AWP.seq ?_ | refine AWP.seqR (by kernel_rfl) ?_ | refine parVC_stepN rfl ?_ | refine parEVC_stepN rfl ?_ | refine genVC_stepN rfl ?_); intro K hK) | ((first | refine hK _ _ _ ?_ | refine hK _ _ ?_ | refine hK _ ?_); clear hK K) | refine seqVC_nil ?_ | refine parVC_nil ?_ | refine parEVC_nil ?_ | refine genVC_nil ?_ | refine AWP.block ?_ | (refine AWP.cond (by with_unfolding_all rfl) ?_ ?_ <;> intro h <;> (try simp only [zM, zN] at h) <;> try exact absurd h (by decide)) | refine AWP.skip ?_ | refine AWP.ret ?_ | refine AWP.exit ?_ | refine AWP.parR mixed (by kernel_rfl) fun K hK => ?_ | refine ⟨(by kernel_rfl : depB _ _ _ = true), ?_⟩ | refine Or.inl ?_) | (clear hK K))
    all_goals (simp only [signV, hok])
    all_goals (refine ⟨by first | trivial | rfl, fun x hx => ?_⟩; simp only [List.mem_singleton] at hx; subst hx; simp)
end Go.Proofs.YtogponhonjiidaaDoor
set_option linter.unusedVariables false
set_option maxRecDepth 20000
namespace Go.Proofs.YtogponhonjiidaaDoor
open Go Go.Sx
open Nat renaming reduceBEq → zA, reduceBNe → zB, reduceAdd → zC, reduceSub → zD, reduceMul → zE, reduceLeDiff → zF, reduceLT → zG, reduceEqDiff → zH
open Int renaming reduceToNat → zI, reduceLE → zJ, reduceLT → zK, reduceEq → zL
open Bool renaming not_eq_true' → zM, not_eq_false' → zN
theorem errG {W : World} {n : String} {d : DataW Unit} {nm : String} {rest : List (String × DataW Unit)} {g : Nat} (hg : Tryd.prog.globalNamed n = some g) (hty : (Tryd.prog.globals[g]?).map (·.type) = some 82)
    (h : laidMet Tryd.prog ((n, DataW.iface nm d) :: rest) W) : ∃ vs, At (W.heap[g]?) 0 vs ∧ repRow (fun b => W.heap[b]?) [.err true] vs := by
  obtain ⟨g', t, cs, fuel, p, h1, h2, h3, h4⟩ := laidMet_head h
  obtain rfl := Option.some.inj (hg.symm.trans h1)
  obtain rfl := Option.some.inj (hty.symm.trans h2)
  obtain ⟨et, fz, hb⟩ := tab_of h3 hg
  obtain ⟨te, pe, hcs⟩ := err_of Tryd.underlying82 h4
  refine ⟨[.iface te pe], ⟨cs, et, fz, [], [], hb, by rw [hcs]; rfl, rfl⟩, ?_⟩
  simp only [repRow, C.rep, cond_true]
  exact ⟨_, _, rfl, ⟨te, pe, rfl⟩, rfl⟩
theorem repStrs {M : Mem0} : ∀ l : List (List UInt8), repRows M 1 (l.map Sx.encStr) (l.map fun s => Value.string ⟨s.toArray⟩)
  | [] => by simp [repRows]
  | s :: l => by
    have := repStrs (M := M) l
    simp only [List.map_cons, repRows]
    exact ⟨[.string ⟨s.toArray⟩], _, rfl, rfl, by simp only [Sx.encStr, repRow, C.rep]; exact ⟨_, _, rfl, rfl, rfl⟩, this⟩
theorem repInts {M : Mem0} : ∀ l : List Int, repRow M (l.map fun z => C.int .u64 z) (l.map fun z => Value.int .u64 z)
  | [] => by simp [repRow]
  | s :: l => by
    have := repInts (M := M) l
    simp only [List.map_cons, repRow, C.rep]
    exact ⟨_, _, rfl, rfl, this⟩
theorem globOk {W : World} (hL : laidMet Tryd.prog Rows.tokenReservedRow.laid W) (hS : W.ShapedOpen Tryd.prog) : GlobOk (fun b => W.heap[b]?) := by
  have l2 := laidMet_tail (laidMet_tail hL)
  have l3 := laidMet_tail l2
  have l4 := laidMet_tail l3
  have l6 := laidMet_tail (laidMet_tail l4)
  have e5 := errG (g := 5) (by kernel_rfl) (by kernel_rfl) l3
  have e4 := errG (g := 4) (by kernel_rfl) (by kernel_rfl) l4
  have e1 : Lib.TabIs Tryd.prog W "internal/strconv.uint64pow10" .u64 pow10V := Lib.tabIs_of_head (g := 1) (t := 134) (e := 107) (n := 20) (by kernel_rfl) (by kernel_rfl) Tryd.underlying134 Tryd.underlying107 (by kernel_rfl) (by kernel_rfl) l2
  obtain ⟨t1, z1, b1⟩ := tab_of e1 (g := 1) (by kernel_rfl)
  have e0 : ∃ vs, At (W.heap[0]?) 0 vs ∧ repRow (fun b => W.heap[b]?) [.sl 1 (signL.map Sx.encStr)] vs := by
    obtain ⟨g', t, cs, fuel, p, h1, h2, h3, h4⟩ := laidMet_head l6
    obtain rfl := Option.some.inj ((show Tryd.prog.globalNamed "semtype/words.signs" = some 0 by kernel_rfl).symm.trans h1)
    obtain rfl := Option.some.inj ((show (Tryd.prog.globals[0]?).map (·.type) = some 28 by kernel_rfl).symm.trans h2)
    obtain ⟨et, fz, hb⟩ := tab_of h3 h1
    obtain ⟨b, off, cap, hcs, hc1, hc2, hat⟩ := strs_of (strs := signL) (rst := []) Tryd.underlying28 Tryd.underlying9 (by kernel_rfl) (by decide) h4
    refine ⟨[.slice (some ⟨b, off, none⟩) signL.length cap], ⟨cs, et, fz, [], [], hb, by rw [hcs]; rfl, rfl⟩, ?_⟩
    simp only [repRow, C.rep]
    refine ⟨_, _, rfl, ⟨_, cap, signL.map fun s => Value.string ⟨s.toArray⟩, rfl, hc1, hc2, repStrs signL, .inr ⟨b, off, rfl, hat⟩⟩, rfl⟩
  have em : ∃ m : Int, At (W.heap[3]?) 0 [.int .i64 m] := by
    obtain ⟨m, hm⟩ := Go.Proofs.cell_of_shapedOpen_int (g := 3) (k := .i64) (zero := #[.int .i64 0]) (t := 3) hS (of_decide_eq_true (by kernel_rfl)) (by kernel_rfl) rfl (by kernel_rfl) (by kernel_rfl) Tryd.underlying3
    exact ⟨m, at_of_cells (by simp) fun i v hv => by
      cases i with
      | zero => cases hv; exact hm
      | succ i => simp at hv⟩
  refine ⟨fun g r hg => ?_, em, t1, z1, b1⟩
  by_cases g0 : g = 0
  · subst g0
    obtain rfl := Option.some.inj (gl0.symm.trans hg)
    exact e0
  by_cases g1 : g = 1
  · subst g1
    obtain rfl := Option.some.inj ((show gl.lookup 1 = some (pow10V.map fun z => C.int .u64 z) from rfl).symm.trans hg)
    exact ⟨pow10V.map fun z => Value.int .u64 z, ⟨_, t1, z1, [], [], b1, by simp, rfl⟩, repInts pow10V⟩
  by_cases g4 : g = 4
  · subst g4
    obtain rfl := Option.some.inj ((show gl.lookup 4 = some [.err true] from rfl).symm.trans hg)
    exact e4
  by_cases g5 : g = 5
  · subst g5
    obtain rfl := Option.some.inj ((show gl.lookup 5 = some [.err true] from rfl).symm.trans hg)
    exact e5
  · exfalso
    have h0 : (g == 0) = false := by simpa using g0
    have h1 : (g == 1) = false := by simpa using g1
    have h4 : (g == 4) = false := by simpa using g4
    have h5 : (g == 5) = false := by simpa using g5
    unfold gl at hg
    simp only [List.lookup, h0, h1, h4, h5] at hg
    cases hg
end Go.Proofs.YtogponhonjiidaaDoor
set_option maxRecDepth 100000
namespace Go.Proofs
open Go.Shelf
def Tryd.writeByteL_ren : Go.Shelf.Ren := ⟨fun | 179 => 69 | 251 => 91 | 252 => 92 | 181 => 108 | 184 => 109 | 290 => 110 | 324 => 120 | n => n, fun | 130 => 124 | 5 => 5 | 75 => 82 | 0 => 0 | 93 => 104 | 91 => 102 | 3 => 3 | 131 => 125 | 4 => 4 | 37 => 40 | 20 => 20 | 80 => 85 | 9 => 9 | n => n, fun | 14 => 2 | n => n⟩
theorem Tryd.writeByteL : Go.Proofs.LaysM.n179 Tryd.prog Tryd.writeByteL_ren := {
  mixed := by kernel_rfl,
  f179 := Tryd.func69.trans (congrArg some (by kernel_rfl)),
  f181 := Tryd.func108.trans (congrArg some (by kernel_rfl)),
  f184 := Tryd.func109.trans (congrArg some (by kernel_rfl)),
  f251 := Tryd.func91.trans (congrArg some (by kernel_rfl)),
  f252 := Tryd.func92.trans (congrArg some (by kernel_rfl)),
  f290 := Tryd.func110.trans (congrArg some (by kernel_rfl)),
  f324 := Tryd.func120.trans (congrArg some (by kernel_rfl)),
  t0 := Tryd.underlying0,
  a0 := Tryd.isAgg0,
  z0 := Tryd.sizeOf0,
  v0 := Tryd.zeroValue0,
  t3 := Tryd.underlying3,
  a3 := Tryd.isAgg3,
  z3 := Tryd.sizeOf3,
  v3 := Tryd.zeroValue3,
  t4 := Tryd.underlying4,
  a4 := Tryd.isAgg4,
  z4 := Tryd.sizeOf4,
  v4 := Tryd.zeroValue4,
  t5 := Tryd.underlying5,
  a5 := Tryd.isAgg5,
  z5 := Tryd.sizeOf5,
  v5 := Tryd.zeroValue5,
  t20 := Tryd.underlying20,
  a20 := Tryd.isAgg20,
  z20 := Tryd.sizeOf20,
  v20 := Tryd.zeroValue20,
  t37 := Tryd.underlying40,
  a37 := Tryd.isAgg40,
  z37 := Tryd.sizeOf40,
  v37 := Tryd.zeroValue40,
  t75 := Tryd.underlying82,
  a75 := Tryd.isAgg82,
  z75 := Tryd.sizeOf82,
  v75 := Tryd.zeroValue82,
  t91 := Tryd.underlying102,
  a91 := Tryd.isAgg102,
  z91 := Tryd.sizeOf102,
  v91 := Tryd.zeroValue102,
  t93 := Tryd.underlying104,
  a93 := Tryd.isAgg104,
  z93 := Tryd.sizeOf104,
  v93 := Tryd.zeroValue104,
  t130 := Tryd.underlying124,
  a130 := Tryd.isAgg124,
  z130 := Tryd.sizeOf124,
  v130 := Tryd.zeroValue124,
  t131 := Tryd.underlying125,
  a131 := Tryd.isAgg125,
  z131 := Tryd.sizeOf125,
  v131 := Tryd.zeroValue125,
  g14 := by kernel_rfl,
  t9 := Tryd.underlying9,
  a9 := Tryd.isAgg9,
  z9 := Tryd.sizeOf9,
  v9 := Tryd.zeroValue9,
  t80 := Tryd.underlying85,
  a80 := Tryd.isAgg85,
  z80 := Tryd.sizeOf85,
  v80 := Tryd.zeroValue85,
  i0 := by kernel_rfl,
  i3 := by kernel_rfl,
  i4 := by kernel_rfl,
  i5 := by kernel_rfl,
  i9 := by kernel_rfl,
  i20 := by kernel_rfl,
  i37 := by kernel_rfl,
  i75 := by kernel_rfl,
  i80 := by kernel_rfl,
  i91 := by kernel_rfl,
  i93 := by kernel_rfl,
  i130 := by kernel_rfl,
  i131 := by kernel_rfl,
  m14 := by kernel_rfl }
def Tryd.writeStringL_ren : Go.Shelf.Ren := ⟨fun | 178 => 70 | 251 => 91 | 252 => 92 | 181 => 108 | 184 => 109 | 290 => 110 | 324 => 120 | n => n, fun | 130 => 124 | 9 => 9 | 3 => 3 | 75 => 82 | 0 => 0 | 93 => 104 | 91 => 102 | 131 => 125 | 4 => 4 | 37 => 40 | 20 => 20 | 80 => 85 | 5 => 5 | n => n, fun | 14 => 2 | n => n⟩
theorem Tryd.writeStringL : Go.Proofs.LaysM.n178 Tryd.prog Tryd.writeStringL_ren := {
  mixed := by kernel_rfl,
  f178 := Tryd.func70.trans (congrArg some (by kernel_rfl)),
  f181 := Tryd.func108.trans (congrArg some (by kernel_rfl)),
  f184 := Tryd.func109.trans (congrArg some (by kernel_rfl)),
  f251 := Tryd.func91.trans (congrArg some (by kernel_rfl)),
  f252 := Tryd.func92.trans (congrArg some (by kernel_rfl)),
  f290 := Tryd.func110.trans (congrArg some (by kernel_rfl)),
  f324 := Tryd.func120.trans (congrArg some (by kernel_rfl)),
  t0 := Tryd.underlying0,
  a0 := Tryd.isAgg0,
  z0 := Tryd.sizeOf0,
  v0 := Tryd.zeroValue0,
  t3 := Tryd.underlying3,
  a3 := Tryd.isAgg3,
  z3 := Tryd.sizeOf3,
  v3 := Tryd.zeroValue3,
  t4 := Tryd.underlying4,
  a4 := Tryd.isAgg4,
  z4 := Tryd.sizeOf4,
  v4 := Tryd.zeroValue4,
  t9 := Tryd.underlying9,
  a9 := Tryd.isAgg9,
  z9 := Tryd.sizeOf9,
  v9 := Tryd.zeroValue9,
  t20 := Tryd.underlying20,
  a20 := Tryd.isAgg20,
  z20 := Tryd.sizeOf20,
  v20 := Tryd.zeroValue20,
  t37 := Tryd.underlying40,
  a37 := Tryd.isAgg40,
  z37 := Tryd.sizeOf40,
  v37 := Tryd.zeroValue40,
  t75 := Tryd.underlying82,
  a75 := Tryd.isAgg82,
  z75 := Tryd.sizeOf82,
  v75 := Tryd.zeroValue82,
  t91 := Tryd.underlying102,
  a91 := Tryd.isAgg102,
  z91 := Tryd.sizeOf102,
  v91 := Tryd.zeroValue102,
  t93 := Tryd.underlying104,
  a93 := Tryd.isAgg104,
  z93 := Tryd.sizeOf104,
  v93 := Tryd.zeroValue104,
  t130 := Tryd.underlying124,
  a130 := Tryd.isAgg124,
  z130 := Tryd.sizeOf124,
  v130 := Tryd.zeroValue124,
  t131 := Tryd.underlying125,
  a131 := Tryd.isAgg125,
  z131 := Tryd.sizeOf125,
  v131 := Tryd.zeroValue125,
  g14 := by kernel_rfl,
  t5 := Tryd.underlying5,
  a5 := Tryd.isAgg5,
  z5 := Tryd.sizeOf5,
  v5 := Tryd.zeroValue5,
  t80 := Tryd.underlying85,
  a80 := Tryd.isAgg85,
  z80 := Tryd.sizeOf85,
  v80 := Tryd.zeroValue85,
  i0 := by kernel_rfl,
  i3 := by kernel_rfl,
  i4 := by kernel_rfl,
  i5 := by kernel_rfl,
  i9 := by kernel_rfl,
  i20 := by kernel_rfl,
  i37 := by kernel_rfl,
  i75 := by kernel_rfl,
  i80 := by kernel_rfl,
  i91 := by kernel_rfl,
  i93 := by kernel_rfl,
  i130 := by kernel_rfl,
  i131 := by kernel_rfl,
  m14 := by kernel_rfl }
def Tryd.bufStringL_ren : Go.Shelf.Ren := ⟨fun | 182 => 71 | n => n, fun | 130 => 124 | 9 => 9 | 4 => 4 | 0 => 0 | 93 => 104 | 37 => 40 | 3 => 3 | 91 => 102 | 5 => 5 | n => n, fun | n => n⟩
theorem Tryd.bufStringL : Go.Proofs.LaysM.n182 Tryd.prog Tryd.bufStringL_ren := {
  mixed := by kernel_rfl,
  f182 := Tryd.func71.trans (congrArg some (by kernel_rfl)),
  t0 := Tryd.underlying0,
  a0 := Tryd.isAgg0,
  z0 := Tryd.sizeOf0,
  v0 := Tryd.zeroValue0,
  t3 := Tryd.underlying3,
  a3 := Tryd.isAgg3,
  z3 := Tryd.sizeOf3,
  v3 := Tryd.zeroValue3,
  t4 := Tryd.underlying4,
  a4 := Tryd.isAgg4,
  z4 := Tryd.sizeOf4,
  v4 := Tryd.zeroValue4,
  t9 := Tryd.underlying9,
  a9 := Tryd.isAgg9,
  z9 := Tryd.sizeOf9,
  v9 := Tryd.zeroValue9,
  t37 := Tryd.underlying40,
  a37 := Tryd.isAgg40,
  z37 := Tryd.sizeOf40,
  v37 := Tryd.zeroValue40,
  t93 := Tryd.underlying104,
  a93 := Tryd.isAgg104,
  z93 := Tryd.sizeOf104,
  v93 := Tryd.zeroValue104,
  t130 := Tryd.underlying124,
  a130 := Tryd.isAgg124,
  z130 := Tryd.sizeOf124,
  v130 := Tryd.zeroValue124,
  t5 := Tryd.underlying5,
  a5 := Tryd.isAgg5,
  z5 := Tryd.sizeOf5,
  v5 := Tryd.zeroValue5,
  t91 := Tryd.underlying102,
  a91 := Tryd.isAgg102,
  z91 := Tryd.sizeOf102,
  v91 := Tryd.zeroValue102,
  i0 := by kernel_rfl,
  i3 := by kernel_rfl,
  i4 := by kernel_rfl,
  i5 := by kernel_rfl,
  i9 := by kernel_rfl,
  i37 := by kernel_rfl,
  i91 := by kernel_rfl,
  i93 := by kernel_rfl,
  i130 := by kernel_rfl }
end Go.Proofs
set_option linter.unusedVariables false
namespace Go.Sx
def hexL : List UInt8 := [48, 49, 50, 51, 52, 53, 54, 55, 56, 57, 97, 98, 99, 100, 101, 102]
def hexd (n : Nat) : UInt8 := hexL.getD n 0
/-- the bytes that stand for a byte within quotes -/
def quote1 (c : UInt8) : List UInt8 :=
  bif decide (c.toNat = 34) || decide (c.toNat = 92) then [92, c]
  else bif decide (32 ≤ c.toNat) && decide (c.toNat ≤ 126) then [c]
  else [92, 120, hexd (c.toNat / 16), hexd (c.toNat % 16)]
def quoteB (s : List UInt8) : List UInt8 := s.flatMap quote1
def quoteL (s : List UInt8) : List UInt8 := 34 :: (quoteB s ++ [34])
end Go.Sx
set_option linter.unusedSimpArgs false
set_option linter.unusedVariables false
set_option maxRecDepth 100000
set_option maxHeartbeats 6400000
namespace Go.Proofs.YtogponhonjiidaaDoor
open Go Go.RowKit
theorem writeByte_k (B b : Nat) (l : List UInt8) (c : UInt8) (w : World) (h : Lib.IsBuffer 104 5 B b (Lib.byteCells l) w) (hBw : B ≤ w.heap.size) (hlim : l.length + 1 ≤ 140737488355328) :
    Calls Tryd.prog 69 #[.pointer (some ⟨b, 0, none⟩), .int .u8 c.toNat] w fun e w' => e = .returned .nilIface ∧ Lib.IsBuffer 104 5 B b (Lib.byteCells (l ++ [c])) w' ∧ Below B w w' := by
  refine (Any.Buffer_WriteByte_k Tryd.writeByteL B b (Lib.byteCells l) c.toNat w h hBw (Lib.byteCells_one _) (by rw [Lib.byteCells_length]; exact hlim)).mono ?_
  rintro e w' ⟨h1, h2, h3, _⟩
  exact ⟨h1, by rw [Lib.byteCells_append]; exact h2, h3⟩
theorem writeByte_z (B b : Nat) (l : List UInt8) (c : UInt8) (z : Int) (hz : (c.toNat : Int) = z) (w : World) (h : Lib.IsBuffer 104 5 B b (Lib.byteCells l) w) (hBw : B ≤ w.heap.size) (hlim : l.length + 1 ≤ 140737488355328) :
    Calls Tryd.prog 69 #[.pointer (some ⟨b, 0, none⟩), .int .u8 z] w fun e w' => e = .returned .nilIface ∧ Lib.IsBuffer 104 5 B b (Lib.byteCells (l ++ [c])) w' ∧ Below B w w' := by
  subst hz; exact writeByte_k B b l c w h hBw hlim
theorem writeString_k (B b : Nat) (l s : List UInt8) (w : World) (h : Lib.IsBuffer 104 5 B b (Lib.byteCells l) w) (hBw : B ≤ w.heap.size) (hlim : l.length + s.length ≤ 140737488355328) :
    Calls Tryd.prog 70 #[.pointer (some ⟨b, 0, none⟩), .string ⟨s.toArray⟩] w fun e w' => e = .returned (.tuple #[.int .i64 s.length, .nilIface]) ∧ Lib.IsBuffer 104 5 B b (Lib.byteCells (l ++ s)) w' ∧ Below B w w' := by
  refine (Any.Buffer_WriteString_k Tryd.writeStringL B b (Lib.byteCells l) ⟨s.toArray⟩ w h hBw (Lib.byteCells_one _) (by rw [Lib.byteCells_length]; simpa [ByteArray.size] using hlim)).mono ?_
  rintro e w' ⟨h1, h2, h3, _⟩
  exact ⟨by rw [h1]; simp [ByteArray.size], by rw [Lib.byteCells_append]; exact h2, h3⟩
theorem bufString_k (B b : Nat) (l : List UInt8) (w : World) (h : Lib.IsBuffer 104 5 B b (Lib.byteCells l) w) :
    Calls Tryd.prog 71 #[.pointer (some ⟨b, 0, none⟩)] w fun e w' => e = .returned (.string ⟨l.toArray⟩) ∧ ∃ n, w' = w.drewN n :=
  Any.Buffer_String Tryd.bufStringL B b l w h
theorem hexI (n : Nat) (h : n < 16) : ((ByteArray.mk #[48, 49, 50, 51, 52, 53, 54, 55, 56, 57, 97, 98, 99, 100, 101, 102])[n]'h).toNat = (Sx.hexd n).toNat := by
  revert n; decide
theorem quoteB_succ (s : List UInt8) (k : Nat) (hk : k < s.length) : Sx.quoteB (s.take (k + 1)) = Sx.quoteB (s.take k) ++ Sx.quote1 s[k] := by
  unfold Sx.quoteB
  rw [List.take_add_one, List.getElem?_eq_getElem hk, List.flatMap_append]
  simp
theorem quote1_le (c : UInt8) : (Sx.quote1 c).length ≤ 4 := by
  unfold Sx.quote1
  cases decide (c.toNat = 34) || decide (c.toNat = 92) <;> cases decide (32 ≤ c.toNat) && decide (c.toNat ≤ 126) <;> simp
theorem quoteB_le : ∀ s : List UInt8, (Sx.quoteB s).length ≤ 4 * s.length
  | [] => by simp [Sx.quoteB]
  | c :: s => by
    have h1 := quoteB_le s
    have h2 := quote1_le c
    unfold Sx.quoteB at h1 ⊢
    simp only [List.flatMap_cons, List.length_append, List.length_cons]
    omega
theorem quote_n (s : List UInt8) (hs : s.length ≤ 1000000000) (w : World) :
    Calls Tryd.prog 39 #[.string ⟨s.toArray⟩] w fun e w' => e = .returned (.string ⟨(Sx.quoteL s).toArray⟩) ∧ Below w.heap.size w w' := by
  have hI0 : Lib.IsBuffer 104 5 w.heap.size w.heap.size (Lib.byteCells []) (w.alloc (.cells #[.slice none 0 0, .int .i64 0, .int .i8 0] 104)) := Lib.fresh_isBuffer 104 5 w
  have hb0 : Below w.heap.size w (w.alloc (.cells #[.slice none 0 0, .int .i64 0, .int .i8 0] 104)) := (Below.refl _ w).alloc (Nat.le_refl _) _
  go_enter Tryd.func39, Tryd.ntmps39
  go_wp2_with (go_at_call 69; refine (writeByte_z w.heap.size w.heap.size [] 34 _ (by decide) _ hI0 (by simp) (by simp)).mono ?_; rintro e W1 ⟨rfl, hI1, hb1⟩)
  go_wp2
  go_loopw [4] (fun i wr => ∃ k : Nat, k ≤ s.length ∧ i = .int .i64 k ∧ Lib.IsBuffer 104 5 w.heap.size w.heap.size (Lib.byteCells ([34] ++ Sx.quoteB (s.take k))) wr ∧ Below w.heap.size w wr) (fun i _ => s.length - (intOf i).toNat)
  case atStart => exact ⟨0, Nat.zero_le _, rfl, hI1, hb0.trans hb1⟩
  case round =>
    obtain ⟨k, hk, rfl, hI, hb⟩ := hrel
    clear hI0 hb0 hI1 hb1
    by_cases hlt : k < s.length
    · have hl : ([34] ++ Sx.quoteB (s.take k)).length ≤ 4 * s.length + 1 := by
        have h1 := quoteB_le (s.take k)
        rw [List.length_take] at h1
        simp only [List.length_append, List.length_cons, List.length_nil]; omega
      have hn : [34] ++ Sx.quoteB (s.take (k + 1)) = ([34] ++ Sx.quoteB (s.take k)) ++ Sx.quote1 s[k] := by rw [quoteB_succ s k hlt, List.append_assoc]
      have hw := hb.size
      generalize [34] ++ Sx.quoteB (s.take k) = pre at hI hl hn
      have hcc : (ByteArray.mk s.toArray)[k]'hlt = s[k] := by simp [ByteArray.getElem_eq_getElem_data]
      generalize hc : s[k] = c at hn hcc
      have hc256 := UInt8.toNat_lt c
      by_cases h1 : c.toNat = 34
      · have i1 : (c.toNat : Int) = 34 := by omega
        have q1 : Sx.quote1 c = [92, c] := by simp [Sx.quote1, h1]
        go_wp2_with (go_at_call 69; refine (writeByte_z w.heap.size w.heap.size (pre) 92 _ (by decide) _ hI (by omega) (by simp; omega)).mono ?_; rintro e W2 ⟨rfl, hI2, hb2⟩)
        go_wp2_with (go_at_call 69; refine (writeByte_z w.heap.size w.heap.size (pre ++ [92]) c _ (by omega) _ hI2 (by have := hb2.size; omega) (by simp; omega)).mono ?_; rintro e W3 ⟨rfl, hI3, hb3⟩)
        go_wp2
        go_roundw
        case rel => exact ⟨k + 1, by omega, by go_num, by rw [hn]; rw [q1]; simpa using hI3, (hb.trans hb2).trans hb3⟩
        case measure => simp [intOf]; omega
      by_cases h2 : c.toNat = 92
      · have i1 : (c.toNat : Int) = 92 := by omega
        have q1 : Sx.quote1 c = [92, c] := by simp [Sx.quote1, h2]
        go_wp2_with (go_at_call 69; refine (writeByte_z w.heap.size w.heap.size (pre) 92 _ (by decide) _ hI (by omega) (by simp; omega)).mono ?_; rintro e W2 ⟨rfl, hI2, hb2⟩)
        go_wp2_with (go_at_call 69; refine (writeByte_z w.heap.size w.heap.size (pre ++ [92]) c _ (by omega) _ hI2 (by have := hb2.size; omega) (by simp; omega)).mono ?_; rintro e W3 ⟨rfl, hI3, hb3⟩)
        go_wp2
        go_roundw
        case rel => exact ⟨k + 1, by omega, by go_num, by rw [hn]; rw [q1]; simpa using hI3, (hb.trans hb2).trans hb3⟩
        case measure => simp [intOf]; omega
      have n1 : ¬ (c.toNat : Int) = 34 := by omega
      have n2 : ¬ (c.toNat : Int) = 92 := by omega
      have b1 : ((c.toNat : Int) == 34) = false := by simpa using n1
      have b2 : ((c.toNat : Int) == 92) = false := by simpa using n2
      by_cases h3 : 32 ≤ c.toNat ∧ c.toNat ≤ 126
      · have i1 : (32 : Int) ≤ (c.toNat : Int) := by omega
        have i2 : (c.toNat : Int) ≤ 126 := by omega
        have q1 : Sx.quote1 c = [c] := by simp [Sx.quote1, h1, h2, h3]
        go_wp2_with (go_at_call 69; refine (writeByte_z w.heap.size w.heap.size (pre) c _ (by first | rw [hcc] | omega) _ hI (by omega) (by simp; omega)).mono ?_; rintro e W2 ⟨rfl, hI2, hb2⟩)
        go_wp2
        go_roundw
        case rel => exact ⟨k + 1, by omega, by go_num, by rw [hn]; rw [q1]; exact hI2, hb.trans hb2⟩
        case measure => simp [intOf]; omega
      · have q1 : Sx.quote1 c = [92, 120] ++ [Sx.hexd (c.toNat / 16)] ++ [Sx.hexd (c.toNat % 16)] := by
          have : (decide (32 ≤ c.toNat) && decide (c.toNat ≤ 126)) = false := by rw [← Bool.not_eq_true]; simpa using h3
          simp [Sx.quote1, h1, h2, this]
        by_cases h4 : 32 ≤ c.toNat
        · have i1 : (32 : Int) ≤ (c.toNat : Int) := by omega
          have i2 : ¬ (c.toNat : Int) ≤ 126 := by omega
          go_wp2_with (go_at_call 70; refine (writeString_k w.heap.size w.heap.size pre [92, 120] _ hI hw (by simp; omega)).mono ?_; rintro e W2 ⟨rfl, hI2, hb2⟩)
          go_wp2_with (go_at_call 69; refine (writeByte_z w.heap.size w.heap.size (pre ++ [92, 120]) (Sx.hexd (c.toNat / 16)) _ (by rw [hexI _ (by omega)]) _ hI2 (by have := hb2.size; omega) (by simp; omega)).mono ?_; rintro e W3 ⟨rfl, hI3, hb3⟩)
          go_wp2_with (go_at_call 69; refine (writeByte_z w.heap.size w.heap.size (pre ++ [92, 120] ++ [Sx.hexd (c.toNat / 16)]) (Sx.hexd (c.toNat % 16)) _ (by rw [hexI _ (by omega)]) _ hI3 (by have := hb2.size; have := hb3.size; omega) (by simp; omega)).mono ?_; rintro e W4 ⟨rfl, hI4, hb4⟩)
          go_wp2
          go_roundw
          case rel => exact ⟨k + 1, by omega, by go_num, by rw [hn, q1]; simpa using hI4, ((hb.trans hb2).trans hb3).trans hb4⟩
          case measure => simp [intOf]; omega
        · have i1 : ¬ (32 : Int) ≤ (c.toNat : Int) := by omega
          go_wp2_with (go_at_call 70; refine (writeString_k w.heap.size w.heap.size pre [92, 120] _ hI hw (by simp; omega)).mono ?_; rintro e W2 ⟨rfl, hI2, hb2⟩)
          go_wp2_with (go_at_call 69; refine (writeByte_z w.heap.size w.heap.size (pre ++ [92, 120]) (Sx.hexd (c.toNat / 16)) _ (by rw [hexI _ (by omega)]) _ hI2 (by have := hb2.size; omega) (by simp; omega)).mono ?_; rintro e W3 ⟨rfl, hI3, hb3⟩)
          go_wp2_with (go_at_call 69; refine (writeByte_z w.heap.size w.heap.size (pre ++ [92, 120] ++ [Sx.hexd (c.toNat / 16)]) (Sx.hexd (c.toNat % 16)) _ (by rw [hexI _ (by omega)]) _ hI3 (by have := hb2.size; have := hb3.size; omega) (by simp; omega)).mono ?_; rintro e W4 ⟨rfl, hI4, hb4⟩)
          go_wp2
          go_roundw
          case rel => exact ⟨k + 1, by omega, by go_num, by rw [hn, q1]; simpa using hI4, ((hb.trans hb2).trans hb3).trans hb4⟩
          case measure => simp [intOf]; omega
    · have hall : s.take k = s := List.take_of_length_le (by omega)
      rw [hall] at hI
      have hl := quoteB_le s
      go_wp2_with (go_at_call 69; refine (writeByte_z w.heap.size w.heap.size _ 34 _ (by decide) _ hI hb.size (by simp; omega)).mono ?_; rintro e W2 ⟨rfl, hI2, hb2⟩)
      go_wp2_with (go_at_call 71; refine (bufString_k w.heap.size w.heap.size _ _ hI2).mono ?_; rintro e W3 ⟨rfl, n, rfl⟩)
      go_wp2
      go_ret
      exact ⟨by simp [Sx.quoteL], (hb.trans hb2).trans ⟨rfl, rfl, rfl, Nat.le_refl _, fun _ _ => rfl⟩⟩
theorem quote_c (s : List UInt8) (hs : s.length ≤ 1000000000) : Sx.PC Tryd.prog 39 [Sx.S s] (Sx.S (Sx.quoteL s)) := by
  refine Sx.PC.native ⟨_, Tryd.func39, by decide, rfl⟩ fun M ν w vs hf hv => ?_
  obtain ⟨x, rfl, h1⟩ := Sx.reps1 hv
  rw [Sx.rep_S] at h1
  subst h1
  refine Calls.mono (quote_n s hs w) ?_
  rintro e w' ⟨rfl, hb⟩
  exact ⟨_, rfl, by simp only [Sx.T.rep, Sx.Cell.rep, Sx.C.rep], hb⟩
end Go.Proofs.YtogponhonjiidaaDoor




