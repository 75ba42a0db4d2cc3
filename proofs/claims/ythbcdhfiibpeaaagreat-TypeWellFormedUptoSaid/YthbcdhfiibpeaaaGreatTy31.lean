/- Lemmas of the proof. -/
import Derived.Test.YthbcdhfiibpeaaaGreatTy21
open Go.Proofs.Tryz renaming prog → zP
open List renaming length_append → lA, length_map → lB, length_cons → lC, length_nil → lD, mem_singleton → lN, length_take → lQ
open Go.Sx.AWP renaming gh → xD
open Nat renaming reduceBEq → zA, reduceBNe → zB, reduceAdd → zC, reduceSub → zD, reduceMul → zE, reduceLeDiff → zF, reduceLT → zG, reduceEqDiff → zH
open Int renaming reduceToNat → zI, reduceLE → zJ, reduceLT → zK, reduceEq → zL
open Bool renaming not_eq_true' → zM, not_eq_false' → zN
set_option linter.unusedSimpArgs false
set_option linter.unusedVariables false
set_option maxRecDepth 20000
set_option maxHeartbeats 64000000
namespace Go.Proofs.YthbcdhfiibpeaaaGreat
open Go Go.Sx
def mapVal (ks : List KeyD) (vs : List Val) : Val := ⟨8, 0, [], vs, ks, [], []⟩
def kPos (ks : List KeyD) (x : KeyD) : Nat := tw (fun y => decide (keyC y x < 0)) ks
def mapGo : List (KeyD × Val) → List KeyD → List Val → Val × Int
  | [], ks, vs => (mapVal ks vs, 0)
  | (x, v) :: r, ks, vs => bif decide (ks[kPos ks x]? = some x) then (zeroVal, 6) else mapGo r (putAt (kPos ks x) x ks) (putAt (kPos ks x) v vs)
def mapV (ks : List KeyD) (l : List Val) : Val × Int :=
  bif decide ((ks.length : Int) = (l.length : Int)) then (bif ks.all validKeyB then mapGo (ks.zip l) [] [] else (zeroVal, 1)) else (zeroVal, 1)
abbrev mapBox (ks : List KeyD) (vs : List Val) : Res := .cells [.dat (.int .i64 8), .dat (.int .i64 0), .dat (.str []), .dat (.sl 7 (vs.map encVal)), .dat (.sl 2 (ks.map encKey)), .dat (.sl 9 []), .dat (.sl 1 [])]
theorem key_put (s : List KeyD) (k : Nat) (x : KeyD) : (List.map encKey (s.take k) ++ [encKey x]) ++ List.map encKey (s.drop k) = (putAt k x s).map encKey := by
  unfold putAt; simp
theorem key_end (s : List KeyD) (x : KeyD) : (List.map encKey s ++ [encKey x]) ++ List.map encKey (s.drop s.length) = (putAt s.length x s).map encKey := by
  unfold putAt; simp
theorem val_put (s : List Val) (k : Nat) (x : Val) : (List.map encVal (s.take k) ++ [encVal x]) ++ List.map encVal (s.drop k) = (putAt k x s).map encVal := by
  unfold putAt; simp
theorem zip_step {α β : Type} {a : List α} {b : List β} {k : Nat} {x : α} {y : β} (hx : a[k]? = some x) (hy : b[k]? = some y) : (a.zip b).drop k = (x, y) :: (a.zip b).drop (k + 1) := by
  obtain ⟨h1, e1⟩ := List.getElem?_eq_some_iff.1 hx
  obtain ⟨h2, e2⟩ := List.getElem?_eq_some_iff.1 hy
  have hlz : k < (a.zip b).length := by simp; try omega
  rw [List.drop_eq_getElem_cons hlz, List.getElem_zip, e1, e2]
theorem zip_end {α β : Type} {a : List α} {b : List β} : (a.zip b).drop a.length = [] := by
  rw [List.drop_eq_nil_iff]; simp; try omega
theorem zeroVt : Vt zeroVal = .st [.int .i64 0, .int .i64 0, .str [], .sl 7 [], .sl 2 [], .sl 9 [], .sl 1 []] := by rw [Vt, zeroVal_lit]
theorem refMap_c (ks : List KeyD) (l : List Val) (hkl : ks.length ≤ 1000000) : PC zP 93 [.one (.dat (.sl 2 (ks.map encKey))), .one (.dat (.sl 7 (l.map encVal)))] (.tup [Vt (mapV ks l).1, I .i64 (mapV ks l).2]) := by
 refine PCB.ob Tryz.func93 Tryz.ntmps93 Tryz.results93 ?_
 unfold mapV
 cases hl : decide ((ks.length : Int) = (l.length : Int))
 ·
  repeat' (first | (simp only [go_sem, zA, zB, zC, zD, zE, zF, zG, reduceCtorEq, zH, zI, zJ, zK, zL, lB, hl]; all_goals refine nf ?_) | (refine stp ?_; intro K hK) | (apply hK; clear hK K) | refine stn ?_ | (clear hK K))
  all_goals (first | exact fun _ h => absurd h List.not_mem_nil | refine fin0 ?_)
  all_goals (simp only [cond_false, zeroVt]; try rfl)
 have hkl2 : ks.length = l.length := by have := of_decide_eq_true hl; omega
 simp only [cond_true]
 repeat' (first | (simp only [go_sem, zA, zB, zC, zD, zE, zF, zG, reduceCtorEq, zH, zI, zJ, zK, zL, lB, hl]; all_goals refine nf ?_) | (refine stp ?_; intro K hK) | (apply hK; clear hK K) | refine stn ?_ | fail)
 refine AWP.len 0 rfl fun hlen0 => ?_
 (try rw [lB] at hlen0)
 refine AWP.range (S := Unit) (ks) encKey (fun k s => (6, I .i64 (k : Nat)) :: []) (fun k s => []) [0, 1, 4] [4] (fun k s => ks.all validKeyB = (ks.drop k).all validKeyB) (()) (by refine sts ?_; exact Gh.tt []) ?_ ?_ ?_
 ·rfl
 ·intro k s x hlt hx hx' hb hok
  refine sts ?_
  rw [all_step hx] at hok
  cases hz : validKeyB x <;> simp only [hz, Bool.true_and, Bool.false_and] at hok
  ·
   repeat' (first | (simp only [go_sem, zA, zB, zC, zD, zE, zF, zG, reduceCtorEq, zH, zI, zJ, zK, zL, lB, hb, hz]; all_goals refine nf ?_) | (refine stp ?_; intro K hK) | (apply hK; clear hK K) | refine stn ?_ | (with_reducible first | refine ⟨_, validKey_c x, ?_⟩ | refine ⟨by omega, encKey x, hx', ?_⟩) | refine stq ?_ | (clear hK K))
   all_goals (refine fin0 ?_; simp only [hok, cond_false, zeroVt]; try rfl)
  ·
   repeat' (first | (simp only [go_sem, zA, zB, zC, zD, zE, zF, zG, reduceCtorEq, zH, zI, zJ, zK, zL, lB, hb, hz]; all_goals refine nf ?_) | (refine stp ?_; intro K hK) | (apply hK; clear hK K) | refine stn ?_ | (with_reducible first | refine ⟨_, validKey_c x, ?_⟩ | refine ⟨by omega, encKey x, hx', ?_⟩) | refine stq ?_ | (clear hK K))
   all_goals (rw [wrap_succ hlt hlen0])
   all_goals (refine ⟨(), ?_, Gh.tt []⟩)
   all_goals exact hok
 intro s0 hb0 hok0
 refine sts ?_
 rw [all_end] at hok0
 simp only [hok0, cond_true]
 repeat' (first | (simp only [go_sem, zA, zB, zC, zD, zE, zF, zG, reduceCtorEq, zH, zI, zJ, zK, zL, lB, hb0]; all_goals refine nf ?_) | (refine stp ?_; intro K hK) | (apply hK; clear hK K) | refine stn ?_ | (clear hK K))
 refine xD (Gh.soft 7 rfl) ?_
 refine AWP.len 0 rfl fun hlen1 => ?_
 (try rw [lB] at hlen1)
 refine AWP.range (S := List KeyD × List Val) (ks) encKey (fun k s => (8, I .i64 (k : Nat)) :: []) (fun k s => [(7, mapBox s.1 s.2)]) [0, 1, 4, 7] [4] (fun k s => mapGo (ks.zip l) [] [] = mapGo ((ks.zip l).drop k) s.1 s.2 ∧ s.1.length ≤ k ∧ s.1.length = s.2.length) (([], [])) (by refine sts ?_; exact Gh.tt []) ?_ ?_ ?_
 ·exact ⟨rfl, Nat.le_refl _, rfl⟩
 ·rintro k ⟨aks, vs⟩ x hlt hx hx' hb ⟨hok, hsl, hsv⟩
  simp only at hok hsl hsv
  obtain ⟨v, hv, hv', _, _⟩ := at_lt (enc := encVal) (show k < l.length by omega)
  rw [zip_step hx hv, mapGo] at hok
  refine sts ?_
  repeat' (first | (simp only [go_sem, zA, zB, zC, zD, zE, zF, zG, reduceCtorEq, zH, zI, zJ, zK, zL, lB, hb]; all_goals refine nf ?_) | (refine stp ?_; intro K hK) | (apply hK; clear hK K) | refine stn ?_ | fail)
  refine AWP.loopF (X := Nat) (fun j => [(9, I .i64 j)]) (fun j => []) [0, 1, 4, 7, 8] [4, 7] (fun j => j ≤ aks.length ∧ kPos aks x = j + tw (fun y => decide (keyC y x < 0)) (aks.drop j)) (fun j => aks.length - j) (0) (by refine sts ?_; exact Gh.tt []) ?_ ?_
  ·exact ⟨Nat.zero_le _, by simp [kPos]⟩
  rintro j ⟨hj, hp⟩
  refine sts ?_
  by_cases hjl : j < aks.length
  ·obtain ⟨y, hy, hy', hbj, _⟩ := at_lt (enc := encKey) hjl
   have hvl : j < vs.length := by omega
   rw [tw_step hy] at hp
   have hcc := refKeys_c y x
   cases hz : decide (keyC y x < 0) <;> simp only [hz, cond_true, cond_false, Nat.add_zero] at hp
   ·have hdx : decide (aks[kPos aks x]? = some x) = decide (y = x) := by rw [hp, hy]; simp
    rw [hdx, hp] at hok
    cases hyx : decide (y = x) <;> simp only [hyx, cond_true, cond_false] at hok
    ·
     repeat' (first | (simp only [go_sem, zA, zB, zC, zD, zE, zF, zG, reduceCtorEq, zH, zI, zJ, zK, zL, lB, hbj, hb, hz, hyx, eqKeyT, keyEq, Int.toNat_natCast, List.drop_zero, List.take_length, take_map', drop_map', key_put, val_put]; all_goals refine nf ?_) | (refine stp ?_; intro K hK) | (apply hK; clear hK K) | refine stn ?_ | (with_reducible first | (refine ⟨_, _, _, copies_n (vs.take j) (by simp only [lQ]; omega), ?_⟩) | refine ⟨_, hcc, ?_⟩ | refine ⟨by omega, encKey x, hx', ?_⟩ | refine ⟨by omega, encKey y, hy', ?_⟩ | refine ⟨by omega, encVal v, hv', ?_⟩ | (refine ⟨(by first | omega | (simp only [lA, lB, lQ, List.length_drop, lC, lD, List.length_replicate]; omega) : _ ≤ _), ?_⟩)) | (with_reducible refine AWP.genM (id := 17) [4,9] mixed (by kernel_rfl) fun K hK => ?_) | (with_reducible refine AWP.genR2 (id := 18) [6,11,13] [80,7] [8] 13 [80] mixed (by kernel_rfl) fun K hK => ?_; simp only [Bx.outs, Bx.drop, cond_true, cond_false, Nat.reduceBEq, go_sem]) | (with_reducible refine AWP.genR2 (id := 19) [6,11,13] [85,7] [8] 13 [85] mixed (by kernel_rfl) fun K hK => ?_; simp only [Bx.outs, Bx.drop, cond_true, cond_false, Nat.reduceBEq, go_sem]) | (refine stp' ?_; intro K hK) | refine stq ?_ | (clear hK K))
     all_goals (rw [wrap_succ hlt hlen1])
     all_goals (refine ⟨(putAt j x aks, putAt j v vs), ?_, ?_⟩)
     all_goals (try first
      | (refine Gh.trans (Gh.freeze 97 rfl rfl (by simp only [go_sem, zA, zB, zC, zD, zE, zF, zG, reduceCtorEq, zH, zI, zJ, zK, zL, lB, lA]) (by simp only [go_sem, zA, zB, zC, zD, zE, zF, zG, reduceCtorEq, zH, zI, zJ, zK, zL, lB, lA])) ?_; simp only [go_sem, zA, zB, zC, zD, zE, zF, zG, reduceCtorEq, zH, zI, zJ, zK, zL, lB, lA]; refine Gh.trans (Gh.freeze 110 rfl rfl (by simp only [go_sem, zA, zB, zC, zD, zE, zF, zG, reduceCtorEq, zH, zI, zJ, zK, zL, lB, lA]) (by simp only [go_sem, zA, zB, zC, zD, zE, zF, zG, reduceCtorEq, zH, zI, zJ, zK, zL, lB, lA])) ?_; simp only [go_sem, zA, zB, zC, zD, zE, zF, zG, reduceCtorEq, zH, zI, zJ, zK, zL, lB, lA]; exact Gh.tt [])
      | (exact Gh.tt []))
     all_goals (refine ⟨hok, by simp only [putAt_len]; omega, by simp only [putAt_len]; omega⟩)
    ·
     repeat' (first | (simp only [go_sem, zA, zB, zC, zD, zE, zF, zG, reduceCtorEq, zH, zI, zJ, zK, zL, lB, hbj, hb, hz, hyx, eqKeyT, keyEq]; all_goals refine nf ?_) | (refine stp ?_; intro K hK) | (apply hK; clear hK K) | refine stn ?_ | (with_reducible first | refine ⟨_, hcc, ?_⟩ | refine ⟨by omega, encKey x, hx', ?_⟩ | refine ⟨by omega, encKey y, hy', ?_⟩) | (refine stp' ?_; intro K hK) | (clear hK K))
     all_goals (refine fin0 ?_; simp only [hok0, hok, cond_true, zeroVt]; try rfl)
   ·
    repeat' (first | (simp only [go_sem, zA, zB, zC, zD, zE, zF, zG, reduceCtorEq, zH, zI, zJ, zK, zL, lB, hbj, hz]; all_goals refine nf ?_) | (refine stp ?_; intro K hK) | (apply hK; clear hK K) | refine stn ?_ | (with_reducible first | refine ⟨_, hcc, ?_⟩ | refine ⟨by omega, encKey x, hx', ?_⟩ | refine ⟨by omega, encKey y, hy', ?_⟩) | (refine stp' ?_; intro K hK) | (clear hK K))
    all_goals (rw [wrap_succ hjl (by omega)])
    all_goals (refine ⟨j + 1, by omega, ⟨by omega, by omega⟩, Gh.tt []⟩)
  ·have hjs : j = aks.length := by omega
   subst hjs
   have hbj : decide ((aks.length : Int) < (aks.length : Int)) = false := by simp
   rw [tw_end, Nat.add_zero] at hp
   have hdx : decide (aks[kPos aks x]? = some x) = false := by rw [hp]; simp
   rw [hdx, hp] at hok
   simp only [cond_false] at hok
   repeat' (first | (simp only [go_sem, zA, zB, zC, zD, zE, zF, zG, reduceCtorEq, zH, zI, zJ, zK, zL, lB, hbj, hb, Int.toNat_natCast, List.drop_zero, List.take_length, take_map', drop_map', key_end, val_put]; all_goals refine nf ?_) | (refine stp ?_; intro K hK) | (apply hK; clear hK K) | refine stn ?_ | (with_reducible first | (refine ⟨_, _, _, copies_n (vs.take aks.length) (by simp only [lQ]; omega), ?_⟩) | refine ⟨by omega, encKey x, hx', ?_⟩ | refine ⟨by omega, encVal v, hv', ?_⟩ | (refine ⟨(by first | omega | (simp only [lA, lB, lQ, List.length_drop, lC, lD, List.length_replicate]; omega) : _ ≤ _), ?_⟩)) | (with_reducible refine AWP.genM (id := 17) [4,9] mixed (by kernel_rfl) fun K hK => ?_) | (with_reducible refine AWP.genR2 (id := 18) [6,11,13] [80,7] [8] 13 [80] mixed (by kernel_rfl) fun K hK => ?_; simp only [Bx.outs, Bx.drop, cond_true, cond_false, Nat.reduceBEq, go_sem]) | (with_reducible refine AWP.genR2 (id := 19) [6,11,13] [85,7] [8] 13 [85] mixed (by kernel_rfl) fun K hK => ?_; simp only [Bx.outs, Bx.drop, cond_true, cond_false, Nat.reduceBEq, go_sem]) | (refine stp' ?_; intro K hK) | refine stq ?_ | (clear hK K))
   all_goals (rw [wrap_succ hlt hlen1])
   all_goals (refine ⟨(putAt aks.length x aks, putAt aks.length v vs), ?_, ?_⟩)
   all_goals (try first
    | (refine Gh.trans (Gh.freeze 97 rfl rfl (by simp only [go_sem, zA, zB, zC, zD, zE, zF, zG, reduceCtorEq, zH, zI, zJ, zK, zL, lB, lA]) (by simp only [go_sem, zA, zB, zC, zD, zE, zF, zG, reduceCtorEq, zH, zI, zJ, zK, zL, lB, lA])) ?_; simp only [go_sem, zA, zB, zC, zD, zE, zF, zG, reduceCtorEq, zH, zI, zJ, zK, zL, lB, lA]; refine Gh.trans (Gh.freeze 110 rfl rfl (by simp only [go_sem, zA, zB, zC, zD, zE, zF, zG, reduceCtorEq, zH, zI, zJ, zK, zL, lB, lA]) (by simp only [go_sem, zA, zB, zC, zD, zE, zF, zG, reduceCtorEq, zH, zI, zJ, zK, zL, lB, lA])) ?_; simp only [go_sem, zA, zB, zC, zD, zE, zF, zG, reduceCtorEq, zH, zI, zJ, zK, zL, lB, lA]; exact Gh.tt [])
    | (exact Gh.tt []))
   all_goals (refine ⟨hok, by simp only [putAt_len]; omega, by simp only [putAt_len]; omega⟩)
 ·rintro ⟨aks, vs⟩ hb ⟨hok, _, _⟩
  simp only at hok
  rw [zip_end, mapGo] at hok
  refine sts ?_
  repeat' (first | (simp only [go_sem, zA, zB, zC, zD, zE, zF, zG, reduceCtorEq, zH, zI, zJ, zK, zL, lB, hb]; all_goals refine nf ?_) | (refine stp ?_; intro K hK) | (apply hK; clear hK K) | refine stn ?_ | (clear hK K))
  all_goals (refine fin0 ?_; simp only [hok0, hok, cond_true, Vt, encVal_eq (mapVal aks vs)]; try rfl)
def funVal (n : Int) (l : List Ent) : Val := ⟨9, n, [], [], [], l, []⟩
def fnV (n : Int) (l : List Ent) : Val × Int :=
  bif decide (n < 0) || decide (4 < n) then (zeroVal, 1) else (bif l.all (fun e => entB e n) then (funVal n (entriesV l), 0) else (zeroVal, 1))
theorem refFunction_c (n : Int) (l : List Ent) (hll : l.length ≤ 1000000) : PC zP 95 [I .i64 n, .one (.dat (.sl 9 (l.map encEnt)))] (.tup [Vt (fnV n l).1, I .i64 (fnV n l).2]) := by
 have hen := entries_c l hll
 refine PCB.ob Tryz.func95 Tryz.ntmps95 Tryz.results95 ?_
 unfold fnV
 cases hn : decide (n < 0)
 ·cases hm : decide (4 < n)
  ·simp only [Bool.or_false, cond_false]
   repeat' (first | (simp only [go_sem, zA, zB, zC, zD, zE, zF, zG, reduceCtorEq, zH, zI, zJ, zK, zL, hn, hm, lB]; all_goals refine nf ?_) | (refine stp ?_; intro K hK) | (apply hK; clear hK K) | refine stn ?_ | fail)
   refine AWP.len 1 rfl fun hlen0 => ?_
   (try rw [lB] at hlen0)
   refine AWP.range (S := Unit) (l) encEnt (fun k s => (6, I .i64 (k : Nat)) :: []) (fun k s => []) [0, 1, 4] [4] (fun k s => (l.all fun e => entB e n) = ((l.drop k).all fun e => entB e n)) (()) (by refine sts ?_; exact Gh.tt []) ?_ ?_ ?_
   ·rfl
   ·intro k s x hlt hx hx' hb hok
    refine sts ?_
    rw [all_step hx] at hok
    rw [show entB x n = (decide ((x.1.length : Int) = n) && (!x.2.1 || isZeroB x.2.2)) from rfl] at hok
    have heq := refEqual_c x.2.2 zeroVal
    rw [zeroVal_lit, encVal_eq] at heq
    cases hl : decide ((x.1.length : Int) = n) <;> cases hf : x.2.1 <;> cases hz : decide (valC x.2.2 zeroVal = 0)
    all_goals (simp only [isZeroB, hl, hf, hz, Bool.and_true, Bool.and_false, Bool.true_and, Bool.false_and, Bool.or_true, Bool.or_false, Bool.true_or, Bool.false_or, Bool.not_true, Bool.not_false] at hok)
    all_goals
     repeat' (first | (simp only [go_sem, zA, zB, zC, zD, zE, zF, zG, reduceCtorEq, zH, zI, zJ, zK, zL, encEnt_eq x, lB, hb, hz, hl, hf]; all_goals refine nf ?_) | (refine stp ?_; intro K hK) | (apply hK; clear hK K) | refine stn ?_ | (with_reducible first | refine ⟨_, heq, ?_⟩ | refine ⟨by omega, encEnt x, hx', ?_⟩) | refine stq ?_ | (clear hK K))
    any_goals (first | exact fun _ h => absurd h List.not_mem_nil | (refine fin0 ?_; simp only [hok, cond_false, zeroVt]; try rfl))
    all_goals (rw [wrap_succ hlt hlen0])
    all_goals (refine ⟨(), ?_, Gh.tt []⟩)
    all_goals exact hok
   ·intro s hb hok
    refine sts ?_
    rw [all_end] at hok
    repeat' (first | (simp only [go_sem, zA, zB, zC, zD, zE, zF, zG, reduceCtorEq, zH, zI, zJ, zK, zL, lB, hb]; all_goals refine nf ?_) | (refine stp ?_; intro K hK) | (apply hK; clear hK K) | refine stn ?_ | (with_reducible refine ⟨_, hen, ?_⟩) | refine stq ?_ | (clear hK K))
    all_goals (refine fin0 ?_; simp only [hok, cond_true, Vt, encVal_eq (funVal n (entriesV l))]; try rfl)
  ·
   repeat' (first | (simp only [go_sem, zA, zB, zC, zD, zE, zF, zG, reduceCtorEq, zH, zI, zJ, zK, zL, hn, hm]; all_goals refine nf ?_) | (refine stp ?_; intro K hK) | (apply hK; clear hK K) | refine stn ?_ | (clear hK K))
   all_goals (first | exact fun _ h => absurd h List.not_mem_nil | refine fin0 ?_)
   all_goals (simp only [Bool.or_true, Bool.or_false, cond_true, zeroVt]; try rfl)
 ·
  repeat' (first | (simp only [go_sem, zA, zB, zC, zD, zE, zF, zG, reduceCtorEq, zH, zI, zJ, zK, zL, hn]; all_goals refine nf ?_) | (refine stp ?_; intro K hK) | (apply hK; clear hK K) | refine stn ?_ | (clear hK K))
  all_goals (first | exact fun _ h => absurd h List.not_mem_nil | refine fin0 ?_)
  all_goals (simp only [Bool.true_or, cond_true, zeroVt]; try rfl)
def listM {α : Type} (f : Src → α × Src) : Nat → Src → List α × Src
  | 0, s => ([], s)
  | n + 1, s => ((f s).1 :: (listM f n (f s).2).1, (listM f n (f s).2).2)
theorem listM_step {α : Type} (f : Src → α × Src) (n : Nat) (s : Src) (acc : List α) : (acc ++ (listM f (n + 1) s).1, (listM f (n + 1) s).2) = ((acc ++ [(f s).1]) ++ (listM f n (f s).2).1, (listM f n (f s).2).2) := by
  simp [listM]
theorem listM_len {α : Type} (f : Src → α × Src) : ∀ (n : Nat) (s : Src), (listM f n s).1.length = n
  | 0, s => rfl
  | n + 1, s => by simp [listM, listM_len f n]
theorem listM_ok {α : Type} {f : Src → α × Src} (hf : ∀ s : Src, s.ok → (f s).2.ok) : ∀ (n : Nat) (s : Src), s.ok → (listM f n s).2.ok
  | 0, s, h => h
  | n + 1, s, h => by unfold listM; exact listM_ok hf n _ (hf s h)
theorem listM_mem {α : Type} {f : Src → α × Src} {p : α → Prop} (hf : ∀ s : Src, p (f s).1) : ∀ (n : Nat) (s : Src), ∀ x ∈ (listM f n s).1, p x
 | 0, s, x, h => by simp [listM] at h
 | n + 1, s, x, h => by
  simp only [listM, List.mem_cons] at h
  rcases h with rfl | h
  ·exact hf s
  ·exact listM_mem hf n _ x h
def ValueC (f : Src → Val × Src) (h : Nat) : Prop := ∀ s : Src, s.ok → PCB zP 16 [Sp pin, I .i64 h] [(pin, srcB s)] (Vt (f s).1) [(pin, srcB (f s).2)]
theorem ValueC.k {f : Src → Val × Src} {h : Nat} (H : ValueC f h) (k : Nat) (s : Src) (hs : s.ok) : PCBk zP 16 [Sp k, I .i64 h] k (srcB s) (Vt (f s).1) (srcB (f s).2) := PCBk.mk k (H s hs)
def entryV (f : Src → Val × Src) (n : Nat) (s : Src) : Ent × Src :=
  bif decide (nextV (listM f n s).2 4 = 1) then (((listM f n s).1, true, zeroVal), nextS (listM f n s).2 4)
  else (((listM f n s).1, false, (f (nextS (listM f n s).2 4)).1), (f (nextS (listM f n s).2 4)).2)
theorem entry_ok {f : Src → Val × Src} (hf : ∀ s : Src, s.ok → (f s).2.ok) (n : Nat) {s : Src} (h : s.ok) : (entryV f n s).2.ok := by
  unfold entryV
  have h1 := listM_ok hf n s h
  cases decide (nextV (listM f n s).2 4 = 1)
  · exact hf _ (ok_next h1 4)
  · exact ok_next h1 4
abbrev entBox (n : Nat) : Res := .cells [.own 900 n, .dat (.bool false), .dat (.int .i64 0), .dat (.int .i64 0), .dat (.str []), .dat (.nil 7), .dat (.nil 2), .dat (.nil 9), .dat (.nil 1)]
theorem entry_c {f : Src → Val × Src} {h : Nat} (H : ValueC f h) (hf : ∀ s : Src, s.ok → (f s).2.ok) (n : Nat) (hn : n ≤ 1000) (s : Src) (hs : s.ok) :
  PCB zP 94 [Sp pin, I .i64 n, I .i64 h] [(pin, srcB s)] (.st (encEnt (entryV f n s).1)) [(pin, srcB (entryV f n s).2)] := by
 refine PCB.ob Tryz.func94 Tryz.ntmps94 Tryz.results94 ?_
 repeat' (first | (simp only [go_sem, zA, zB, zC, zD, zE, zF, zG, reduceCtorEq, zH, zI, zJ, zK, zL, pin]; all_goals refine nf ?_) | (refine stp ?_; intro K hK) | (apply hK; clear hK K) | refine stn ?_ | fail)
 refine xD (Gh.nilcell 7 0 900 rfl rfl rfl (by simp only [go_sem, zA, zB, zC, zD, zE, zF, zG, reduceCtorEq, zH, zI, zJ, zK, zL]) (by simp only [go_sem, zA, zB, zC, zD, zE, zF, zG, reduceCtorEq, zH, zI, zJ, zK, zL])) ?_
 refine AWP.loopF (X := Nat × Src × List Val) (fun x => [(0, Sp 1000000), (1, I .i64 x.1)]) (fun x => [(1000000, srcB x.2.1), (7, entBox x.2.2.length), (900, .row 7 (x.2.2.map encVal))]) [2, 6, 7] [6] (fun x => x.1 + x.2.2.length ≤ 1000 ∧ x.2.1.ok ∧ listM f n s = (x.2.2 ++ (listM f x.1 x.2.1).1, (listM f x.1 x.2.1).2)) (fun x => x.1) ((n, s, [])) (by refine sts ?_; exact Gh.tt []) ?_ ?_
 ·exact ⟨by simp; exact hn, hs, by simp⟩
 rintro ⟨m, t, acc⟩ ⟨hl, ht, hp⟩
 simp only at hl ht hp
 refine sts ?_
 cases m with
 | succ m =>
  rw [listM_step] at hp
  have hw2 : IntKind.i64.wrap (((m + 1 : Nat) : Int) - 1) = (m : Int) := wrap_pred_nat (by omega)
  repeat' (first | (simp only [go_sem, zA, zB, zC, zD, zE, zF, zG, reduceCtorEq, zH, zI, zJ, zK, zL, pin, lB, dec_pos, hw2, val_snoc]; all_goals refine nf ?_) | (refine stp ?_; intro K hK) | (apply hK; clear hK K) | refine stn ?_ | (with_reducible (refine ⟨(by first | omega | (simp only [lA, lB, lQ, List.length_drop, lC, lD, List.length_replicate]; omega) : _ ≤ _), ?_⟩)) | (refine ⟨1000000, _, _, _, H.k 1000000 t ht, rfl, ?_⟩) | (with_reducible refine AWP.genR2 (id := 4) [4,6,8] [1000000,7,900] [1] 8 [1000000,900] mixed (by kernel_rfl) fun K hK => ?_; simp only [Bx.outs, Bx.drop, cond_true, cond_false, Nat.reduceBEq, go_sem]) | (clear hK K))
  all_goals (refine ⟨(m, (f t).2, acc ++ [(f t).1]), by simp only; omega, ⟨by simp; omega, hf t ht, hp⟩, Gh.tt [(900, 18)]⟩)
 | zero =>
  rw [listM, List.append_nil] at hp
  have h0 : decide ((0 : Int) < ((0 : Nat) : Int)) = false := by simp
  refine xD (Gh.fz 900) ?_
  simp only [go_sem, zA, zB, zC, zD, zE, zF, zG, reduceCtorEq, zH, zI, zJ, zK, zL, lB]
  repeat' (first | (simp only [go_sem, zA, zB, zC, zD, zE, zF, zG, reduceCtorEq, zH, zI, zJ, zK, zL, pin, h0]; all_goals refine nf ?_) | (refine stp ?_; intro K hK) | (apply hK; clear hK K) | refine stn ?_ | (refine AWP.cnd ?_ ?_ <;> intro h <;> (try simp only [zM, zN] at h)) | (refine ⟨1000000, _, _, _, next_k 1000000 t ht 4 (by omega), rfl, ?_⟩) | (refine ⟨1000000, _, _, _, H.k 1000000 _ (ok_next ht 4), rfl, ?_⟩) | refine stq ?_ | (clear hK K))
  all_goals (simp only [entryV, hp, *, cond_true, cond_false])
  all_goals (first | refine ⟨by first | rfl | (simp only [encEnt_eq, encVal_eq]; done) | (simp only [encEnt_eq, encVal_eq]; rfl), fun x hx => ?_⟩ | refine ⟨trivial, fun x hx => ?_⟩)
  all_goals (simp only [lN] at hx; subst hx; simp [pin])
def lab (r : Val × Src) : Val × Src := ({ r.1 with labels := (labelsV r.2).1 }, (labelsV r.2).2)
def pairM (f : Src → Val × Src) : Nat → Src → (List KeyD × List Val) × Src
  | 0, s => (([], []), s)
  | n + 1, s => (((keyV s).1 :: (pairM f n (f (keyV s).2).2).1.1, (f (keyV s).2).1 :: (pairM f n (f (keyV s).2).2).1.2), (pairM f n (f (keyV s).2).2).2)
theorem pairM_step (f : Src → Val × Src) (n : Nat) (s : Src) (a : List KeyD) (b : List Val) :
  ((a ++ (pairM f (n + 1) s).1.1, b ++ (pairM f (n + 1) s).1.2), (pairM f (n + 1) s).2) = (((a ++ [(keyV s).1]) ++ (pairM f n (f (keyV s).2).2).1.1, (b ++ [(f (keyV s).2).1]) ++ (pairM f n (f (keyV s).2).2).1.2), (pairM f n (f (keyV s).2).2).2) := by
 simp [pairM]
theorem pairM_ok {f : Src → Val × Src} (hf : ∀ s : Src, s.ok → (f s).2.ok) : ∀ (n : Nat) (s : Src), s.ok → (pairM f n s).2.ok
  | 0, s, h => h
  | n + 1, s, h => by unfold pairM; exact pairM_ok hf n _ (hf _ (ok_key h))
def tailV (f0 : Src → Val × Src) (big : Bool) (s : Src) : Val × Src :=
  bif big then (bif decide (nextV s 2 = 1) then (consVal (f0 (nextS s 2)).1 nilVal, (f0 (nextS s 2)).2) else (nilVal, nextS s 2)) else (nilVal, s)
def valueK (f1 f0 : Src → Val × Src) (big : Bool) (k : Int) (s : Src) : Val × Src :=
  bif decide (k = 1) then (tupVal (listM f1 (nextV s 4).toNat (nextS s 4)).1, (listM f1 (nextV s 4).toNat (nextS s 4)).2) else
  bif decide (k = 2) then (consVal (f1 (lab (tailV f0 big s)).2).1 (lab (tailV f0 big s)).1, (f1 (lab (tailV f0 big s)).2).2) else
  bif decide (k = 3) then
    (bif decide ((mapV (pairM f1 (nextV s 3).toNat (nextS s 3)).1.1 (pairM f1 (nextV s 3).toNat (nextS s 3)).1.2).2 = 0) then ((mapV (pairM f1 (nextV s 3).toNat (nextS s 3)).1.1 (pairM f1 (nextV s 3).toNat (nextS s 3)).1.2).1, (pairM f1 (nextV s 3).toNat (nextS s 3)).2)
     else leafV (pairM f1 (nextV s 3).toNat (nextS s 3)).2) else
  bif decide (k = 4) then
    (bif decide ((fnV (nextV s 3) (listM (entryV f1 (nextV s 3).toNat) (nextV (nextS s 3) 3).toNat (nextS (nextS s 3) 3)).1).2 = 0) then ((fnV (nextV s 3) (listM (entryV f1 (nextV s 3).toNat) (nextV (nextS s 3) 3).toNat (nextS (nextS s 3) 3)).1).1, (listM (entryV f1 (nextV s 3).toNat) (nextV (nextS s 3) 3).toNat (nextS (nextS s 3) 3)).2)
     else leafV (listM (entryV f1 (nextV s 3).toNat) (nextV (nextS s 3) 3).toNat (nextS (nextS s 3) 3)).2) else
  leafV s
def valueF : Nat → Src → Val × Src
  | 0 => leafV
  | 1 => leafV
  | h + 2 => fun s => valueK (fun s => lab (valueF (h + 1) s)) (fun s => lab (valueF h s)) (decide (0 < h)) (nextV s 6) (nextS s 6)
def fullV (h : Nat) (s : Src) : Val × Src := lab (valueF h s)
theorem ok_lab {r : Val × Src} (h : r.2.ok) : (lab r).2.ok := ok_labels h
theorem ok_tail {f0 : Src → Val × Src} (h0 : ∀ s : Src, s.ok → (f0 s).2.ok) (big : Bool) {s : Src} (h : s.ok) : (tailV f0 big s).2.ok := by
  unfold tailV
  cases big <;> cases decide (nextV s 2 = 1) <;> first | exact h | exact ok_next h 2 | exact h0 _ (ok_next h 2)
theorem ok_valueK {f1 f0 : Src → Val × Src} (h1 : ∀ s : Src, s.ok → (f1 s).2.ok) (h0 : ∀ s : Src, s.ok → (f0 s).2.ok) (big : Bool) (k : Int) {s : Src} (h : s.ok) : (valueK f1 f0 big k s).2.ok := by
 have n4 := ok_next h 4
 have n3 := ok_next h 3
 have n33 := ok_next n3 3
 unfold valueK
 cases decide (k = 1) <;> simp only [cond_true, cond_false]
 ·cases decide (k = 2) <;> simp only [cond_true, cond_false]
  ·cases decide (k = 3) <;> simp only [cond_true, cond_false]
   ·cases decide (k = 4) <;> simp only [cond_true, cond_false]
    ·exact ok_leaf h
    ·have hx := listM_ok (f := entryV f1 (nextV s 3).toNat) (fun t ht => entry_ok h1 _ ht) (nextV (nextS s 3) 3).toNat _ n33
     generalize decide ((fnV _ _).2 = 0) = b
     cases b
     ·exact ok_leaf hx
     ·exact hx
   ·have hx := pairM_ok h1 (nextV s 3).toNat _ n3
    generalize decide ((mapV _ _).2 = 0) = b
    cases b
    ·exact ok_leaf hx
    ·exact hx
  ·exact h1 _ (ok_lab (ok_tail h0 big h))
 ·exact listM_ok h1 _ _ n4
theorem ok_value : ∀ (h : Nat) (s : Src), s.ok → (valueF h s).2.ok
  | 0, s, hs => ok_leaf hs
  | 1, s, hs => ok_leaf hs
  | h + 2, s, hs => ok_valueK (fun s hs => ok_lab (ok_value (h + 1) s hs)) (fun s hs => ok_lab (ok_value h s hs)) _ _ (ok_next hs 6)
theorem ok_full (h : Nat) (s : Src) (hs : s.ok) : (fullV h s).2.ok := ok_lab (ok_value h s hs)
def ValC (f : Src → Val × Src) (h : Nat) : Prop := ∀ s : Src, s.ok → PCB zP 55 [Sp pin, I .i64 h] [(pin, srcB s)] (Vt (f s).1) [(pin, srcB (f s).2)]
theorem ValC.k {f : Src → Val × Src} {h : Nat} (H : ValC f h) (k : Nat) (s : Src) (hs : s.ok) : PCBk zP 55 [Sp k, I .i64 h] k (srcB s) (Vt (f s).1) (srcB (f s).2) := PCBk.mk k (H s hs)
theorem full_c {f : Src → Val × Src} {h : Nat} (H : ValC f h) (hf : ∀ s : Src, s.ok → (f s).2.ok) : ValueC (fun s => lab (f s)) h := by
  intro s hs
  refine PCB.ob Tryz.func16 Tryz.ntmps16 Tryz.results16 ?_
  repeat' (first | (simp only [go_sem, zA, zB, zC, zD, zE, zF, zG, reduceCtorEq, zH, zI, zJ, zK, zL, pin, encVal_eq]; all_goals refine nf ?_) | (refine stp ?_; intro K hK) | (apply hK; clear hK K) | refine stn ?_ | (refine ⟨1000000, _, _, _, H.k 1000000 s hs, rfl, ?_⟩) | (refine ⟨1000000, _, _, _, labels_k 1000000 _ (hf s hs), rfl, ?_⟩) | refine stq ?_ | fail)
  all_goals (refine ⟨?_, fun x hx => ?_⟩)
  any_goals (simp only [lN] at hx; subst hx; simp [pin, lab])
  all_goals (simp only [lab, Vt, encVal_eq]; try rfl)
theorem value_leaf (h : Nat) (hh : h ≤ 1) : ValC leafV h := by
  intro s hs
  have hb : decide ((h : Int) ≤ 1) = true := by simp; omega
  refine PCB.ob Tryz.func55 Tryz.ntmps55 Tryz.results55 ?_
  repeat' (first | (simp only [go_sem, zA, zB, zC, zD, zE, zF, zG, reduceCtorEq, zH, zI, zJ, zK, zL, pin, hb]; all_goals refine nf ?_) | (refine stp ?_; intro K hK) | (apply hK; clear hK K) | refine stn ?_ | (refine ⟨1000000, _, _, _, leaf_k 1000000 s hs, rfl, ?_⟩) | refine stq ?_ | (clear hK K))
  all_goals (first | exact fun x hx => hx | (refine ⟨rfl, fun x hx => ?_⟩; simp only [lN] at hx; subst hx; simp [pin]) | (intro x hx; simp only [lN] at hx; subst hx; simp [pin]))
section
variable {f1 f0 : Src → Val × Src} {h : Nat}
abbrev ValK (f1 f0 : Src → Val × Src) (h : Nat) (k : Int) : Prop := ∀ s : Src, s.ok → nextV s 6 = k → PCB zP 55 [Sp pin, I .i64 (h + 2 : Nat)] [(pin, srcB s)] (Vt (valueK f1 f0 (decide (0 < h)) k (nextS s 6)).1) [(pin, srcB (valueK f1 f0 (decide (0 < h)) k (nextS s 6)).2)]
theorem value_5 (k : Int) (hk5 : k = 0 ∨ k = 5) (hh : h ≤ 1000) : ValK f1 f0 h k := by
 intro s hs hk
 have hb : decide (((h + 2 : Nat) : Int) ≤ 1) = false := by simp; omega
 have hs1 := ok_next hs 6
 rcases hk5 with rfl | rfl
 all_goals
  refine PCB.ob Tryz.func55 Tryz.ntmps55 Tryz.results55 ?_
  repeat' (first | (simp only [go_sem, zA, zB, zC, zD, zE, zF, zG, reduceCtorEq, zH, zI, zJ, zK, zL, pin, hb, hk]; all_goals refine nf ?_) | (refine stp ?_; intro K hK) | (apply hK; clear hK K) | refine stn ?_ | (refine ⟨1000000, _, _, _, next_k 1000000 s hs 6 (by omega), rfl, ?_⟩) | (refine ⟨1000000, _, _, _, leaf_k 1000000 _ hs1, rfl, ?_⟩) | refine stq ?_ | fail)
 all_goals (first | exact fun x hx => hx | (refine ⟨rfl, fun x hx => ?_⟩; simp only [lN] at hx; subst hx; simp [pin, valueK]) | (intro x hx; simp only [lN] at hx; subst hx; simp [pin, valueK]))
theorem value_1 (H1 : ValueC f1 (h + 1)) (hf1 : ∀ s : Src, s.ok → (f1 s).2.ok) (hh : h ≤ 1000) : ValK f1 f0 h 1 := by
 intro s hs hk
 have hb : decide (((h + 2 : Nat) : Int) ≤ 1) = false := by simp; omega
 have hs1 := ok_next hs 6
 have hv := nextV_in (nextS s 6) (n := 4) (by omega)
 have hnn : nextV (nextS s 6) 4 = (((nextV (nextS s 6) 4).toNat : Nat) : Int) := by omega
 have hw : IntKind.i64.wrap (((h + 2 : Nat) : Int) - 1) = ((h + 1 : Nat) : Int) := by rw [w64 (by omega)]; omega
 rw [show valueK f1 f0 (decide (0 < h)) 1 (nextS s 6) = (tupVal (listM f1 (nextV (nextS s 6) 4).toNat (nextS (nextS s 6) 4)).1, (listM f1 (nextV (nextS s 6) 4).toNat (nextS (nextS s 6) 4)).2) from rfl]
 refine PCB.ob Tryz.func55 Tryz.ntmps55 Tryz.results55 ?_
 repeat' (first | (simp only [go_sem, zA, zB, zC, zD, zE, zF, zG, reduceCtorEq, zH, zI, zJ, zK, zL, pin, hb, hk]; all_goals refine nf ?_) | (refine stp ?_; intro K hK) | (apply hK; clear hK K) | refine stn ?_ | (refine ⟨1000000, _, _, _, next_k 1000000 s hs 6 (by omega), rfl, ?_⟩) | (refine ⟨1000000, _, _, _, next_k 1000000 _ hs1 4 (by omega), rfl, ?_⟩) | refine stq ?_ | fail)
 refine xD (Gh.nilrow 5 900 rfl rfl rfl rfl) ?_
 rw [hnn]
 refine AWP.loopF (X := Nat × Src × List Val) (fun x => [(0, Sp 1000000), (5, .one (.own 900 x.2.2.length)), (6, I .i64 x.1)]) (fun x => [(1000000, srcB x.2.1), (900, .row 7 (x.2.2.map encVal))]) [1, 4] [4] (fun x => x.1 + x.2.2.length ≤ 1000 ∧ x.2.1.ok ∧ listM f1 (nextV (nextS s 6) 4).toNat (nextS (nextS s 6) 4) = (x.2.2 ++ (listM f1 x.1 x.2.1).1, (listM f1 x.1 x.2.1).2)) (fun x => x.1) (((nextV (nextS s 6) 4).toNat, nextS (nextS s 6) 4, [])) (by refine sts ?_; exact Gh.tt []) ?_ ?_
 ·exact ⟨by simp; omega, ok_next hs1 4, by simp⟩
 rintro ⟨m, t, acc⟩ ⟨hl, ht, hp⟩
 simp only at hl ht hp
 refine sts ?_
 cases m with
 | succ m =>
  rw [listM_step] at hp
  have hw2 : IntKind.i64.wrap (((m + 1 : Nat) : Int) - 1) = (m : Int) := wrap_pred_nat (by omega)
  repeat' (first | (simp only [go_sem, zA, zB, zC, zD, zE, zF, zG, reduceCtorEq, zH, zI, zJ, zK, zL, pin, lB, dec_pos, hw, hw2, val_snoc]; all_goals refine nf ?_) | (refine stp ?_; intro K hK) | (apply hK; clear hK K) | refine stn ?_ | (with_reducible (refine ⟨(by first | omega | (simp only [lA, lB, lQ, List.length_drop, lC, lD, List.length_replicate]; omega) : _ ≤ _), ?_⟩)) | (refine ⟨1000000, _, _, _, H1.k 1000000 t ht, rfl, ?_⟩) | refine stq ?_ | (clear hK K))
  all_goals (refine ⟨(m, (f1 t).2, acc ++ [(f1 t).1]), by simp only; omega, ⟨by simp; omega, hf1 t ht, hp⟩, Gh.tt [(900, 38)]⟩)
 | zero =>
  rw [listM, List.append_nil] at hp
  have h0 : decide ((0 : Int) < ((0 : Nat) : Int)) = false := by simp
  have hlen : acc.length ≤ 100000000 := by omega
  repeat' (first | (simp only [go_sem, zA, zB, zC, zD, zE, zF, zG, reduceCtorEq, zH, zI, zJ, zK, zL, pin, h0, lB]; all_goals refine nf ?_) | (refine stp ?_; intro K hK) | (apply hK; clear hK K) | refine stn ?_ | (with_reducible refine ⟨_, refTuple_c acc hlen, ?_⟩) | refine stq ?_ | (clear hK K))
  all_goals (simp only [hp])
  all_goals (first | refine ⟨rfl, fun x hx => ?_⟩ | refine ⟨trivial, fun x hx => ?_⟩ | refine fun x hx => ?_)
  all_goals (simp only [lN] at hx; subst hx; simp [pin])
end
end Go.Proofs.YthbcdhfiibpeaaaGreat
namespace Go.Proofs.YthbcdhfiibpeaaaGreat
open Go Go.Sx
variable {f1 f0 : Src → Val × Src} {h : Nat}
theorem nil_lit : encVal nilVal = [.int .i64 5, .int .i64 0, .str [], .sl 7 [], .sl 2 [], .sl 9 [], .sl 1 []] := by rw [encVal_eq]; rfl
theorem cons_lit (a b : Val) : encVal (consVal a b) = [.int .i64 7, .int .i64 0, .str [], .sl 7 [encVal a, encVal b], .sl 2 [], .sl 9 [], .sl 1 []] := by rw [encVal_eq]; rfl
theorem nil_lab (ls : List (List UInt8)) : Vt { nilVal with labels := ls } = .st [.int .i64 5, .int .i64 0, .str [], .sl 7 [], .sl 2 [], .sl 9 [], .sl 1 (ls.map Sx.encStr)] := by rw [Vt, encVal_eq]; rfl
theorem cons_lab (a : Val) (ls : List (List UInt8)) : Vt { consVal a nilVal with labels := ls } = .st [.int .i64 7, .int .i64 0, .str [], .sl 7 [encVal a, [.int .i64 5, .int .i64 0, .str [], .sl 7 [], .sl 2 [], .sl 9 [], .sl 1 []]], .sl 2 [], .sl 9 [], .sl 1 (ls.map Sx.encStr)] := by
  rw [Vt, encVal_eq]; simp only [consVal, List.map_cons, List.map_nil, nil_lit]
theorem value_2 (H1 : ValueC f1 (h + 1)) (H0 : ValueC f0 h) (hf1 : ∀ s : Src, s.ok → (f1 s).2.ok) (hf0 : ∀ s : Src, s.ok → (f0 s).2.ok) (hh : h ≤ 1000) : ValK f1 f0 h 2 := by
 intro s hs hk
 have hb : decide (((h + 2 : Nat) : Int) ≤ 1) = false := by simp; omega
 have hs1 := ok_next hs 6
 have hw : IntKind.i64.wrap (((h + 2 : Nat) : Int) - 1) = ((h + 1 : Nat) : Int) := by rw [w64 (by omega)]; omega
 have hw0 : IntKind.i64.wrap (((h + 2 : Nat) : Int) - 2) = ((h : Nat) : Int) := by rw [w64 (by omega)]; omega
 have hbig : decide ((2 : Int) < ((h + 2 : Nat) : Int)) = decide (0 < h) := by rw [← Bool.coe_iff_coe]; simp only [decide_eq_true_eq]; omega
 cases hB : decide (0 < h) with
 | false =>
  rw [hB] at hbig
  rw [show valueK f1 f0 false 2 (nextS s 6) = (consVal (f1 (labelsV (nextS s 6)).2).1 { nilVal with labels := (labelsV (nextS s 6)).1 }, (f1 (labelsV (nextS s 6)).2).2) from rfl]
  have hc := refCons_c (f1 (labelsV (nextS s 6)).2).1 { nilVal with labels := (labelsV (nextS s 6)).1 }
  rw [nil_lab] at hc
  refine PCB.ob Tryz.func55 Tryz.ntmps55 Tryz.results55 ?_
  repeat' (first | (simp only [go_sem, zA, zB, zC, zD, zE, zF, zG, reduceCtorEq, zH, zI, zJ, zK, zL, pin, hb, hk, hbig, nil_lit, hw]; all_goals refine nf ?_) | (refine stp ?_; intro K hK) | (apply hK; clear hK K) | refine stn ?_ | (with_reducible first | refine ⟨_, refNil_c, ?_⟩ | refine ⟨_, hc, ?_⟩) | (refine ⟨1000000, _, _, _, next_k 1000000 s hs 6 (by omega), rfl, ?_⟩) | (refine ⟨1000000, _, _, _, labels_k 1000000 _ hs1, rfl, ?_⟩) | (refine ⟨1000000, _, _, _, H1.k 1000000 _ (ok_labels hs1), rfl, ?_⟩) | (with_reducible refine AWP.genR (id := 16) [3,6] [1000000,4] mixed (by kernel_rfl) fun K hK => ?_; simp only [Bx.outs, Bx.drop, cond_true, cond_false, Nat.reduceBEq, go_sem]) | refine stq ?_ | (clear hK K))
  all_goals (first | refine ⟨rfl, fun x hx => ?_⟩ | refine ⟨trivial, fun x hx => ?_⟩ | refine fun x hx => ?_)
  all_goals (simp only [lN] at hx; subst hx; simp [pin])
 | true =>
  rw [hB] at hbig
  have hs2 := ok_next hs1 2
  cases hN : decide (nextV (nextS s 6) 2 = 1) with
  | false =>
   rw [show valueK f1 f0 true 2 (nextS s 6) = (consVal (f1 (labelsV (nextS (nextS s 6) 2)).2).1 { nilVal with labels := (labelsV (nextS (nextS s 6) 2)).1 }, (f1 (labelsV (nextS (nextS s 6) 2)).2).2) from by unfold valueK tailV lab; rw [hN]; rfl]
   have hc := refCons_c (f1 (labelsV (nextS (nextS s 6) 2)).2).1 { nilVal with labels := (labelsV (nextS (nextS s 6) 2)).1 }
   rw [nil_lab] at hc
   refine PCB.ob Tryz.func55 Tryz.ntmps55 Tryz.results55 ?_
   repeat' (first | (simp only [go_sem, zA, zB, zC, zD, zE, zF, zG, reduceCtorEq, zH, zI, zJ, zK, zL, pin, hb, hk, hbig, hN, nil_lit, hw]; all_goals refine nf ?_) | (refine stp ?_; intro K hK) | (apply hK; clear hK K) | refine stn ?_ | (with_reducible first | refine ⟨_, refNil_c, ?_⟩ | refine ⟨_, hc, ?_⟩) | (refine ⟨1000000, _, _, _, next_k 1000000 s hs 6 (by omega), rfl, ?_⟩) | (refine ⟨1000000, _, _, _, next_k 1000000 _ hs1 2 (by omega), rfl, ?_⟩) | (refine ⟨1000000, _, _, _, labels_k 1000000 _ hs2, rfl, ?_⟩) | (refine ⟨1000000, _, _, _, H1.k 1000000 _ (ok_labels hs2), rfl, ?_⟩) | (with_reducible refine AWP.genR (id := 16) [3,6] [1000000,4] mixed (by kernel_rfl) fun K hK => ?_; simp only [Bx.outs, Bx.drop, cond_true, cond_false, Nat.reduceBEq, go_sem]) | refine stq ?_ | (clear hK K))
   all_goals (first | refine ⟨rfl, fun x hx => ?_⟩ | refine ⟨trivial, fun x hx => ?_⟩ | refine fun x hx => ?_)
   all_goals (simp only [lN] at hx; subst hx; simp [pin])
  | true =>
   have hs3 := hf0 _ hs2
   rw [show valueK f1 f0 true 2 (nextS s 6) = (consVal (f1 (labelsV (f0 (nextS (nextS s 6) 2)).2).2).1 { consVal (f0 (nextS (nextS s 6) 2)).1 nilVal with labels := (labelsV (f0 (nextS (nextS s 6) 2)).2).1 }, (f1 (labelsV (f0 (nextS (nextS s 6) 2)).2).2).2) from by unfold valueK tailV lab; rw [hN]; rfl]
   have hc := refCons_c (f1 (labelsV (f0 (nextS (nextS s 6) 2)).2).2).1 { consVal (f0 (nextS (nextS s 6) 2)).1 nilVal with labels := (labelsV (f0 (nextS (nextS s 6) 2)).2).1 }
   rw [cons_lab] at hc
   have hc0 := refCons_c (f0 (nextS (nextS s 6) 2)).1 nilVal
   rw [Vt, Vt, Vt, nil_lit] at hc0
   refine PCB.ob Tryz.func55 Tryz.ntmps55 Tryz.results55 ?_
   repeat' (first | (simp only [go_sem, zA, zB, zC, zD, zE, zF, zG, reduceCtorEq, zH, zI, zJ, zK, zL, pin, hb, hk, hbig, hN, nil_lit, cons_lit (f0 (nextS (nextS s 6) 2)).1 nilVal, hw, hw0]; all_goals refine nf ?_) | (refine stp ?_; intro K hK) | (apply hK; clear hK K) | refine stn ?_ | (with_reducible first | refine ⟨_, refNil_c, ?_⟩ | refine ⟨_, hc, ?_⟩ | refine ⟨_, hc0, ?_⟩) | (refine ⟨1000000, _, _, _, next_k 1000000 s hs 6 (by omega), rfl, ?_⟩) | (refine ⟨1000000, _, _, _, next_k 1000000 _ hs1 2 (by omega), rfl, ?_⟩) | (refine ⟨1000000, _, _, _, H0.k 1000000 _ hs2, rfl, ?_⟩) | (refine ⟨1000000, _, _, _, labels_k 1000000 _ hs3, rfl, ?_⟩) | (refine ⟨1000000, _, _, _, H1.k 1000000 _ (ok_labels hs3), rfl, ?_⟩) | (with_reducible refine AWP.genR (id := 16) [3,6] [1000000,4] mixed (by kernel_rfl) fun K hK => ?_; simp only [Bx.outs, Bx.drop, cond_true, cond_false, Nat.reduceBEq, go_sem]) | refine stq ?_ | (clear hK K))
   all_goals (first | refine ⟨rfl, fun x hx => ?_⟩ | refine ⟨trivial, fun x hx => ?_⟩ | refine fun x hx => ?_)
   all_goals (simp only [lN] at hx; subst hx; simp [pin])
theorem value_3 (H1 : ValueC f1 (h + 1)) (hf1 : ∀ s : Src, s.ok → (f1 s).2.ok) (hh : h ≤ 1000) : ValK f1 f0 h 3 := by
 intro s hs hk
 have hb : decide (((h + 2 : Nat) : Int) ≤ 1) = false := by simp; omega
 have hs1 := ok_next hs 6
 have hw : IntKind.i64.wrap (((h + 2 : Nat) : Int) - 1) = ((h + 1 : Nat) : Int) := by rw [w64 (by omega)]; omega
 have hv := nextV_in (nextS s 6) (n := 3) (by omega)
 obtain ⟨n, hn⟩ := Int.eq_ofNat_of_zero_le hv.1
 rw [show valueK f1 f0 (decide (0 < h)) 3 (nextS s 6) = (bif decide ((mapV (pairM f1 n (nextS (nextS s 6) 3)).1.1 (pairM f1 n (nextS (nextS s 6) 3)).1.2).2 = 0) then ((mapV (pairM f1 n (nextS (nextS s 6) 3)).1.1 (pairM f1 n (nextS (nextS s 6) 3)).1.2).1, (pairM f1 n (nextS (nextS s 6) 3)).2) else leafV (pairM f1 n (nextS (nextS s 6) 3)).2) from by unfold valueK; rw [hn]; rfl]
 refine PCB.ob Tryz.func55 Tryz.ntmps55 Tryz.results55 ?_
 repeat' (first | (simp only [go_sem, zA, zB, zC, zD, zE, zF, zG, reduceCtorEq, zH, zI, zJ, zK, zL, pin, hb, hk, hn]; all_goals refine nf ?_) | (refine stp ?_; intro K hK) | (apply hK; clear hK K) | refine stn ?_ | (refine ⟨1000000, _, _, _, next_k 1000000 s hs 6 (by omega), rfl, ?_⟩) | (refine ⟨1000000, _, _, _, next_k 1000000 _ hs1 3 (by omega), rfl, ?_⟩) | refine stq ?_ | fail)
 refine xD (Gh.nilrow 8 901 rfl rfl rfl rfl) ?_
 refine xD (Gh.nilrow 9 902 rfl rfl rfl rfl) ?_
 refine AWP.loopF (X := Nat × Src × List KeyD × List Val) (fun x => [(0, Sp 1000000), (8, .one (.own 901 x.2.2.1.length)), (9, .one (.own 902 x.2.2.2.length)), (10, I .i64 x.1)]) (fun x => [(1000000, srcB x.2.1), (901, .row 2 (x.2.2.1.map encKey)), (902, .row 7 (x.2.2.2.map encVal))]) [1, 4] [4] (fun x => x.1 + x.2.2.1.length ≤ 1000 ∧ x.2.2.1.length = x.2.2.2.length ∧ x.2.1.ok ∧ pairM f1 n (nextS (nextS s 6) 3) = ((x.2.2.1 ++ (pairM f1 x.1 x.2.1).1.1, x.2.2.2 ++ (pairM f1 x.1 x.2.1).1.2), (pairM f1 x.1 x.2.1).2)) (fun x => x.1) ((n, nextS (nextS s 6) 3, [], [])) (by refine sts ?_; exact Gh.tt []) ?_ ?_
 ·exact ⟨by simp; omega, rfl, ok_next hs1 3, by simp⟩
 rintro ⟨m, t, ak, av⟩ ⟨hl, hkv, ht, hp⟩
 simp only at hl hkv ht hp
 refine sts ?_
 cases m with
 | succ m =>
  rw [pairM_step] at hp
  have hw2 : IntKind.i64.wrap (((m + 1 : Nat) : Int) - 1) = (m : Int) := wrap_pred_nat (by omega)
  repeat' (first | (simp only [go_sem, zA, zB, zC, zD, zE, zF, zG, reduceCtorEq, zH, zI, zJ, zK, zL, pin, lB, dec_pos, hw, hw2, val_snoc, key_snoc]; all_goals refine nf ?_) | (refine stp ?_; intro K hK) | (apply hK; clear hK K) | refine stn ?_ | (with_reducible (refine ⟨(by first | omega | (simp only [lA, lB, lQ, List.length_drop, lC, lD, List.length_replicate]; omega) : _ ≤ _), ?_⟩)) | (refine ⟨1000000, _, _, _, key_k 1000000 t ht, rfl, ?_⟩) | (refine ⟨1000000, _, _, _, H1.k 1000000 _ (ok_key ht), rfl, ?_⟩) | refine stq ?_ | (clear hK K))
  all_goals (refine ⟨(m, (f1 (keyV t).2).2, ak ++ [(keyV t).1], av ++ [(f1 (keyV t).2).1]), by simp only; omega, ⟨by simp; omega, by simp; omega, hf1 _ (ok_key ht), hp⟩, Gh.tt [(901, 78), (902, 85)]⟩)
 | zero =>
  rw [pairM, List.append_nil, List.append_nil] at hp
  have h0 : decide ((0 : Int) < ((0 : Nat) : Int)) = false := by simp
  have hlen : ak.length ≤ 1000000 := by omega
  cases hm : decide ((mapV ak av).2 = 0)
  all_goals
   repeat' (first | (simp only [go_sem, zA, zB, zC, zD, zE, zF, zG, reduceCtorEq, zH, zI, zJ, zK, zL, pin, h0, hm, lB]; all_goals refine nf ?_) | (refine stp ?_; intro K hK) | (apply hK; clear hK K) | refine stn ?_ | (with_reducible refine ⟨_, refMap_c ak av hlen, ?_⟩) | (refine ⟨1000000, _, _, _, leaf_k 1000000 t ht, rfl, ?_⟩) | refine stq ?_ | (clear hK K))
  all_goals (simp only [hp, hm, cond_true, cond_false])
  all_goals (first | refine ⟨rfl, fun x hx => ?_⟩ | refine ⟨trivial, fun x hx => ?_⟩ | refine fun x hx => ?_)
  all_goals (simp only [lN] at hx; subst hx; simp [pin])
theorem ent_snoc (l : List Ent) (x : Ent) : l.map encEnt ++ [encEnt x] = (l ++ [x]).map encEnt := by simp
theorem entry_k (H : ValueC f1 h) (hf : ∀ s : Src, s.ok → (f1 s).2.ok) (n : Nat) (hn : n ≤ 1000) (k : Nat) (s : Src) (hs : s.ok) : PCBk zP 94 [Sp k, I .i64 n, I .i64 h] k (srcB s) (.st (encEnt (entryV f1 n s).1)) (srcB (entryV f1 n s).2) := PCBk.mk k (entry_c H hf n hn s hs)
theorem value_4 (H1 : ValueC f1 (h + 1)) (hf1 : ∀ s : Src, s.ok → (f1 s).2.ok) (hh : h ≤ 1000) : ValK f1 f0 h 4 := by
 intro s hs hk
 have hb : decide (((h + 2 : Nat) : Int) ≤ 1) = false := by simp; omega
 have hs1 := ok_next hs 6
 have hw : IntKind.i64.wrap (((h + 2 : Nat) : Int) - 1) = ((h + 1 : Nat) : Int) := by rw [w64 (by omega)]; omega
 have hv := nextV_in (nextS s 6) (n := 3) (by omega)
 have hv2 := nextV_in (nextS (nextS s 6) 3) (n := 3) (by omega)
 obtain ⟨n, hn⟩ := Int.eq_ofNat_of_zero_le hv.1
 obtain ⟨c, hc⟩ := Int.eq_ofNat_of_zero_le hv2.1
 rw [show valueK f1 f0 (decide (0 < h)) 4 (nextS s 6) = (bif decide ((fnV n (listM (entryV f1 n) c (nextS (nextS (nextS s 6) 3) 3)).1).2 = 0) then ((fnV n (listM (entryV f1 n) c (nextS (nextS (nextS s 6) 3) 3)).1).1, (listM (entryV f1 n) c (nextS (nextS (nextS s 6) 3) 3)).2) else leafV (listM (entryV f1 n) c (nextS (nextS (nextS s 6) 3) 3)).2) from by unfold valueK; rw [hn, hc]; rfl]
 have hn3 : n ≤ 1000 := by omega
 refine PCB.ob Tryz.func55 Tryz.ntmps55 Tryz.results55 ?_
 repeat' (first | (simp only [go_sem, zA, zB, zC, zD, zE, zF, zG, reduceCtorEq, zH, zI, zJ, zK, zL, pin, hb, hk, hn, hc]; all_goals refine nf ?_) | (refine stp ?_; intro K hK) | (apply hK; clear hK K) | refine stn ?_ | (refine ⟨1000000, _, _, _, next_k 1000000 s hs 6 (by omega), rfl, ?_⟩) | (refine ⟨1000000, _, _, _, next_k 1000000 _ hs1 3 (by omega), rfl, ?_⟩) | (refine ⟨1000000, _, _, _, next_k 1000000 _ (ok_next hs1 3) 3 (by omega), rfl, ?_⟩) | refine stq ?_ | fail)
 refine xD (Gh.nilrow 14 903 rfl rfl rfl rfl) ?_
 refine AWP.loopF (X := Nat × Src × List Ent) (fun x => [(0, Sp 1000000), (14, .one (.own 903 x.2.2.length)), (15, I .i64 x.1)]) (fun x => [(1000000, srcB x.2.1), (903, .row 9 (x.2.2.map encEnt))]) [1, 4, 13] [4] (fun x => x.1 + x.2.2.length ≤ 1000 ∧ x.2.1.ok ∧ listM (entryV f1 n) c (nextS (nextS (nextS s 6) 3) 3) = (x.2.2 ++ (listM (entryV f1 n) x.1 x.2.1).1, (listM (entryV f1 n) x.1 x.2.1).2)) (fun x => x.1) ((c, nextS (nextS (nextS s 6) 3) 3, [])) (by refine sts ?_; exact Gh.tt []) ?_ ?_
 ·exact ⟨by simp; omega, ok_next (ok_next hs1 3) 3, by simp⟩
 rintro ⟨m, t, acc⟩ ⟨hl, ht, hp⟩
 simp only at hl ht hp
 refine sts ?_
 cases m with
 | succ m =>
  rw [listM_step] at hp
  have hw2 : IntKind.i64.wrap (((m + 1 : Nat) : Int) - 1) = (m : Int) := wrap_pred_nat (by omega)
  repeat' (first | (simp only [go_sem, zA, zB, zC, zD, zE, zF, zG, reduceCtorEq, zH, zI, zJ, zK, zL, pin, lB, dec_pos, hw, hw2, ent_snoc]; all_goals refine nf ?_) | (refine stp ?_; intro K hK) | (apply hK; clear hK K) | refine stn ?_ | (with_reducible (refine ⟨(by first | omega | (simp only [lA, lB, lQ, List.length_drop, lC, lD, List.length_replicate]; omega) : _ ≤ _), ?_⟩)) | (refine ⟨1000000, _, _, _, entry_k H1 hf1 n hn3 1000000 t ht, rfl, ?_⟩) | refine stq ?_ | (clear hK K))
  all_goals (refine ⟨(m, (entryV f1 n t).2, acc ++ [(entryV f1 n t).1]), by simp only; omega, ⟨by simp; omega, entry_ok hf1 n ht, hp⟩, Gh.tt [(903, 112)]⟩)
 | zero =>
  rw [listM, List.append_nil] at hp
  have h0 : decide ((0 : Int) < ((0 : Nat) : Int)) = false := by simp
  have hlen : acc.length ≤ 1000000 := by omega
  cases hm : decide ((fnV n acc).2 = 0)
  all_goals
   repeat' (first | (simp only [go_sem, zA, zB, zC, zD, zE, zF, zG, reduceCtorEq, zH, zI, zJ, zK, zL, pin, h0, hm, lB]; all_goals refine nf ?_) | (refine stp ?_; intro K hK) | (apply hK; clear hK K) | refine stn ?_ | (with_reducible refine ⟨_, refFunction_c n acc hlen, ?_⟩) | (refine ⟨1000000, _, _, _, leaf_k 1000000 t ht, rfl, ?_⟩) | refine stq ?_ | (clear hK K))
  all_goals (simp only [hp, hm, cond_true, cond_false])
  all_goals (first | refine ⟨rfl, fun x hx => ?_⟩ | refine ⟨trivial, fun x hx => ?_⟩ | refine fun x hx => ?_)
  all_goals (simp only [lN] at hx; subst hx; simp [pin])
theorem value_K (H1 : ValueC f1 (h + 1)) (H0 : ValueC f0 h) (hf1 : ∀ s : Src, s.ok → (f1 s).2.ok) (hf0 : ∀ s : Src, s.ok → (f0 s).2.ok) (hh : h ≤ 1000) : ValC (fun s => valueK f1 f0 (decide (0 < h)) (nextV s 6) (nextS s 6)) (h + 2) := by
  intro s hs
  have hv := nextV_in s (n := 6) (by omega)
  have hk : nextV s 6 = 0 ∨ nextV s 6 = 1 ∨ nextV s 6 = 2 ∨ nextV s 6 = 3 ∨ nextV s 6 = 4 ∨ nextV s 6 = 5 := by omega
  simp only
  rcases hk with hk | hk | hk | hk | hk | hk <;> rw [hk]
  · exact value_5 0 (.inl rfl) hh s hs hk
  · exact value_1 H1 hf1 hh s hs hk
  · exact value_2 H1 H0 hf1 hf0 hh s hs hk
  · exact value_3 H1 hf1 hh s hs hk
  · exact value_4 H1 hf1 hh s hs hk
  · exact value_5 5 (.inr rfl) hh s hs hk
theorem value_c : ∀ h : Nat, h ≤ 1000 → ValC (valueF h) h
  | 0, _ => value_leaf 0 (by omega)
  | 1, _ => value_leaf 1 (by omega)
  | h + 2, hh => value_K (full_c (value_c (h + 1) (by omega)) (ok_value (h + 1))) (full_c (value_c h (by omega)) (ok_value h)) (fun s hs => ok_full (h + 1) s hs) (fun s hs => ok_full h s hs) (by omega)
theorem sourceValue_c (h : Nat) (hh : h ≤ 1000) : ValueC (fullV h) h := full_c (value_c h hh) (ok_value h)
end Go.Proofs.YthbcdhfiibpeaaaGreat

