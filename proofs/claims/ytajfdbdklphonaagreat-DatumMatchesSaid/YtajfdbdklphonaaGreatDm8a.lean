/- Lemmas; conditions: as each states. -/
import Derived.Test.YtajfdbdklphonaaGreatDm7
import Derived.Lib.Bytealg
import Derived.Lib.Walk
open Go.Proofs.Tryz renaming prog → zP
open List renaming length_map → lB, mem_of_getElem? → lP
open Go.Sx.AWP renaming len → xF
open Nat renaming reduceBEq → zA, reduceBNe → zB, reduceAdd → zC, reduceSub → zD, reduceMul → zE, reduceLeDiff → zF, reduceLT → zG, reduceEqDiff → zH
open Int renaming reduceToNat → zI, reduceLE → zJ, reduceLT → zK, reduceEq → zL
open Bool renaming not_eq_true' → zM, not_eq_false' → zN
set_option linter.unusedVariables false
set_option linter.unusedSimpArgs false
set_option maxRecDepth 20000
namespace Go.Proofs.YtajfdbdklphonaaGreat
open Go Go.Sx
def findI {α : Type} (p : α → Bool) : Nat → List α → Int
 | _, [] => -1
 | k, d :: l => bif p d then k else findI p (k + 1) l
def ixEnv (g : FuncId) (ds : List Dat) (k : Nat) : Env := [(8, I .i64 k), (7, I .i64 ds.length), (1, .one (.dat (.fn g))), (0, .one (.dat (.sl 13 (ds.map encDat))))]
theorem findI_drop {α : Type} (p : α → Bool) (l : List α) (k : Nat) (d : α) (h : l[k]? = some d) : findI p k (l.drop k) = bif p d then (k : Int) else findI p (k + 1) (l.drop (k + 1)) := by
 have hlt := (List.getElem?_eq_some_iff.1 h).1
 have hv := (List.getElem?_eq_some_iff.1 h).2
 rw [List.drop_eq_getElem_cons hlt, hv]
 rfl
theorem findI_any {α : Type} (p : α → Bool) : ∀ (l : List α) (k : Nat), (findI p k l ≥ 0) ↔ l.any p = true
 | [], k => by simp [findI]
 | d :: l, k => by
  have := findI_any p l (k + 1)
  simp only [findI, List.any_cons]
  cases p d <;> simp [this]
theorem indexFunc_c (g : FuncId) (p : Dat → Bool) (ds : List Dat) (hp : ∀ d ∈ ds, PC zP g [.st (encDat d)] (Bo (p d))) :
    PC zP 98 [.one (.dat (.sl 13 (ds.map encDat))), .one (.dat (.fn g))] (I .i64 (findI p 0 ds)) := by
  refine PCB.ob Tryz.func98 Tryz.ntmps98 Tryz.results98 ?_
  refine xF 0 rfl fun hlen => ?_
  rw [lB] at hlen
  repeat' (first | (simp only [go_sem, zA, zB, zC, zD, zE, zF, zG, reduceCtorEq, zH, zI, zJ, zK, zL, lB] <;> refine nf ?_) | (refine stp ?_; intro K hK) | (apply hK; clear hK K) | refine stn ?_ | fail)
  refine AWP.loopE (fun m e b => ∃ k, k ≤ ds.length ∧ m = ds.length - k ∧ findI p 0 ds = findI p k (ds.drop k) ∧ e = ixEnv g ds k ∧ b = []) ds.length (ixEnv g ds 0) ⟨rfl, rfl, rfl, rfl, trivial⟩ ⟨0, Nat.zero_le _, rfl, rfl, rfl, rfl⟩ ?_
  rintro m e b ⟨k, hk, rfl, hfind, rfl, rfl⟩
  unfold ixEnv
  by_cases hlt : k < ds.length
  · have hb : decide ((k : Int) < (ds.length : Int)) = true := by simpa using hlt
    obtain ⟨d, hd⟩ : ∃ d, ds[k]? = some d := ⟨ds[k], by simp [hlt]⟩
    have hd' : (ds.map encDat)[k]? = some (encDat d) := by rw [List.getElem?_map, hd]; rfl
    have hmem : d ∈ ds := lP hd
    have hdrop := findI_drop p ds k d hd
    repeat' (first | (simp only [go_sem, zA, zB, zC, zD, zE, zF, zG, reduceCtorEq, zH, zI, zJ, zK, zL, lB, hb] <;> refine nf ?_) | (refine stp ?_; intro K hK) | (apply hK; clear hK K) | refine stn ?_ | (refine AWP.cnd ?_ ?_ <;> intro h <;> (try simp only [zM, zN] at h)) | (with_reducible first | refine ⟨_, hp d hmem, ?_⟩ | refine ⟨by omega, encDat d, hd', ?_⟩) | refine stq ?_ | (clear hK K))
    · exact ⟨by rw [hfind, hdrop, h]; rfl, fun _ h => h⟩
    · refine ⟨ds.length - (k + 1), ixEnv g ds (k + 1), by omega, ?_, k + 1, by omega, rfl, by rw [hfind, hdrop, h]; rfl, rfl⟩
      rw [w64 (by omega)]; exact ⟨rfl, rfl, rfl, rfl, trivial⟩
  · have hb : decide ((k : Int) < (ds.length : Int)) = false := by simpa using hlt
    have hk2 : k = ds.length := by omega
    repeat' (first | (simp only [go_sem, zA, zB, zC, zD, zE, zF, zG, reduceCtorEq, zH, zI, zJ, zK, zL, lB, hb] <;> refine nf ?_) | (refine stp ?_; intro K hK) | (apply hK; clear hK K) | refine stn ?_ | (clear hK K))
    all_goals exact ⟨by rw [hfind, hk2, List.drop_length]; rfl, fun _ h => h⟩
theorem contains_c (g : FuncId) (p : Dat → Bool) (ds : List Dat) (hp : ∀ d ∈ ds, PC zP g [.st (encDat d)] (Bo (p d))) :
    PC zP 59 [.one (.dat (.sl 13 (ds.map encDat))), .one (.dat (.fn g))] (Bo (ds.any p)) := by
  refine PCB.ob Tryz.func59 Tryz.ntmps59 Tryz.results59 ?_
  repeat' (first | (simp only [go_sem, zA, zB, zC, zD, zE, zF, zG, reduceCtorEq, zH, zI, zJ, zK, zL] <;> refine nf ?_) | (refine stp ?_; intro K hK) | (apply hK; clear hK K) | refine stn ?_ | (with_reducible refine ⟨_, indexFunc_c g p ds hp, ?_⟩) | refine stq ?_ | fail)
  all_goals (refine ⟨?_, fun _ h => h⟩; rw [show decide (0 ≤ findI p 0 ds) = ds.any p from by rw [← Bool.coe_iff_coe]; simpa using findI_any p ds 0])
mutual
def hasFun : Dat → Bool
 | ⟨kind, _, _, kids, _, _, _, _, _, _, _, _, _⟩ => decide (kind = 9) || hasFuns kids
def hasFuns : List Dat → Bool
 | [] => false
 | d :: l => hasFun d || hasFuns l
end
theorem hasFuns_any : ∀ l : List Dat, hasFuns l = l.any hasFun
 | [] => rfl
 | d :: l => by simp only [hasFuns, List.any_cons, hasFuns_any l]
theorem hasFun_eq (d : Dat) : hasFun d = (decide (d.kind = 9) || d.kids.any hasFun) := by cases d; simp only [hasFun, hasFuns_any]
theorem hasFunction_c (d : Dat) : PC zP 32 [.st (encDat d)] (Bo (hasFun d)) := by
    have ih : ∀ k ∈ d.kids, PC zP 32 [.st (encDat k)] (Bo (hasFun k)) := fun k hk => hasFunction_c k
    refine PCB.ob Tryz.func32 Tryz.ntmps32 Tryz.results32 ?_
    repeat' (first | (simp only [go_sem, zA, zB, zC, zD, zE, zF, zG, reduceCtorEq, zH, zI, zJ, zK, zL, encDat_eq] <;> refine nf ?_) | (refine stp ?_; intro K hK) | (apply hK; clear hK K) | refine stn ?_ | (refine ⟨fun h => ?_, fun h => ?_⟩ <;> (try simp only [zM, zN] at h) <;> try simp only [h]) | (with_reducible refine ⟨_, contains_c 32 hasFun d.kids ih, ?_⟩) | refine stq ?_ | fail)
    all_goals (rw [hasFun_eq]; refine ⟨by simp only [h, Bool.true_or, Bool.false_or], fun _ h => by cases h⟩)
termination_by SizeOf.sizeOf d
decreasing_by
 cases d; simp only at hk; have := List.sizeOf_lt_of_mem hk; simp; omega
end Go.Proofs.YtajfdbdklphonaaGreat
set_option maxRecDepth 20000
set_option maxHeartbeats 400000
namespace Go.Proofs.YtajfdbdklphonaaGreat
open Go Go.Sx
structure Src where
 l : List Int
 pos : Nat
def Src.ok (s : Src) : Prop := (∀ x ∈ s.l, -9223372036854775808 ≤ x ∧ x ≤ 9223372036854775807) ∧ s.l.length ≤ 1000000
abbrev srcB (s : Src) : Res := .cells [.dat (.sl 1 (s.l.map encInt)), .dat (.int .i64 s.pos)]
abbrev Sp (k : Nat) : T := .one (.ptr k 0)
def emptyS (s : Src) (n : Int) : Bool := decide (n < 1) || decide ((s.l.length : Int) ≤ (s.pos : Int))
def nextV (s : Src) (n : Int) : Int := bif emptyS s n then 0 else bif decide (((s.l[s.pos]?).getD 0).tmod n < 0) then ((s.l[s.pos]?).getD 0).tmod n + n else ((s.l[s.pos]?).getD 0).tmod n
def nextS (s : Src) (n : Int) : Src := bif emptyS s n then s else { s with pos := s.pos + 1 }
theorem ok_next {s : Src} (h : s.ok) (n : Int) : (nextS s n).ok := by
 unfold nextS; cases emptyS s n <;> exact h
theorem nextV_in (s : Src) {n : Int} (hn : 1 ≤ n) : 0 ≤ nextV s n ∧ nextV s n < n := by
 unfold nextV
 cases emptyS s n with
 | true => simp only [cond_true]; omega
 | false =>
  simp only [cond_false]
  generalize (s.l[s.pos]?).getD 0 = x
  have h1 : (x.tmod n) < n := Int.tmod_lt_of_pos x (by omega)
  have h2 : -n < x.tmod n := by
   have := Int.lt_tmod_of_pos x (show 0 < n by omega)
   omega
  cases hc : decide (x.tmod n < 0) with
  | true => simp only [decide_eq_true_eq] at hc; simp only [cond_true]; omega
  | false => simp only [decide_eq_false_iff_not] at hc; simp only [cond_false]; omega
theorem next_c (s : Src) (hs : s.ok) (n : Int) (hn : 1 ≤ n ∧ n ≤ 1000000) : PCB zP 6 [Sp pin, I .i64 n] [(pin, srcB s)] (I .i64 (nextV s n)) [(pin, srcB (nextS s n))] := by
 refine PCB.ob Tryz.func6 Tryz.ntmps6 Tryz.results6 ?_
 have h1 : decide (n < 1) = false := by simp; omega
 by_cases hp : s.pos < s.l.length
 ·have h2 : decide ((s.l.length : Int) ≤ (s.pos : Int)) = false := by simp; omega
  have hx : s.l[s.pos]? = some s.l[s.pos] := by simp [hp]
  have hx' : (s.l.map encInt)[s.pos]? = some (encInt s.l[s.pos]) := by simp [hp]
  have hn0 : ¬ n = 0 := by omega
  have hw : IntKind.i64.wrap ((s.pos : Int) + 1) = ((s.pos + 1 : Nat) : Int) := wrap_succ hp (by have := hs.2; omega)
  have hb1 := Int.tmod_lt_of_pos s.l[s.pos] (show 0 < n by omega)
  have hb2 := Int.lt_tmod_of_pos s.l[s.pos] (show 0 < n by omega)
  have hw2 : IntKind.i64.wrap (s.l[s.pos].tmod n + n) = s.l[s.pos].tmod n + n := by rw [w64 (by omega)]
  have he : emptyS s n = false := by unfold emptyS; rw [h1, h2]; rfl
  repeat' (first | (simp only [go_sem, zA, zB, zC, zD, zE, zF, zG, reduceCtorEq, zH, zI, zJ, zK, zL, pin, lB, h1, h2, hw, hw2] <;> refine nf ?_) | (refine stp ?_; intro K hK) | (apply hK; clear hK K) | refine stn ?_ | (refine AWP.cnd ?_ ?_ <;> intro h <;> (try simp only [zM, zN] at h)) | (with_reducible first | refine ⟨by omega, encInt s.l[s.pos], hx', ?_⟩ | refine ⟨by omega, ?_⟩) | (refine stp' ?_; intro K hK) | fail)
  all_goals (simp only [decide_eq_true_eq, decide_eq_false_iff_not] at h)
  all_goals (refine ⟨by simp only [nextV, he, cond_false, hx, Option.getD_some, h, decide_true, decide_false, cond_true], fun x hx => by simpa only [nextS, he, cond_false] using hx⟩)
 ·have h2 : decide ((s.l.length : Int) ≤ (s.pos : Int)) = true := by simp; omega
  have he : emptyS s n = true := by unfold emptyS; rw [h1, h2]; rfl
  repeat' (first | (simp only [go_sem, zA, zB, zC, zD, zE, zF, zG, reduceCtorEq, zH, zI, zJ, zK, zL, pin, lB, h1, h2] <;> refine nf ?_) | (refine stp ?_; intro K hK) | (apply hK; clear hK K) | refine stn ?_ | (refine stp' ?_; intro K hK) | (clear hK K))
  all_goals exact ⟨by simp only [nextV, he, cond_true], fun x hx => by simpa only [nextS, he, cond_true] using hx⟩
theorem next_k (k : Nat) (s : Src) (hs : s.ok) (n : Int) (hn : 1 ≤ n ∧ n ≤ 1000000) : PCBk zP 6 [Sp k, I .i64 n] k (srcB s) (I .i64 (nextV s n)) (srcB (nextS s n)) := PCBk.mk k (next_c s hs n hn)
theorem lit_get {α : Type} (f : α → List C) (l : List α) (d : α) {v : Int} (hv : 0 ≤ v ∧ v < l.length) : (l.map f)[v.toNat]? = some (f (l.getD v.toNat d)) := by
 have h : v.toNat < l.length := by omega
 simp [List.getElem?_map, h]
def wordL : List (List UInt8) := [[], [115], [120, 32, 121], [97]]
def atomL : List (List UInt8) := [[97], [98], [111, 107], [101, 114, 114, 111, 114]]
def numL : List Int := [0, 1, -1, 2, 3, -2, 7, -9223372036854775808, 9223372036854775807, 10]
def wordV (s : Src) : List UInt8 := wordL.getD (nextV s 4).toNat []
def atomV (s : Src) : List UInt8 := atomL.getD (nextV s 4).toNat []
def numV (s : Src) : Int := numL.getD (nextV s 10).toNat 0
theorem word_c (s : Src) (hs : s.ok) : PCB zP 15 [Sp pin] [(pin, srcB s)] (S (wordV s)) [(pin, srcB (nextS s 4))] := by
 refine PCB.ob Tryz.func15 Tryz.ntmps15 Tryz.results15 ?_
 have hv := nextV_in s (n := 4) (by omega)
 repeat' (first | (simp only [go_sem, zA, zB, zC, zD, zE, zF, zG, reduceCtorEq, zH, zI, zJ, zK, zL, pin] <;> refine nf ?_) | (refine stp ?_; intro K hK) | (apply hK; clear hK K) | refine stn ?_ | (refine ⟨1000000, _, _, _, next_k 1000000 s hs 4 (by omega), rfl, ?_⟩) | ( refine ⟨hv.1, [.str (wordV s)], lit_get (fun x => [C.str x]) wordL [] hv, ?_⟩) | refine stq ?_ | fail)
 all_goals exact fun x hx => hx
theorem atomName_c (s : Src) (hs : s.ok) : PCB zP 39 [Sp pin] [(pin, srcB s)] (S (atomV s)) [(pin, srcB (nextS s 4))] := by
 refine PCB.ob Tryz.func39 Tryz.ntmps39 Tryz.results39 ?_
 have hv := nextV_in s (n := 4) (by omega)
 repeat' (first | (simp only [go_sem, zA, zB, zC, zD, zE, zF, zG, reduceCtorEq, zH, zI, zJ, zK, zL, pin] <;> refine nf ?_) | (refine stp ?_; intro K hK) | (apply hK; clear hK K) | refine stn ?_ | (refine ⟨1000000, _, _, _, next_k 1000000 s hs 4 (by omega), rfl, ?_⟩) | ( refine ⟨hv.1, [.str (atomV s)], lit_get (fun x => [C.str x]) atomL [] hv, ?_⟩) | refine stq ?_ | fail)
 all_goals exact fun x hx => hx
theorem number_c (s : Src) (hs : s.ok) : PCB zP 16 [Sp pin] [(pin, srcB s)] (I .i64 (numV s)) [(pin, srcB (nextS s 10))] := by
 refine PCB.ob Tryz.func16 Tryz.ntmps16 Tryz.results16 ?_
 have hv := nextV_in s (n := 10) (by omega)
 repeat' (first | (simp only [go_sem, zA, zB, zC, zD, zE, zF, zG, reduceCtorEq, zH, zI, zJ, zK, zL, pin] <;> refine nf ?_) | (refine stp ?_; intro K hK) | (apply hK; clear hK K) | refine stn ?_ | (refine ⟨1000000, _, _, _, next_k 1000000 s hs 10 (by omega), rfl, ?_⟩) | ( refine ⟨hv.1, [.int .i64 (numV s)], lit_get (fun x => [C.int .i64 x]) numL 0 hv, ?_⟩) | refine stq ?_ | fail)
 all_goals exact fun x hx => hx
theorem word_k (k : Nat) (s : Src) (hs : s.ok) : PCBk zP 15 [Sp k] k (srcB s) (S (wordV s)) (srcB (nextS s 4)) := PCBk.mk k (word_c s hs)
theorem atomName_k (k : Nat) (s : Src) (hs : s.ok) : PCBk zP 39 [Sp k] k (srcB s) (S (atomV s)) (srcB (nextS s 4)) := PCBk.mk k (atomName_c s hs)
theorem number_k (k : Nat) (s : Src) (hs : s.ok) : PCBk zP 16 [Sp k] k (srcB s) (I .i64 (numV s)) (srcB (nextS s 10)) := PCBk.mk k (number_c s hs)
def keyV (s : Src) : KeyD × Src := bif decide (nextV s 2 = 0) then (⟨0, atomV (nextS s 2)⟩, nextS (nextS s 2) 4) else (⟨1, wordV (nextS s 2)⟩, nextS (nextS s 2) 4)
theorem key_c (s : Src) (hs : s.ok) : PCB zP 18 [Sp pin] [(pin, srcB s)] (.st (encKey (keyV s).1)) [(pin, srcB (keyV s).2)] := by
 refine PCB.ob Tryz.func18 Tryz.ntmps18 Tryz.results18 ?_
 have hs2 := ok_next hs 2
 repeat' (first | (simp only [go_sem, zA, zB, zC, zD, zE, zF, zG, reduceCtorEq, zH, zI, zJ, zK, zL, pin] <;> refine nf ?_) | (refine stp ?_; intro K hK) | (apply hK; clear hK K) | refine stn ?_ | (refine AWP.cnd ?_ ?_ <;> intro h <;> (try simp only [zM, zN] at h)) | (refine ⟨1000000, _, _, _, next_k 1000000 s hs 2 (by omega), rfl, ?_⟩) | (refine ⟨1000000, _, _, _, atomName_k 1000000 _ hs2, rfl, ?_⟩) | (refine ⟨1000000, _, _, _, word_k 1000000 _ hs2, rfl, ?_⟩) | (clear hK K))
 all_goals (simp only [keyV, h, cond_true, cond_false]; exact ⟨rfl, fun x hx => by simp only [List.mem_singleton] at hx; subst hx; simp⟩)
theorem key_k (k : Nat) (s : Src) (hs : s.ok) : PCBk zP 18 [Sp k] k (srcB s) (.st (encKey (keyV s).1)) (srcB (keyV s).2) := PCBk.mk k (key_c s hs)
theorem ok_key {s : Src} (h : s.ok) : (keyV s).2.ok := by unfold keyV; cases decide (nextV s 2 = 0) <;> exact ok_next (ok_next h 2) 4
def lowB (b : UInt8) : Bool := decide ((97 : Int) ≤ (b.toNat : Int)) && decide ((b.toNat : Int) ≤ 122)
def digB (b : UInt8) : Bool := decide ((48 : Int) ≤ (b.toNat : Int)) && decide ((b.toNat : Int) ≤ 57)
theorem lower_c (b : UInt8) : PC zP 99 [I .u8 b.toNat] (Bo (lowB b)) := by
 refine PCB.ob Tryz.func99 Tryz.ntmps99 Tryz.results99 ?_
 repeat' (first | (simp only [go_sem, zA, zB, zC, zD, zE, zF, zG, reduceCtorEq, zH, zI, zJ, zK, zL] <;> refine nf ?_) | (refine stp ?_; intro K hK) | (apply hK; clear hK K) | refine stn ?_ | (refine ⟨fun h => ?_, fun h => ?_⟩ <;> (try simp only [zM, zN] at h) <;> try simp only [h]) | fail)
 all_goals (refine fin0 ?_; simp only [lowB, h, Bool.true_and, Bool.false_and])
theorem digit_c (b : UInt8) : PC zP 100 [I .u8 b.toNat] (Bo (digB b)) := by
 refine PCB.ob Tryz.func100 Tryz.ntmps100 Tryz.results100 ?_
 repeat' (first | (simp only [go_sem, zA, zB, zC, zD, zE, zF, zG, reduceCtorEq, zH, zI, zJ, zK, zL] <;> refine nf ?_) | (refine stp ?_; intro K hK) | (apply hK; clear hK K) | refine stn ?_ | (refine ⟨fun h => ?_, fun h => ?_⟩ <;> (try simp only [zM, zN] at h) <;> try simp only [h]) | fail)
 all_goals (refine fin0 ?_; simp only [digB, h, Bool.true_and, Bool.false_and])
def tailB (b : UInt8) : Bool := lowB b || (digB b || decide ((b.toNat : Int) = 95))
def isAtomB (s : List UInt8) : Bool := !(decide ((s.length : Int) < 1) || (decide ((16 : Int) < (s.length : Int)) || !lowB (s.headD 0))) && (s.drop 1).all tailB
theorem isAtom_c (s : List UInt8) : PC zP 71 [S s] (Bo (isAtomB s)) := by
 refine PCB.ob Tryz.func71 Tryz.ntmps71 Tryz.results71 ?_
 cases hl1 : decide ((s.length : Int) < 1) with
 | true =>
  repeat' (first | (simp only [go_sem, zA, zB, zC, zD, zE, zF, zG, reduceCtorEq, zH, zI, zJ, zK, zL, hl1] <;> refine nf ?_) | (refine stp ?_; intro K hK) | (apply hK; clear hK K) | refine stn ?_ | (clear hK K))
  all_goals (first | exact nn | refine fin0 ?_)
  all_goals simp only [isAtomB, hl1, Bool.true_or, Bool.not_true, Bool.false_and]
 | false =>
  have hpos : 0 < s.length := by simp only [decide_eq_false_iff_not] at hl1; omega
  obtain ⟨b, hb0⟩ : ∃ b, s[0]? = some b := ⟨s[0], by simp [hpos]⟩
  have hhd : s.headD 0 = b := by cases s <;> simp at hb0 hpos ⊢; exact hb0
  cases hlong : decide ((16 : Int) < (s.length : Int)) with
  | true =>
   repeat' (first | (simp only [go_sem, zA, zB, zC, zD, zE, zF, zG, reduceCtorEq, zH, zI, zJ, zK, zL, hl1, hlong] <;> refine nf ?_) | (refine stp ?_; intro K hK) | (apply hK; clear hK K) | refine stn ?_ | (clear hK K))
   all_goals (first | exact nn | refine fin0 ?_)
   all_goals simp only [isAtomB, hlong, Bool.true_or, Bool.or_true, Bool.not_true, Bool.false_and]
  | false =>
   have hlen : s.length ≤ 9223372036854775807 := by simp only [decide_eq_false_iff_not] at hlong; omega
   cases hlow : lowB b with
   | false =>
    repeat' (first | (simp only [go_sem, zA, zB, zC, zD, zE, zF, zG, reduceCtorEq, zH, zI, zJ, zK, zL, hl1, hlong, hlow] <;> refine nf ?_) | (refine stp ?_; intro K hK) | (apply hK; clear hK K) | refine stn ?_ | (with_reducible first | refine ⟨_, lower_c b, ?_⟩ | refine ⟨b, hb0, ?_⟩) | refine stq ?_ | (clear hK K))
    all_goals (first | exact nn | refine fin0 ?_)
    all_goals simp only [isAtomB, hl1, hlong, hhd, hlow, Bool.false_or, Bool.not_false, Bool.not_true, Bool.false_and]
   | true =>
    have hmod : isAtomB s = (s.drop 1).all tailB := by simp only [isAtomB, hl1, hlong, hhd, hlow, Bool.not_true, Bool.false_or, Bool.not_false, Bool.true_and]
    repeat' (first | (simp only [go_sem, zA, zB, zC, zD, zE, zF, zG, reduceCtorEq, zH, zI, zJ, zK, zL, hl1, hlong, hlow] <;> refine nf ?_) | (refine stp ?_; intro K hK) | (apply hK; clear hK K) | refine stn ?_ | (with_reducible first | refine ⟨_, lower_c b, ?_⟩ | refine ⟨b, hb0, ?_⟩) | refine stq ?_ | fail)
    refine AWP.loopS (X := Nat) (fun k => [(3, I .i64 k), (0, S s)]) (fun _ => []) (fun k => 1 ≤ k ∧ k ≤ s.length ∧ (s.drop 1).all tailB = (s.drop k).all tailB) (fun k => s.length - k) 1 (Gh.tt []) ⟨Nat.le_refl _, by omega, rfl⟩ ?_
    rintro k ⟨hk1, hk, hp⟩
    by_cases hlt : k < s.length
    ·have hdrop := List.drop_eq_getElem_cons hlt
     have hd : s[k]? = some s[k] := List.getElem?_eq_getElem hlt
     have hbt : decide ((k : Int) < (s.length : Int)) = true := by simpa using hlt
     generalize s[k] = d at hd hdrop
     rw [hdrop, List.all_cons] at hp
     cases ht1 : lowB d <;> cases ht2 : digB d <;> cases ht3 : decide ((d.toNat : Int) = 95)
     all_goals simp only [tailB, ht1, ht2, ht3, Bool.or_true, Bool.or_false, Bool.true_or, Bool.true_and, Bool.false_and] at hp
     repeat' (first | (simp only [go_sem, zA, zB, zC, zD, zE, zF, zG, reduceCtorEq, zH, zI, zJ, zK, zL, hbt, ht1, ht2, ht3] <;> refine nf ?_) | (refine stp ?_; intro K hK) | (apply hK; clear hK K) | refine stn ?_ | (with_reducible first | refine ⟨_, lower_c d, ?_⟩ | refine ⟨_, digit_c d, ?_⟩ | refine ⟨by omega, d, hd, ?_⟩) | refine stq ?_ | (clear hK K))
     all_goals first
      | (refine fin0 ?_; rw [hmod, hp])
      | (rw [wrap_succ hlt hlen]; refine ⟨k + 1, by omega, ⟨by omega, by omega, hp⟩, Gh.tt []⟩)
    ·have hbt : decide ((k : Int) < (s.length : Int)) = false := by simpa using hlt
     rw [show s.drop k = [] from List.drop_eq_nil_of_le (by omega)] at hp
     repeat' (first | (simp only [go_sem, zA, zB, zC, zD, zE, zF, zG, reduceCtorEq, zH, zI, zJ, zK, zL, hbt] <;> refine nf ?_) | (refine stp ?_; intro K hK) | (apply hK; clear hK K) | refine stn ?_ | (clear hK K))
     all_goals (refine fin0 ?_; rw [hmod, hp]; rfl)
def validKeyB (k : KeyD) : Bool := (decide (k.kind = 0) && isAtomB k.text) || (decide (k.kind = 1) && decide ((k.text.length : Int) ≤ 64))
theorem validKey_c (k : KeyD) : PC zP 37 [.st (encKey k)] (Bo (validKeyB k)) := by
 refine PCB.ob Tryz.func37 Tryz.ntmps37 Tryz.results37 ?_
 repeat' (first | (simp only [go_sem, zA, zB, zC, zD, zE, zF, zG, reduceCtorEq, zH, zI, zJ, zK, zL] <;> refine nf ?_) | (refine stp ?_; intro K hK) | (apply hK; clear hK K) | refine stn ?_ | (refine ⟨fun h => ?_, fun h => ?_⟩ <;> (try simp only [zM, zN] at h) <;> try simp only [h]) | (with_reducible refine ⟨_, isAtom_c _, ?_⟩) | refine stq ?_ | fail)
 all_goals (refine fin0 ?_; simp only [validKeyB, *, Bool.true_and, Bool.false_and, Bool.true_or, Bool.false_or, Bool.or_false])
theorem order_c (a b : Int) : PC zP 67 [I .i64 a, I .i64 b] (I .i64 (bif decide (a < b) then -1 else bif decide (b < a) then 1 else 0)) := by
 refine PCB.ob Tryz.func67 Tryz.ntmps67 Tryz.results67 ?_
 repeat' (first | (simp only [go_sem, zA, zB, zC, zD, zE, zF, zG, reduceCtorEq, zH, zI, zJ, zK, zL] <;> refine nf ?_) | (refine stp ?_; intro K hK) | (apply hK; clear hK K) | refine stn ?_ | (refine AWP.cnd ?_ ?_ <;> intro h <;> (try simp only [zM, zN] at h)) | (clear hK K))
 all_goals (refine fin0 ?_; simp only [*, cond_true, cond_false])
def textCmp (a b : List UInt8) : Int := bif Op.bytesLess a b then -1 else bif Op.bytesLess a b || decide (a = b) then 0 else 1
theorem text_c (a b : List UInt8) : PC zP 68 [S a, S b] (I .i64 (textCmp a b)) := by
 refine PCB.ob Tryz.func68 Tryz.ntmps68 Tryz.results68 ?_
 repeat' (first | (simp only [go_sem, zA, zB, zC, zD, zE, zF, zG, reduceCtorEq, zH, zI, zJ, zK, zL] <;> refine nf ?_) | (refine stp ?_; intro K hK) | (apply hK; clear hK K) | refine stn ?_ | (refine AWP.cnd ?_ ?_ <;> intro h <;> (try simp only [zM, zN] at h)) | (clear hK K))
 all_goals first
  | (refine fin0 ?_; simp only [textCmp, h, cond_true]; done)
  | (rename_i h1; rw [h1, Bool.false_or] at h; refine fin0 ?_; simp only [textCmp, h1, h, Bool.false_or, cond_true, cond_false])
def keyCmp (a b : KeyD) : Int := bif !decide (a.kind = b.kind) then (bif decide (a.kind < b.kind) then -1 else bif decide (b.kind < a.kind) then 1 else 0) else textCmp a.text b.text
theorem compareKeys_c (a b : KeyD) : PC zP 38 [.st (encKey a), .st (encKey b)] (I .i64 (keyCmp a b)) := by
 refine PCB.ob Tryz.func38 Tryz.ntmps38 Tryz.results38 ?_
 repeat' (first | (simp only [go_sem, zA, zB, zC, zD, zE, zF, zG, reduceCtorEq, zH, zI, zJ, zK, zL] <;> refine nf ?_) | (refine stp ?_; intro K hK) | (apply hK; clear hK K) | refine stn ?_ | (refine AWP.cnd ?_ ?_ <;> intro h <;> (try simp only [zM, zN] at h)) | (with_reducible first | refine ⟨_, order_c _ _, ?_⟩ | refine ⟨_, text_c _ _, ?_⟩) | refine stq ?_ | (clear hK K))
 all_goals (refine fin0 ?_; simp only [keyCmp, h, Bool.not_true, Bool.not_false, cond_true, cond_false])
end Go.Proofs.YtajfdbdklphonaaGreat
namespace Go.Sx
variable {P : Program} {n : Nat} {Q : Exit → AS → Prop}
def Is {α : Type} (a b : α) : Prop := a = b
def keepB (B : Bx) : List Nat → Bx
 | [] => []
 | d :: ds => match B.lookup d with
  | some t => (d, t) :: keepB B ds
  | none => keepB B ds
attribute [go_sem] keepB
theorem AWP.loopF {c : Code} {env : Env} {B : Bx} {X : Type} (chg : X → Env) (chB : X → Bx) (ks kb : List Nat) (ok : X → Prop) (meas : X → Nat) (x₀ : X)
    (hs : Gh n ⟨env, B⟩ ⟨chg x₀ ++ keepL env ks, chB x₀ ++ keepB B kb⟩) (h₀ : ok x₀)
    (round : ∀ x, ok x → AWP P n c ⟨chg x ++ keepL env ks, chB x ++ keepB B kb⟩ (Then (fun σ' => ∃ x', meas x' < meas x ∧ ok x' ∧ Gh n σ' ⟨chg x' ++ keepL env ks, chB x' ++ keepB B kb⟩) Q)) : AWP P n (.loop c) ⟨env, B⟩ Q :=
  AWP.loopS (fun x => chg x ++ keepL env ks) (fun x => chB x ++ keepB B kb) ok meas x₀ hs h₀ round
theorem AWP.range {c : Code} {env : Env} {B : Bx} {α S : Type} (l : List α) (enc : α → List C) (chg : Nat → S → Env) (chB : Nat → S → Bx) (ks kb : List Nat) (ok : Nat → S → Prop) (s₀ : S)
    (hs : Gh n ⟨env, B⟩ ⟨chg 0 s₀ ++ keepL env ks, chB 0 s₀ ++ keepB B kb⟩) (h₀ : ok 0 s₀)
    (step : ∀ (k : Nat) (s : S) (x : α), k < l.length → l[k]? = some x → (l.map enc)[k]? = some (enc x) → decide ((k : Int) < (l.length : Int)) = true → ok k s →
      AWP P n c ⟨chg k s ++ keepL env ks, chB k s ++ keepB B kb⟩ (Then (fun σ' => ∃ s', ok (k + 1) s' ∧ Gh n σ' ⟨chg (k + 1) s' ++ keepL env ks, chB (k + 1) s' ++ keepB B kb⟩) Q))
    (done : ∀ s : S, decide ((l.length : Int) < (l.length : Int)) = false → ok l.length s → AWP P n c ⟨chg l.length s ++ keepL env ks, chB l.length s ++ keepB B kb⟩ (Then (fun _ => False) Q)) : AWP P n (.loop c) ⟨env, B⟩ Q := by
  refine AWP.loopF (X := Nat × S) (fun x => chg x.1 x.2) (fun x => chB x.1 x.2) ks kb (fun x => x.1 ≤ l.length ∧ ok x.1 x.2) (fun x => l.length - x.1) (0, s₀) hs ⟨Nat.zero_le _, h₀⟩ ?_
  rintro ⟨k, s⟩ ⟨hk, hok⟩
  simp only at hk hok ⊢
  by_cases hlt : k < l.length
  · obtain ⟨x, hx, hx', hb, _⟩ := at_lt (enc := enc) hlt
    refine (step k s x hlt hx hx' hb hok).mono ?_
    intro e σ' hq
    cases e with
    | normal => obtain ⟨s', h1, h2⟩ := hq; exact ⟨(k + 1, s'), by simp only; omega, ⟨by simp only; omega, h1⟩, h2⟩
    | exit id => exact hq
    | goto l => exact hq
    | ret => exact hq
    | panic ch => exact hq
    | outgrown => exact hq
  · have : k = l.length := by omega
    subst this
    refine (done s (by simp) hok).mono ?_
    intro e σ' hq
    cases e with
    | normal => exact hq.elim
    | exit id => exact hq
    | goto l => exact hq
    | ret => exact hq
    | panic ch => exact hq
    | outgrown => exact hq
theorem Cell.reps_get {M : Mem} {ν : Nu} : ∀ {cs : List Cell} {vs : List Value} {j : Nat} {c : Cell}, Cell.reps M ν cs vs → cs[j]? = some c → ∃ v, Cell.rep M ν c v
 | [], _, j, c, _, h => by simp at h
 | d :: cs, vs, 0, c, h, e => by
  simp only [Cell.reps] at h
  obtain ⟨v, vs', _, h1, _⟩ := h
  simp at e; subst e
  exact ⟨v, h1⟩
 | d :: cs, vs, j + 1, c, h, e => by
  simp only [Cell.reps] at h
  obtain ⟨v, vs', _, _, h2⟩ := h
  exact Cell.reps_get h2 (by simpa using e)
theorem AWP.lenB {c : Code} {env : Env} {B : Bx} (k j : Nat) {cs : List Cell} {sz : Nat} {rows : List (List C)} (hb : B.lookup k = some (.cells cs)) (hj : cs[j]? = some (.dat (.sl sz rows)))
    (h : rows.length ≤ 9223372036854775807 → AWP P n c ⟨env, B⟩ Q) : AWP P n c ⟨env, B⟩ Q := by
  intro κ M0 a w s
  refine h ?_ κ M0 a w s
  obtain ⟨M, ν, _, _, _, _, h5, _⟩ := s
  have := h5.res k _ (lookup_box hb)
  obtain ⟨b, c, et, _, _, hr⟩ := this
  obtain ⟨v, hv⟩ := Cell.reps_get hr hj
  simp only [Cell.rep, C.rep] at hv
  obtain ⟨_, cap, _, _, h1, h2, _⟩ := hv
  unfold maxLen at h2
  omega
end Go.Sx
set_option maxRecDepth 20000
set_option maxHeartbeats 1000000
namespace Go.Proofs.YtajfdbdklphonaaGreat
open Go Go.Sx
def uppB (b : UInt8) : Bool := decide ((65 : Int) ≤ (b.toNat : Int)) && decide ((b.toNat : Int) ≤ 90)
theorem refUpper_c (b : UInt8) : PC zP 158 [I .u8 b.toNat] (Bo (uppB b)) := by
 refine PCB.ob Tryz.func158 Tryz.ntmps158 Tryz.results158 ?_
 repeat' (first | (simp only [go_sem, zA, zB, zC, zD, zE, zF, zG, reduceCtorEq, zH, zI, zJ, zK, zL] <;> refine nf ?_) | (refine stp ?_; intro K hK) | (apply hK; clear hK K) | refine stn ?_ | (refine ⟨fun h => ?_, fun h => ?_⟩ <;> (try simp only [zM, zN] at h) <;> try simp only [h]) | fail)
 all_goals (refine fin0 ?_; simp only [uppB, h, Bool.true_and, Bool.false_and])
theorem isUpper_c (b : UInt8) : PC zP 180 [I .u8 b.toNat] (Bo (uppB b)) := by
 refine PCB.ob Tryz.func180 Tryz.ntmps180 Tryz.results180 ?_
 repeat' (first | (simp only [go_sem, zA, zB, zC, zD, zE, zF, zG, reduceCtorEq, zH, zI, zJ, zK, zL] <;> refine nf ?_) | (refine stp ?_; intro K hK) | (apply hK; clear hK K) | refine stn ?_ | (refine ⟨fun h => ?_, fun h => ?_⟩ <;> (try simp only [zM, zN] at h) <;> try simp only [h]) | fail)
 all_goals (refine fin0 ?_; simp only [uppB, h, Bool.true_and, Bool.false_and])
theorem isLower_c (b : UInt8) : PC zP 169 [I .u8 b.toNat] (Bo (lowB b)) := by
 refine PCB.ob Tryz.func169 Tryz.ntmps169 Tryz.results169 ?_
 repeat' (first | (simp only [go_sem, zA, zB, zC, zD, zE, zF, zG, reduceCtorEq, zH, zI, zJ, zK, zL] <;> refine nf ?_) | (refine stp ?_; intro K hK) | (apply hK; clear hK K) | refine stn ?_ | (refine ⟨fun h => ?_, fun h => ?_⟩ <;> (try simp only [zM, zN] at h) <;> try simp only [h]) | fail)
 all_goals (refine fin0 ?_; simp only [lowB, h, Bool.true_and, Bool.false_and])
theorem isDigit_c (b : UInt8) : PC zP 171 [I .u8 b.toNat] (Bo (digB b)) := by
 refine PCB.ob Tryz.func171 Tryz.ntmps171 Tryz.results171 ?_
 repeat' (first | (simp only [go_sem, zA, zB, zC, zD, zE, zF, zG, reduceCtorEq, zH, zI, zJ, zK, zL] <;> refine nf ?_) | (refine stp ?_; intro K hK) | (apply hK; clear hK K) | refine stn ?_ | (refine ⟨fun h => ?_, fun h => ?_⟩ <;> (try simp only [zM, zN] at h) <;> try simp only [h]) | fail)
 all_goals (refine fin0 ?_; simp only [digB, h, Bool.true_and, Bool.false_and])
theorem atomTail_c (b : UInt8) : PC zP 170 [I .u8 b.toNat] (Bo (tailB b)) := by
 refine PCB.ob Tryz.func170 Tryz.ntmps170 Tryz.results170 ?_
 repeat' (first | (simp only [go_sem, zA, zB, zC, zD, zE, zF, zG, reduceCtorEq, zH, zI, zJ, zK, zL] <;> refine nf ?_) | (refine stp ?_; intro K hK) | (apply hK; clear hK K) | refine stn ?_ | (refine ⟨fun h => ?_, fun h => ?_⟩ <;> (try simp only [zM, zN] at h) <;> try simp only [h]) | (with_reducible first | refine ⟨_, isLower_c _, ?_⟩ | refine ⟨_, isDigit_c _, ?_⟩) | refine stq ?_ | fail)
 all_goals (refine fin0 ?_; simp only [tailB, *, Bool.true_or, Bool.false_or])
def vtailB (b : UInt8) : Bool := lowB b || (uppB b || (digB b || decide ((b.toNat : Int) = 95)))
theorem varTail_c (b : UInt8) : PC zP 181 [I .u8 b.toNat] (Bo (vtailB b)) := by
 refine PCB.ob Tryz.func181 Tryz.ntmps181 Tryz.results181 ?_
 repeat' (first | (simp only [go_sem, zA, zB, zC, zD, zE, zF, zG, reduceCtorEq, zH, zI, zJ, zK, zL] <;> refine nf ?_) | (refine stp ?_; intro K hK) | (apply hK; clear hK K) | refine stn ?_ | (refine ⟨fun h => ?_, fun h => ?_⟩ <;> (try simp only [zM, zN] at h) <;> try simp only [h]) | (with_reducible first | refine ⟨_, isLower_c _, ?_⟩ | refine ⟨_, isDigit_c _, ?_⟩ | refine ⟨_, isUpper_c _, ?_⟩) | refine stq ?_ | fail)
 all_goals (refine fin0 ?_; simp only [vtailB, *, Bool.true_or, Bool.false_or])
def nameB (p q : UInt8 → Bool) (s : List UInt8) : Bool := !(decide ((s.length : Int) < 1) || (decide ((16 : Int) < (s.length : Int)) || !p (s.headD 0))) && (s.drop 1).all q
theorem isName_c (s : List UInt8) (g h : FuncId) (p q : UInt8 → Bool) (hg : ∀ b : UInt8, PC zP g [I .u8 b.toNat] (Bo (p b))) (hh : ∀ b : UInt8, PC zP h [I .u8 b.toNat] (Bo (q b))) :
    PC zP 168 [S s, .one (.dat (.fn g)), .one (.dat (.fn h))] (Bo (nameB p q s)) := by
  refine PCB.ob Tryz.func168 Tryz.ntmps168 Tryz.results168 ?_
  cases hl1 : decide ((s.length : Int) < 1) with
  | true =>
    repeat' (first | (simp only [go_sem, zA, zB, zC, zD, zE, zF, zG, reduceCtorEq, zH, zI, zJ, zK, zL, hl1] <;> refine nf ?_) | (refine stp ?_; intro K hK) | (apply hK; clear hK K) | refine stn ?_ | (clear hK K))
    all_goals (first | exact nn | refine fin0 ?_)
    all_goals simp only [nameB, hl1, Bool.true_or, Bool.not_true, Bool.false_and]
  | false =>
    have hpos : 0 < s.length := by simp only [decide_eq_false_iff_not] at hl1; omega
    obtain ⟨b, hb0⟩ : ∃ b, s[0]? = some b := ⟨s[0], by simp [hpos]⟩
    have hhd : s.headD 0 = b := by cases s <;> simp at hb0 hpos ⊢; exact hb0
    cases hlong : decide ((16 : Int) < (s.length : Int)) with
    | true =>
      repeat' (first | (simp only [go_sem, zA, zB, zC, zD, zE, zF, zG, reduceCtorEq, zH, zI, zJ, zK, zL, hl1, hlong] <;> refine nf ?_) | (refine stp ?_; intro K hK) | (apply hK; clear hK K) | refine stn ?_ | (clear hK K))
      all_goals (first | exact nn | refine fin0 ?_)
      all_goals simp only [nameB, hlong, Bool.true_or, Bool.or_true, Bool.not_true, Bool.false_and]
    | false =>
      have hlen : s.length ≤ 9223372036854775807 := by simp only [decide_eq_false_iff_not] at hlong; omega
      cases hlow : p b with
      | false =>
        repeat' (first | (simp only [go_sem, zA, zB, zC, zD, zE, zF, zG, reduceCtorEq, zH, zI, zJ, zK, zL, hl1, hlong, hlow] <;> refine nf ?_) | (refine stp ?_; intro K hK) | (apply hK; clear hK K) | refine stn ?_ | (with_reducible first | refine ⟨_, hg b, ?_⟩ | refine ⟨b, hb0, ?_⟩) | refine stq ?_ | (clear hK K))
        all_goals (first | exact nn | refine fin0 ?_)
        all_goals simp only [nameB, hl1, hlong, hhd, hlow, Bool.false_or, Bool.not_false, Bool.not_true, Bool.false_and]
      | true =>
        have hmod : nameB p q s = (s.drop 1).all q := by simp only [nameB, hl1, hlong, hhd, hlow, Bool.not_true, Bool.false_or, Bool.not_false, Bool.true_and]
        repeat' (first | (simp only [go_sem, zA, zB, zC, zD, zE, zF, zG, reduceCtorEq, zH, zI, zJ, zK, zL, hl1, hlong, hlow] <;> refine nf ?_) | (refine stp ?_; intro K hK) | (apply hK; clear hK K) | refine stn ?_ | (with_reducible first | refine ⟨_, hg b, ?_⟩ | refine ⟨b, hb0, ?_⟩) | refine stq ?_ | fail)
        refine AWP.loopF (X := Nat) (fun k => [(7, I .i64 k)]) (fun k => []) [0, 2] [] (fun k => 1 ≤ k ∧ k ≤ s.length ∧ (s.drop 1).all q = (s.drop k).all q) (fun k => s.length - k) (1) (by refine sts ?_; exact Gh.tt []) ?_ ?_
        · exact ⟨Nat.le_refl _, by omega, rfl⟩
        rintro k ⟨hk1, hk, hp⟩
        refine sts ?_
        by_cases hlt : k < s.length
        · have hdrop := List.drop_eq_getElem_cons hlt
          have hd : s[k]? = some s[k] := List.getElem?_eq_getElem hlt
          have hbt : decide ((k : Int) < (s.length : Int)) = true := by simpa using hlt
          generalize s[k] = d at hd hdrop
          rw [hdrop, List.all_cons] at hp
          cases hq : q d
          all_goals simp only [hq, Bool.true_and, Bool.false_and] at hp
          repeat' (first | (simp only [go_sem, zA, zB, zC, zD, zE, zF, zG, reduceCtorEq, zH, zI, zJ, zK, zL, hbt, hq] <;> refine nf ?_) | (refine stp ?_; intro K hK) | (apply hK; clear hK K) | refine stn ?_ | (with_reducible first | refine ⟨_, hh d, ?_⟩ | refine ⟨by omega, d, hd, ?_⟩) | refine stq ?_ | (clear hK K))
          all_goals first
            | (refine fin0 ?_; rw [hmod, hp])
            | (rw [wrap_succ hlt hlen]; refine ⟨k + 1, by omega, ⟨by omega, by omega, hp⟩, Gh.tt []⟩)
        · have hbt : decide ((k : Int) < (s.length : Int)) = false := by simpa using hlt
          rw [show s.drop k = [] from List.drop_eq_nil_of_le (by omega)] at hp
          repeat' (first | (simp only [go_sem, zA, zB, zC, zD, zE, zF, zG, reduceCtorEq, zH, zI, zJ, zK, zL, hbt] <;> refine nf ?_) | (refine stp ?_; intro K hK) | (apply hK; clear hK K) | refine stn ?_ | (clear hK K))
          all_goals (refine fin0 ?_; rw [hmod, hp]; rfl)
end Go.Proofs.YtajfdbdklphonaaGreat