/- Lemmas; conditions: as each states. -/
import Derived.Test.YtajfdbdklphonaaGreatDm8a
open Go.Proofs.Tryz renaming prog → zP
open List renaming length_map → lB, mem_of_getElem? → lP
open Go.Sx.AWP renaming len → xF
open Nat renaming reduceBEq → zA, reduceBNe → zB, reduceAdd → zC, reduceSub → zD, reduceMul → zE, reduceLeDiff → zF, reduceLT → zG, reduceEqDiff → zH
open Int renaming reduceToNat → zI, reduceLE → zJ, reduceLT → zK, reduceEq → zL
set_option linter.unusedVariables false
set_option linter.unusedSimpArgs false
set_option maxRecDepth 20000
set_option maxHeartbeats 1000000
namespace Go.Proofs.YtajfdbdklphonaaGreat
open Go Go.Sx
theorem identIsAtom_c (s : List UInt8) : PC zP 146 [S s] (Bo (isAtomB s)) := by
 have h := isName_c s 169 170 lowB tailB isLower_c atomTail_c
 refine PCB.ob Tryz.func146 Tryz.ntmps146 Tryz.results146 ?_
 repeat' (first | (simp only [go_sem, zA, zB, zC, zD, zE, zF, zG, reduceCtorEq, zH, zI, zJ, zK, zL] <;> refine nf ?_) | (refine stp ?_; intro K hK) | (apply hK; clear hK K) | refine stn ?_ | (with_reducible refine ⟨_, h, ?_⟩) | refine stq ?_ | fail)
 all_goals (first | exact nn | refine fin0 ?_)
 all_goals rfl
def isVarB (s : List UInt8) : Bool := nameB uppB vtailB s
theorem identIsVariable_c (s : List UInt8) : PC zP 164 [S s] (Bo (isVarB s)) := by
 have h := isName_c s 180 181 uppB vtailB isUpper_c varTail_c
 refine PCB.ob Tryz.func164 Tryz.ntmps164 Tryz.results164 ?_
 repeat' (first | (simp only [go_sem, zA, zB, zC, zD, zE, zF, zG, reduceCtorEq, zH, zI, zJ, zK, zL] <;> refine nf ?_) | (refine stp ?_; intro K hK) | (apply hK; clear hK K) | refine stn ?_ | (with_reducible refine ⟨_, h, ?_⟩) | refine stq ?_ | fail)
 all_goals (first | exact nn | refine fin0 ?_)
 all_goals rfl
theorem identValidKey_c (k : KeyD) : PC zP 173 [.st (encKey k)] (Bo (validKeyB k)) := by
 refine PCB.ob Tryz.func173 Tryz.ntmps173 Tryz.results173 ?_
 cases h0 : decide (k.kind = 0) <;> cases h1 : decide (k.kind = 1)
 ·
  repeat' (first | (simp only [go_sem, zA, zB, zC, zD, zE, zF, zG, reduceCtorEq, zH, zI, zJ, zK, zL, encKey, h0, h1] <;> refine nf ?_) | (refine stp ?_; intro K hK) | (apply hK; clear hK K) | refine stn ?_ | fail)
  all_goals (refine fin0 ?_; simp only [validKeyB, h0, h1, Bool.true_and, Bool.false_and, Bool.or_false, Bool.false_or])
 ·
  repeat' (first | (simp only [go_sem, zA, zB, zC, zD, zE, zF, zG, reduceCtorEq, zH, zI, zJ, zK, zL, encKey, h0, h1] <;> refine nf ?_) | (refine stp ?_; intro K hK) | (apply hK; clear hK K) | refine stn ?_ | (clear hK K))
  all_goals (refine fin0 ?_; simp only [validKeyB, h0, h1, Bool.true_and, Bool.false_and, Bool.or_false, Bool.false_or])
 ·
  repeat' (first | (simp only [go_sem, zA, zB, zC, zD, zE, zF, zG, reduceCtorEq, zH, zI, zJ, zK, zL, encKey, h0, h1] <;> refine nf ?_) | (refine stp ?_; intro K hK) | (apply hK; clear hK K) | refine stn ?_ | (with_reducible refine ⟨_, identIsAtom_c _, ?_⟩) | refine stq ?_ | (clear hK K))
  all_goals (refine fin0 ?_; simp only [validKeyB, h0, h1, Bool.true_and, Bool.false_and, Bool.or_false, Bool.false_or])
 ·exfalso
  simp only [decide_eq_true_eq] at h0 h1
  omega
theorem refIsVariable_c (s : List UInt8) : PC zP 124 [S s] (Bo (isVarB s)) := by
 refine PCB.ob Tryz.func124 Tryz.ntmps124 Tryz.results124 ?_
 cases hl1 : decide ((s.length : Int) < 1) with
 | true =>
  repeat' (first | (simp only [go_sem, zA, zB, zC, zD, zE, zF, zG, reduceCtorEq, zH, zI, zJ, zK, zL, hl1] <;> refine nf ?_) | (refine stp ?_; intro K hK) | (apply hK; clear hK K) | refine stn ?_ | (clear hK K))
  all_goals (first | exact nn | refine fin0 ?_)
  all_goals simp only [isVarB, nameB, hl1, Bool.true_or, Bool.not_true, Bool.false_and]
 | false =>
  have hpos : 0 < s.length := by simp only [decide_eq_false_iff_not] at hl1; omega
  obtain ⟨b, hb0⟩ : ∃ b, s[0]? = some b := ⟨s[0], by simp [hpos]⟩
  have hhd : s.headD 0 = b := by cases s <;> simp at hb0 hpos ⊢; exact hb0
  cases hlong : decide ((16 : Int) < (s.length : Int)) with
  | true =>
   repeat' (first | (simp only [go_sem, zA, zB, zC, zD, zE, zF, zG, reduceCtorEq, zH, zI, zJ, zK, zL, hl1, hlong] <;> refine nf ?_) | (refine stp ?_; intro K hK) | (apply hK; clear hK K) | refine stn ?_ | (clear hK K))
   all_goals (first | exact nn | refine fin0 ?_)
   all_goals simp only [isVarB, nameB, hlong, Bool.true_or, Bool.or_true, Bool.not_true, Bool.false_and]
  | false =>
   have hlen : s.length ≤ 9223372036854775807 := by simp only [decide_eq_false_iff_not] at hlong; omega
   cases hlow : uppB b with
   | false =>
    repeat' (first | (simp only [go_sem, zA, zB, zC, zD, zE, zF, zG, reduceCtorEq, zH, zI, zJ, zK, zL, hl1, hlong, hlow] <;> refine nf ?_) | (refine stp ?_; intro K hK) | (apply hK; clear hK K) | refine stn ?_ | (with_reducible first | refine ⟨_, refUpper_c b, ?_⟩ | refine ⟨b, hb0, ?_⟩) | refine stq ?_ | (clear hK K))
    all_goals (first | exact nn | refine fin0 ?_)
    all_goals simp only [isVarB, nameB, hl1, hlong, hhd, hlow, Bool.false_or, Bool.not_false, Bool.not_true, Bool.false_and]
   | true =>
    have hmod : isVarB s = (s.drop 1).all vtailB := by simp only [isVarB, nameB, hl1, hlong, hhd, hlow, Bool.not_true, Bool.false_or, Bool.not_false, Bool.true_and]
    repeat' (first | (simp only [go_sem, zA, zB, zC, zD, zE, zF, zG, reduceCtorEq, zH, zI, zJ, zK, zL, hl1, hlong, hlow] <;> refine nf ?_) | (refine stp ?_; intro K hK) | (apply hK; clear hK K) | refine stn ?_ | (with_reducible first | refine ⟨_, refUpper_c b, ?_⟩ | refine ⟨b, hb0, ?_⟩) | refine stq ?_ | fail)
    refine AWP.loopF (X := Nat) (fun k => [(3, I .i64 k)]) (fun k => []) [0] [] (fun k => 1 ≤ k ∧ k ≤ s.length ∧ (s.drop 1).all vtailB = (s.drop k).all vtailB) (fun k => s.length - k) (1) (by refine sts ?_; exact Gh.tt []) ?_ ?_
    ·exact ⟨Nat.le_refl _, by omega, rfl⟩
    rintro k ⟨hk1, hk, hp⟩
    refine sts ?_
    by_cases hlt : k < s.length
    ·have hdrop := List.drop_eq_getElem_cons hlt
     have hd : s[k]? = some s[k] := List.getElem?_eq_getElem hlt
     have hbt : decide ((k : Int) < (s.length : Int)) = true := by simpa using hlt
     generalize s[k] = d at hd hdrop
     rw [hdrop, List.all_cons] at hp
     cases ht1 : lowB d <;> cases ht4 : uppB d <;> cases ht2 : digB d <;> cases ht3 : decide ((d.toNat : Int) = 95)
     all_goals simp only [vtailB, ht1, ht2, ht3, ht4, Bool.or_true, Bool.or_false, Bool.true_or, Bool.true_and, Bool.false_and] at hp
     repeat' (first | (simp only [go_sem, zA, zB, zC, zD, zE, zF, zG, reduceCtorEq, zH, zI, zJ, zK, zL, hbt, ht1, ht2, ht3, ht4] <;> refine nf ?_) | (refine stp ?_; intro K hK) | (apply hK; clear hK K) | refine stn ?_ | (with_reducible first | refine ⟨_, lower_c d, ?_⟩ | refine ⟨_, digit_c d, ?_⟩ | refine ⟨_, refUpper_c d, ?_⟩ | refine ⟨by omega, d, hd, ?_⟩) | refine stq ?_ | (clear hK K))
     all_goals first
      | (refine fin0 ?_; rw [hmod, hp])
      | (rw [wrap_succ hlt hlen]; refine ⟨k + 1, by omega, ⟨by omega, by omega, hp⟩, Gh.tt []⟩)
    ·have hbt : decide ((k : Int) < (s.length : Int)) = false := by simpa using hlt
     rw [show s.drop k = [] from List.drop_eq_nil_of_le (by omega)] at hp
     repeat' (first | (simp only [go_sem, zA, zB, zC, zD, zE, zF, zG, reduceCtorEq, zH, zI, zJ, zK, zL, hbt] <;> refine nf ?_) | (refine stp ?_; intro K hK) | (apply hK; clear hK K) | refine stn ?_ | (clear hK K))
     all_goals (refine fin0 ?_; rw [hmod, hp]; rfl)
structure PutA where
 keys : List KeyD
 kids : List Dat
 placed : Bool
def putStep (k : KeyD) (d : Dat) (a : PutA) (x : KeyD × Dat) : PutA :=
 let b : PutA := bif decide (keyCmp k x.1 ≤ 0) && !a.placed then ⟨a.keys ++ [k], a.kids ++ [d], true⟩ else a
 bif !decide (keyCmp k x.1 = 0) then ⟨b.keys ++ [x.1], b.kids ++ [x.2], b.placed⟩ else b
def putEnd (k : KeyD) (d : Dat) (a : PutA) : PutA := bif !a.placed then ⟨a.keys ++ [k], a.kids ++ [d], true⟩ else a
def mapDat (a : PutA) : Dat := { zeroDat with kind := 8, kids := a.kids, keys := a.keys }
def putBad (m : Dat) (k : KeyD) : Bool := !decide (m.kind = 8) || (!validKeyB k || !decide ((m.keys.length : Int) = (m.kids.length : Int)))
def putR (m : Dat) (k : KeyD) (d : Dat) : Dat × Bool := bif putBad m k then (zeroDat, false) else (mapDat (putEnd k d ((m.keys.zip m.kids).foldl (putStep k d) ⟨[], [], false⟩)), true)
abbrev Kr (n : Nat) (l : List KeyD) : Nat × Res := (n, .row 2 (l.map encKey))
abbrev Dr (n : Nat) (l : List Dat) : Nat × Res := (n, .row 13 (l.map encDat))
abbrev outB (kn dn : Nat) (a : PutA) : Res := .cells [.dat (.int .i64 8), .dat (.int .i64 0), .dat (.str []), .own dn a.kids.length, .own kn a.keys.length, .dat (.str []), .dat (.int .i64 0), .dat (.int .i64 0), .dat (.bool false), .dat (.nil 8), .dat (.int .i64 0), .dat (.str []), .dat (.str [])]
abbrev zeroB : Res := .cells [.dat (.int .i64 0), .dat (.int .i64 0), .dat (.str []), .dat (.nil 13), .dat (.nil 2), .dat (.str []), .dat (.int .i64 0), .dat (.int .i64 0), .dat (.bool false), .dat (.nil 8), .dat (.int .i64 0), .dat (.str []), .dat (.str [])]
theorem key_snoc (l : List KeyD) (x : KeyD) : l.map encKey ++ [encKey x] = (l ++ [x]).map encKey := by simp
theorem dat_snoc (l : List Dat) (x : Dat) : l.map encDat ++ [encDat x] = (l ++ [x]).map encDat := by simp
theorem put_c (m : Dat) (k : KeyD) (d : Dat) (hm : m.kids.length ≤ 1000000) : PC zP 17 [Dt m, .st (encKey k), Dt d] (.tup [Dt (putR m k d).1, Bo (putR m k d).2]) := by
 refine PCB.ob Tryz.func17 Tryz.ntmps17 Tryz.results17 ?_
 refine AWP.ghQ ?_
 cases hbad : putBad m k with
 | true =>
  cases h8 : decide (m.kind = 8) <;> cases hv : validKeyB k <;> cases hl : decide ((m.keys.length : Int) = (m.kids.length : Int))
  all_goals first
   | (exfalso; simp only [putBad, h8, hv, hl, Bool.not_true, Bool.or_false] at hbad; exact Bool.false_ne_true hbad)
   | skip
  repeat' (first | (simp only [go_sem, zA, zB, zC, zD, zE, zF, zG, reduceCtorEq, zH, zI, zJ, zK, zL, lB, h8, hv, hl] <;> refine nf ?_) | (refine stp ?_; intro K hK) | (apply hK; clear hK K) | refine stn ?_ | (with_reducible refine ⟨_, validKey_c k, ?_⟩) | refine stq ?_ | (clear hK K))
  all_goals (refine ⟨_, Gh.refl _, ?_⟩)
  all_goals simp only [go_sem, zA, zB, zC, zD, zE, zF, zG, reduceCtorEq, zH, zI, zJ, zK, zL]
  all_goals (refine fin0 ?_; simp only [putR, hbad, cond_true]; rfl)
 | false =>
  have hR : putR m k d = (mapDat (putEnd k d ((m.keys.zip m.kids).foldl (putStep k d) ⟨[], [], false⟩)), true) := by simp only [putR, hbad, cond_false]
  simp only [putBad, Bool.or_eq_false_iff, Bool.not_eq_false'] at hbad
  obtain ⟨h8, hv, hl⟩ := hbad
  have hlk : m.keys.length = m.kids.length := by simp only [decide_eq_true_eq] at hl; omega
  rw [hR]
  repeat' (first | (simp only [go_sem, zA, zB, zC, zD, zE, zF, zG, reduceCtorEq, zH, zI, zJ, zK, zL, lB, h8, hv, hl] <;> refine nf ?_) | (refine stp ?_; intro K hK) | (apply hK; clear hK K) | refine stn ?_ | (with_reducible refine ⟨_, validKey_c k, ?_⟩) | refine stq ?_ | fail)
  refine AWP.gh (Gh.nilcell 8 4 900 rfl rfl rfl (by simp only [go_sem, zA, zB, zC, zD, zE, zF, zG, reduceCtorEq, zH, zI, zJ, zK, zL]) (by simp only [go_sem, zA, zB, zC, zD, zE, zF, zG, reduceCtorEq, zH, zI, zJ, zK, zL])) ?_
  refine AWP.gh (Gh.nilcell 8 3 901 rfl rfl rfl (by simp only [go_sem, zA, zB, zC, zD, zE, zF, zG, reduceCtorEq, zH, zI, zJ, zK, zL]) (by simp only [go_sem, zA, zB, zC, zD, zE, zF, zG, reduceCtorEq, zH, zI, zJ, zK, zL])) ?_
  refine AWP.loopS (X := Nat × PutA) (fun x => [(35, I .i64 x.1), (34, I .i64 m.keys.length), (33, .one (.dat (.sl 2 (m.keys.map encKey)))), (9, Bo x.2.placed), (3, Sp 3), (4, Sp 4), (5, Sp 5), (6, Sp 6), (8, Sp 8)])
   (fun x => [(3, .cells ((encDat m).map .dat)), (4, .cells ((encKey k).map .dat)), (5, .cells ((encDat d).map .dat)), (6, zeroB), (8, outB 900 901 x.2), Kr 900 x.2.keys, Dr 901 x.2.kids])
   (fun x => x.1 ≤ m.keys.length ∧ (m.keys.zip m.kids).foldl (putStep k d) ⟨[], [], false⟩ = ((m.keys.zip m.kids).drop x.1).foldl (putStep k d) x.2 ∧ x.2.keys.length ≤ 2 * x.1 ∧ x.2.kids.length ≤ 2 * x.1) (fun x => m.keys.length - x.1) (0, ⟨[], [], false⟩) ?_ ⟨Nat.zero_le _, rfl, by simp, by simp⟩ ?_
  ·exact Gh.tt []
  rintro ⟨i, a⟩ ⟨hi, hp, hk1, hk2⟩
  simp only at hi hp hk1 hk2
  by_cases hlt : i < m.keys.length
  ·obtain ⟨kx, hkx, hkx', hb, _⟩ := at_lt (enc := encKey) hlt
   obtain ⟨dx, hdx, hdx', _, _⟩ := at_lt (enc := encDat) (show i < m.kids.length by omega)
   have hz : (m.keys.zip m.kids).drop i = (kx, dx) :: (m.keys.zip m.kids).drop (i + 1) := by
    have hlz : i < (m.keys.zip m.kids).length := by simp; omega
    rw [List.drop_eq_getElem_cons hlz]
    congr 1
    have e1 := List.getElem?_eq_getElem hlt
    have e2 := List.getElem?_eq_getElem (show i < m.kids.length by omega)
    rw [hkx] at e1
    rw [hdx] at e2
    simp only [List.getElem_zip]
    rw [← Option.some.inj e1, ← Option.some.inj e2]
   rw [hz, List.foldl_cons] at hp
   obtain ⟨ak, ad, ap⟩ := a
   simp only at hk1 hk2
   cases hc0 : decide (keyCmp k kx ≤ 0) <;> cases hc1 : decide (keyCmp k kx = 0) <;> cases ap
   all_goals (simp only [putStep, hc0, hc1, Bool.not_true, Bool.not_false, Bool.and_true, Bool.and_false, Bool.true_and, Bool.false_and, cond_true, cond_false] at hp)
   repeat' (first | (simp only [go_sem, zA, zB, zC, zD, zE, zF, zG, reduceCtorEq, zH, zI, zJ, zK, zL, lB, hb, hc0, hc1, key_snoc, dat_snoc] <;> refine nf ?_) | (refine stp ?_; intro K hK) | (apply hK; clear hK K) | refine stn ?_ | (with_reducible first | refine ⟨_, compareKeys_c k kx, ?_⟩ | refine ⟨by omega, encKey kx, hkx', ?_⟩ | refine ⟨by omega, encDat dx, hdx', ?_⟩ | refine ⟨by omega, ?_⟩ | (refine ⟨by simp only [List.length_append, List.length_cons, List.length_nil]; omega, ?_⟩)) | (with_reducible refine AWP.segP (id := 15) 8 mixed (by kernel_rfl) fun K hK => ?_; simp only [List.take_succ_cons, List.take_zero, List.drop_succ_cons, List.drop_zero]) | refine stq ?_ | (clear hK K))
   all_goals (rw [wrap_succ hlt (by omega)])
   all_goals first
    | refine ⟨(i + 1, ⟨ak, ad, _⟩), by simp only; omega, ⟨by simp only; omega, hp, by simp only; omega, by simp only; omega⟩, Gh.tt []⟩
    | refine ⟨(i + 1, ⟨ak ++ [k], ad ++ [d], _⟩), by simp only; omega, ⟨by simp only; omega, hp, by simp; omega, by simp; omega⟩, Gh.tt [(900, 53), (901, 59)]⟩
    | refine ⟨(i + 1, ⟨ak ++ [kx], ad ++ [dx], _⟩), by simp only; omega, ⟨by simp only; omega, hp, by simp; omega, by simp; omega⟩, Gh.tt [(900, 67), (901, 77)]⟩
    | refine ⟨(i + 1, ⟨ak ++ [k] ++ [kx], ad ++ [d] ++ [dx], _⟩), by simp only; omega, ⟨by simp only; omega, hp, by simp; omega, by simp; omega⟩, Gh.tt [(900, 67), (901, 77)]⟩
  ·have hb : decide ((i : Int) < (m.keys.length : Int)) = false := by simpa using hlt
   rw [show (m.keys.zip m.kids).drop i = [] from List.drop_eq_nil_of_le (by simp; omega), List.foldl_nil] at hp
   rw [hp]
   obtain ⟨ak, ad, ap⟩ := a
   simp only at hk1 hk2
   cases ap
   ·
    repeat' (first | (simp only [go_sem, zA, zB, zC, zD, zE, zF, zG, reduceCtorEq, zH, zI, zJ, zK, zL, lB, hb, key_snoc, dat_snoc] <;> refine nf ?_) | (refine stp ?_; intro K hK) | (apply hK; clear hK K) | refine stn ?_ | (with_reducible refine ⟨by omega, ?_⟩) | refine stq ?_ | (clear hK K))
    refine GhQ.step (Gh.fz 86) ?_
    simp only [go_sem, zA, zB, zC, zD, zE, zF, zG, reduceCtorEq, zH, zI, zJ, zK, zL, lB]
    refine ⟨_, Gh.fz 92, ?_⟩
    simp only [go_sem, zA, zB, zC, zD, zE, zF, zG, reduceCtorEq, zH, zI, zJ, zK, zL, lB]
    all_goals (first | exact nn | refine fin0 ?_)
    all_goals (simp only [hp, putEnd, Bool.not_false, cond_true, mapDat, Dt, encDat_eq, zeroDat]; rfl)
   ·
    repeat' (first | (simp only [go_sem, zA, zB, zC, zD, zE, zF, zG, reduceCtorEq, zH, zI, zJ, zK, zL, lB, hb, key_snoc, dat_snoc] <;> refine nf ?_) | (refine stp ?_; intro K hK) | (apply hK; clear hK K) | refine stn ?_ | (clear hK K))
    refine GhQ.step (Gh.fz 900) ?_
    simp only [go_sem, zA, zB, zC, zD, zE, zF, zG, reduceCtorEq, zH, zI, zJ, zK, zL, lB]
    refine ⟨_, Gh.fz 901, ?_⟩
    simp only [go_sem, zA, zB, zC, zD, zE, zF, zG, reduceCtorEq, zH, zI, zJ, zK, zL, lB]
    all_goals (first | exact nn | refine fin0 ?_)
    all_goals (simp only [hp, putEnd, Bool.not_true, cond_false, mapDat, Dt, encDat_eq, zeroDat]; rfl)
def cmpI (a b : Int) : Int := bif decide (a < b) then -1 else bif decide (b < a) then 1 else 0
theorem isNaN_c (a : Int) : PC zP 159 [I .i64 a] (Bo false) := by
 refine PCB.ob Tryz.func159 Tryz.ntmps159 Tryz.results159 ?_
 repeat' (first | (simp only [go_sem, zA, zB, zC, zD, zE, zF, zG, reduceCtorEq, zH, zI, zJ, zK, zL, decide_true] <;> refine nf ?_) | (refine stp ?_; intro K hK) | (apply hK; clear hK K) | refine stn ?_ | fail)
 all_goals (first | exact nn | refine fin0 ?_)
 all_goals (simp)
theorem isNaN64_c (a : Int) : PC zP 160 [I .i64 a] (Bo false) := by
 refine PCB.ob Tryz.func160 Tryz.ntmps160 Tryz.results160 ?_
 repeat' (first | (simp only [go_sem, zA, zB, zC, zD, zE, zF, zG, reduceCtorEq, zH, zI, zJ, zK, zL, decide_true] <;> refine nf ?_) | (refine stp ?_; intro K hK) | (apply hK; clear hK K) | refine stn ?_ | fail)
 all_goals (first | exact nn | refine fin0 ?_)
 all_goals (simp)
theorem cmpInt_c (a b : Int) : PC zP 132 [I .i64 a, I .i64 b] (I .i64 (cmpI a b)) := by
 refine PCB.ob Tryz.func132 Tryz.ntmps132 Tryz.results132 ?_
 cases h1 : decide (a < b) <;> cases h2 : decide (b < a)
 repeat' (first | (simp only [go_sem, zA, zB, zC, zD, zE, zF, zG, reduceCtorEq, zH, zI, zJ, zK, zL, h1, h2, gt_iff_lt] <;> refine nf ?_) | (refine stp ?_; intro K hK) | (apply hK; clear hK K) | refine stn ?_ | (with_reducible refine ⟨_, isNaN_c _, ?_⟩) | refine stq ?_ | (clear hK K))
 all_goals (refine fin0 ?_; simp only [cmpI, h1, h2, cond_true, cond_false])
theorem cmpInt64_c (a b : Int) : PC zP 133 [I .i64 a, I .i64 b] (I .i64 (cmpI a b)) := by
 refine PCB.ob Tryz.func133 Tryz.ntmps133 Tryz.results133 ?_
 cases h1 : decide (a < b) <;> cases h2 : decide (b < a)
 repeat' (first | (simp only [go_sem, zA, zB, zC, zD, zE, zF, zG, reduceCtorEq, zH, zI, zJ, zK, zL, h1, h2, gt_iff_lt] <;> refine nf ?_) | (refine stp ?_; intro K hK) | (apply hK; clear hK K) | refine stn ?_ | (with_reducible refine ⟨_, isNaN64_c _, ?_⟩) | refine stq ?_ | (clear hK K))
 all_goals (refine fin0 ?_; simp only [cmpI, h1, h2, cond_true, cond_false])
def firstC {α : Type} (f : α → α → Int) : List α → List α → Int
 | x :: a, y :: b => bif decide (f x y = 0) then firstC f a b else f x y
 | _, _ => 0
theorem firstC_nil {α : Type} (f : α → α → Int) (l : List α) : firstC f [] l = 0 := by cases l <;> rfl
def listCmp {α : Type} (f : α → α → Int) (a b : List α) : Int := bif decide (cmpI a.length b.length = 0) then firstC f a b else cmpI a.length b.length
theorem cmpI_zero {a b : Int} : cmpI a b = 0 ↔ a = b := by
 unfold cmpI
 cases h1 : decide (a < b) <;> cases h2 : decide (b < a) <;> simp only [decide_eq_true_eq, decide_eq_false_iff_not] at h1 h2 <;> simp <;> omega
theorem cmpKeys_c (g : FuncId) (f : KeyD → KeyD → Int) (a b : List KeyD) (hg : ∀ x ∈ a, ∀ y ∈ b, PC zP g [T.st (encKey x), T.st (encKey y)] (I .i64 (f x y))) :
    PC zP 135 [.one (.dat (.sl 2 (a.map encKey))), .one (.dat (.sl 2 (b.map encKey))), .one (.dat (.fn g))] (I .i64 (listCmp f a b)) := by
  refine PCB.ob Tryz.func135 Tryz.ntmps135 Tryz.results135 ?_
  refine xF 0 rfl fun hlen => ?_
  rw [lB] at hlen
  cases h0 : decide (cmpI a.length b.length = 0) with
  | false =>
    repeat' (first | (simp only [go_sem, zA, zB, zC, zD, zE, zF, zG, reduceCtorEq, zH, zI, zJ, zK, zL, lB, h0] <;> refine nf ?_) | (refine stp ?_; intro K hK) | (apply hK; clear hK K) | refine stn ?_ | (with_reducible refine ⟨_, cmpInt_c _ _, ?_⟩) | refine stq ?_ | (clear hK K))
    all_goals (refine fin0 ?_; simp only [listCmp, h0, cond_false])
  | true =>
    have hl : a.length = b.length := by
      have := cmpI_zero.1 (of_decide_eq_true h0)
      omega
    repeat' (first | (simp only [go_sem, zA, zB, zC, zD, zE, zF, zG, reduceCtorEq, zH, zI, zJ, zK, zL, lB, h0] <;> refine nf ?_) | (refine stp ?_; intro K hK) | (apply hK; clear hK K) | refine stn ?_ | (with_reducible refine ⟨_, cmpInt_c _ _, ?_⟩) | refine stq ?_ | fail)
    refine AWP.loopS (X := Nat × Unit) (fun x => [(20, I .i64 x.1), (19, I .i64 a.length), (0, .one (.dat (.sl 2 (a.map encKey)))), (1, .one (.dat (.sl 2 (b.map encKey)))), (2, .one (.dat (.fn g)))]) (fun _ => [])
      (fun x => x.1 ≤ a.length ∧ firstC f a b = firstC f (a.drop x.1) (b.drop x.1)) (fun x => a.length - x.1) (0, ()) (Gh.tt []) ⟨Nat.zero_le _, rfl⟩ ?_
    rintro ⟨k, u⟩ ⟨hk, hp⟩
    simp only at hk hp
    by_cases hlt : k < a.length
    · obtain ⟨x, hx, hx', hb, hdx⟩ := at_lt (enc := encKey) hlt
      obtain ⟨y, hy, hy', _, hdy⟩ := at_lt (enc := encKey) (show k < b.length by omega)
      rw [hdx, hdy, firstC] at hp
      have hgx := hg x (lP hx) y (lP hy)
      cases hz : decide (f x y = 0)
      ·
        repeat' (first | (simp only [go_sem, zA, zB, zC, zD, zE, zF, zG, reduceCtorEq, zH, zI, zJ, zK, zL, lB, hb, hz] <;> refine nf ?_) | (refine stp ?_; intro K hK) | (apply hK; clear hK K) | refine stn ?_ | (with_reducible first | refine ⟨_, hgx, ?_⟩ | refine ⟨by omega, encKey x, hx', ?_⟩ | refine ⟨by omega, encKey y, hy', ?_⟩) | (refine stp' ?_; intro K hK) | (clear hK K))
        all_goals (refine fin0 ?_; simp only [listCmp, h0, hp, hz, cond_true, cond_false])
      ·
        repeat' (first | (simp only [go_sem, zA, zB, zC, zD, zE, zF, zG, reduceCtorEq, zH, zI, zJ, zK, zL, lB, hb, hz] <;> refine nf ?_) | (refine stp ?_; intro K hK) | (apply hK; clear hK K) | refine stn ?_ | (with_reducible first | refine ⟨_, hgx, ?_⟩ | refine ⟨by omega, encKey x, hx', ?_⟩ | refine ⟨by omega, encKey y, hy', ?_⟩) | (refine stp' ?_; intro K hK) | (clear hK K))
        all_goals (rw [hz, cond_true] at hp)
        all_goals (rw [wrap_succ hlt hlen])
        all_goals (refine ⟨(k + 1, ()), by simp only; omega, ⟨by simp only; omega, hp⟩, Gh.tt []⟩)
    · have hb : decide ((k : Int) < (a.length : Int)) = false := by simpa using hlt
      rw [List.drop_eq_nil_of_le (show a.length ≤ k by omega), firstC_nil] at hp
      repeat' (first | (simp only [go_sem, zA, zB, zC, zD, zE, zF, zG, reduceCtorEq, zH, zI, zJ, zK, zL, lB, hb] <;> refine nf ?_) | (refine stp ?_; intro K hK) | (apply hK; clear hK K) | refine stn ?_ | (clear hK K))
      all_goals (refine fin0 ?_; simp only [listCmp, h0, hp, cond_true])
theorem cmpVals_c (g : FuncId) (f : Val → Val → Int) (a b : List Val) (hg : ∀ x ∈ a, ∀ y ∈ b, PC zP g [T.st (encVal x), T.st (encVal y)] (I .i64 (f x y))) :
    PC zP 162 [.one (.dat (.sl 7 (a.map encVal))), .one (.dat (.sl 7 (b.map encVal))), .one (.dat (.fn g))] (I .i64 (listCmp f a b)) := by
  refine PCB.ob Tryz.func162 Tryz.ntmps162 Tryz.results162 ?_
  refine xF 0 rfl fun hlen => ?_
  rw [lB] at hlen
  cases h0 : decide (cmpI a.length b.length = 0) with
  | false =>
    repeat' (first | (simp only [go_sem, zA, zB, zC, zD, zE, zF, zG, reduceCtorEq, zH, zI, zJ, zK, zL, lB, h0] <;> refine nf ?_) | (refine stp ?_; intro K hK) | (apply hK; clear hK K) | refine stn ?_ | (with_reducible refine ⟨_, cmpInt_c _ _, ?_⟩) | refine stq ?_ | (clear hK K))
    all_goals (refine fin0 ?_; simp only [listCmp, h0, cond_false])
  | true =>
    have hl : a.length = b.length := by
      have := cmpI_zero.1 (of_decide_eq_true h0)
      omega
    repeat' (first | (simp only [go_sem, zA, zB, zC, zD, zE, zF, zG, reduceCtorEq, zH, zI, zJ, zK, zL, lB, h0] <;> refine nf ?_) | (refine stp ?_; intro K hK) | (apply hK; clear hK K) | refine stn ?_ | (with_reducible refine ⟨_, cmpInt_c _ _, ?_⟩) | refine stq ?_ | fail)
    refine AWP.loopS (X := Nat × Unit) (fun x => [(20, I .i64 x.1), (19, I .i64 a.length), (0, .one (.dat (.sl 7 (a.map encVal)))), (1, .one (.dat (.sl 7 (b.map encVal)))), (2, .one (.dat (.fn g)))]) (fun _ => [])
      (fun x => x.1 ≤ a.length ∧ firstC f a b = firstC f (a.drop x.1) (b.drop x.1)) (fun x => a.length - x.1) (0, ()) (Gh.tt []) ⟨Nat.zero_le _, rfl⟩ ?_
    rintro ⟨k, u⟩ ⟨hk, hp⟩
    simp only at hk hp
    by_cases hlt : k < a.length
    · obtain ⟨x, hx, hx', hb, hdx⟩ := at_lt (enc := encVal) hlt
      obtain ⟨y, hy, hy', _, hdy⟩ := at_lt (enc := encVal) (show k < b.length by omega)
      rw [hdx, hdy, firstC] at hp
      have hgx := hg x (lP hx) y (lP hy)
      cases hz : decide (f x y = 0)
      ·
        repeat' (first | (simp only [go_sem, zA, zB, zC, zD, zE, zF, zG, reduceCtorEq, zH, zI, zJ, zK, zL, lB, hb, hz] <;> refine nf ?_) | (refine stp ?_; intro K hK) | (apply hK; clear hK K) | refine stn ?_ | (with_reducible first | refine ⟨_, hgx, ?_⟩ | refine ⟨by omega, encVal x, hx', ?_⟩ | refine ⟨by omega, encVal y, hy', ?_⟩) | (refine stp' ?_; intro K hK) | (clear hK K))
        all_goals (refine fin0 ?_; simp only [listCmp, h0, hp, hz, cond_true, cond_false])
      ·
        repeat' (first | (simp only [go_sem, zA, zB, zC, zD, zE, zF, zG, reduceCtorEq, zH, zI, zJ, zK, zL, lB, hb, hz] <;> refine nf ?_) | (refine stp ?_; intro K hK) | (apply hK; clear hK K) | refine stn ?_ | (with_reducible first | refine ⟨_, hgx, ?_⟩ | refine ⟨by omega, encVal x, hx', ?_⟩ | refine ⟨by omega, encVal y, hy', ?_⟩) | (refine stp' ?_; intro K hK) | (clear hK K))
        all_goals (rw [hz, cond_true] at hp)
        all_goals (rw [wrap_succ hlt hlen])
        all_goals (refine ⟨(k + 1, ()), by simp only; omega, ⟨by simp only; omega, hp⟩, Gh.tt []⟩)
    · have hb : decide ((k : Int) < (a.length : Int)) = false := by simpa using hlt
      rw [List.drop_eq_nil_of_le (show a.length ≤ k by omega), firstC_nil] at hp
      repeat' (first | (simp only [go_sem, zA, zB, zC, zD, zE, zF, zG, reduceCtorEq, zH, zI, zJ, zK, zL, lB, hb] <;> refine nf ?_) | (refine stp ?_; intro K hK) | (apply hK; clear hK K) | refine stn ?_ | (clear hK K))
      all_goals (refine fin0 ?_; simp only [listCmp, h0, hp, cond_true])
theorem cmpEnts_c (g : FuncId) (f : (List Val × Bool × Val) → (List Val × Bool × Val) → Int) (a b : List (List Val × Bool × Val)) (hg : ∀ x ∈ a, ∀ y ∈ b, PC zP g [T.st (encEnt x), T.st (encEnt y)] (I .i64 (f x y))) :
    PC zP 138 [.one (.dat (.sl 9 (a.map encEnt))), .one (.dat (.sl 9 (b.map encEnt))), .one (.dat (.fn g))] (I .i64 (listCmp f a b)) := by
  refine PCB.ob Tryz.func138 Tryz.ntmps138 Tryz.results138 ?_
  refine xF 0 rfl fun hlen => ?_
  rw [lB] at hlen
  cases h0 : decide (cmpI a.length b.length = 0) with
  | false =>
    repeat' (first | (simp only [go_sem, zA, zB, zC, zD, zE, zF, zG, reduceCtorEq, zH, zI, zJ, zK, zL, lB, h0] <;> refine nf ?_) | (refine stp ?_; intro K hK) | (apply hK; clear hK K) | refine stn ?_ | (with_reducible refine ⟨_, cmpInt_c _ _, ?_⟩) | refine stq ?_ | (clear hK K))
    all_goals (refine fin0 ?_; simp only [listCmp, h0, cond_false])
  | true =>
    have hl : a.length = b.length := by
      have := cmpI_zero.1 (of_decide_eq_true h0)
      omega
    repeat' (first | (simp only [go_sem, zA, zB, zC, zD, zE, zF, zG, reduceCtorEq, zH, zI, zJ, zK, zL, lB, h0] <;> refine nf ?_) | (refine stp ?_; intro K hK) | (apply hK; clear hK K) | refine stn ?_ | (with_reducible refine ⟨_, cmpInt_c _ _, ?_⟩) | refine stq ?_ | fail)
    refine AWP.loopS (X := Nat × Unit) (fun x => [(20, I .i64 x.1), (19, I .i64 a.length), (0, .one (.dat (.sl 9 (a.map encEnt)))), (1, .one (.dat (.sl 9 (b.map encEnt)))), (2, .one (.dat (.fn g)))]) (fun _ => [])
      (fun x => x.1 ≤ a.length ∧ firstC f a b = firstC f (a.drop x.1) (b.drop x.1)) (fun x => a.length - x.1) (0, ()) (Gh.tt []) ⟨Nat.zero_le _, rfl⟩ ?_
    rintro ⟨k, u⟩ ⟨hk, hp⟩
    simp only at hk hp
    by_cases hlt : k < a.length
    · obtain ⟨x, hx, hx', hb, hdx⟩ := at_lt (enc := encEnt) hlt
      obtain ⟨y, hy, hy', _, hdy⟩ := at_lt (enc := encEnt) (show k < b.length by omega)
      rw [hdx, hdy, firstC] at hp
      have hgx := hg x (lP hx) y (lP hy)
      cases hz : decide (f x y = 0)
      ·
        repeat' (first | (simp only [go_sem, zA, zB, zC, zD, zE, zF, zG, reduceCtorEq, zH, zI, zJ, zK, zL, lB, hb, hz] <;> refine nf ?_) | (refine stp ?_; intro K hK) | (apply hK; clear hK K) | refine stn ?_ | (with_reducible first | refine ⟨_, hgx, ?_⟩ | refine ⟨by omega, encEnt x, hx', ?_⟩ | refine ⟨by omega, encEnt y, hy', ?_⟩) | (refine stp' ?_; intro K hK) | (clear hK K))
        all_goals (refine fin0 ?_; simp only [listCmp, h0, hp, hz, cond_true, cond_false])
      ·
        repeat' (first | (simp only [go_sem, zA, zB, zC, zD, zE, zF, zG, reduceCtorEq, zH, zI, zJ, zK, zL, lB, hb, hz] <;> refine nf ?_) | (refine stp ?_; intro K hK) | (apply hK; clear hK K) | refine stn ?_ | (with_reducible first | refine ⟨_, hgx, ?_⟩ | refine ⟨by omega, encEnt x, hx', ?_⟩ | refine ⟨by omega, encEnt y, hy', ?_⟩) | (refine stp' ?_; intro K hK) | (clear hK K))
        all_goals (rw [hz, cond_true] at hp)
        all_goals (rw [wrap_succ hlt hlen])
        all_goals (refine ⟨(k + 1, ()), by simp only; omega, ⟨by simp only; omega, hp⟩, Gh.tt []⟩)
    · have hb : decide ((k : Int) < (a.length : Int)) = false := by simpa using hlt
      rw [List.drop_eq_nil_of_le (show a.length ≤ k by omega), firstC_nil] at hp
      repeat' (first | (simp only [go_sem, zA, zB, zC, zD, zE, zF, zG, reduceCtorEq, zH, zI, zJ, zK, zL, lB, hb] <;> refine nf ?_) | (refine stp ?_; intro K hK) | (apply hK; clear hK K) | refine stn ?_ | (clear hK K))
      all_goals (refine fin0 ?_; simp only [listCmp, h0, hp, cond_true])
theorem cmpStrs_c (g : FuncId) (f : (List UInt8) → (List UInt8) → Int) (a b : List (List UInt8)) (hg : ∀ x ∈ a, ∀ y ∈ b, PC zP g [S x, S y] (I .i64 (f x y))) :
    PC zP 140 [.one (.dat (.sl 1 (a.map encStr))), .one (.dat (.sl 1 (b.map encStr))), .one (.dat (.fn g))] (I .i64 (listCmp f a b)) := by
  refine PCB.ob Tryz.func140 Tryz.ntmps140 Tryz.results140 ?_
  refine xF 0 rfl fun hlen => ?_
  rw [lB] at hlen
  cases h0 : decide (cmpI a.length b.length = 0) with
  | false =>
    repeat' (first | (simp only [go_sem, zA, zB, zC, zD, zE, zF, zG, reduceCtorEq, zH, zI, zJ, zK, zL, lB, h0] <;> refine nf ?_) | (refine stp ?_; intro K hK) | (apply hK; clear hK K) | refine stn ?_ | (with_reducible refine ⟨_, cmpInt_c _ _, ?_⟩) | refine stq ?_ | (clear hK K))
    all_goals (refine fin0 ?_; simp only [listCmp, h0, cond_false])
  | true =>
    have hl : a.length = b.length := by
      have := cmpI_zero.1 (of_decide_eq_true h0)
      omega
    repeat' (first | (simp only [go_sem, zA, zB, zC, zD, zE, zF, zG, reduceCtorEq, zH, zI, zJ, zK, zL, lB, h0] <;> refine nf ?_) | (refine stp ?_; intro K hK) | (apply hK; clear hK K) | refine stn ?_ | (with_reducible refine ⟨_, cmpInt_c _ _, ?_⟩) | refine stq ?_ | fail)
    refine AWP.loopS (X := Nat × Unit) (fun x => [(20, I .i64 x.1), (19, I .i64 a.length), (0, .one (.dat (.sl 1 (a.map encStr)))), (1, .one (.dat (.sl 1 (b.map encStr)))), (2, .one (.dat (.fn g)))]) (fun _ => [])
      (fun x => x.1 ≤ a.length ∧ firstC f a b = firstC f (a.drop x.1) (b.drop x.1)) (fun x => a.length - x.1) (0, ()) (Gh.tt []) ⟨Nat.zero_le _, rfl⟩ ?_
    rintro ⟨k, u⟩ ⟨hk, hp⟩
    simp only at hk hp
    by_cases hlt : k < a.length
    · obtain ⟨x, hx, hx', hb, hdx⟩ := at_lt (enc := encStr) hlt
      obtain ⟨y, hy, hy', _, hdy⟩ := at_lt (enc := encStr) (show k < b.length by omega)
      rw [hdx, hdy, firstC] at hp
      have hgx := hg x (lP hx) y (lP hy)
      cases hz : decide (f x y = 0)
      ·
        repeat' (first | (simp only [go_sem, zA, zB, zC, zD, zE, zF, zG, reduceCtorEq, zH, zI, zJ, zK, zL, lB, hb, hz, encStr] <;> refine nf ?_) | (refine stp ?_; intro K hK) | (apply hK; clear hK K) | refine stn ?_ | (with_reducible first | refine ⟨_, hgx, ?_⟩ | refine ⟨by omega, encStr x, hx', ?_⟩ | refine ⟨by omega, encStr y, hy', ?_⟩) | (refine stp' ?_; intro K hK) | (clear hK K))
        all_goals (refine fin0 ?_; simp only [listCmp, h0, hp, hz, cond_true, cond_false])
      ·
        repeat' (first | (simp only [go_sem, zA, zB, zC, zD, zE, zF, zG, reduceCtorEq, zH, zI, zJ, zK, zL, lB, hb, hz, encStr] <;> refine nf ?_) | (refine stp ?_; intro K hK) | (apply hK; clear hK K) | refine stn ?_ | (with_reducible first | refine ⟨_, hgx, ?_⟩ | refine ⟨by omega, encStr x, hx', ?_⟩ | refine ⟨by omega, encStr y, hy', ?_⟩) | (refine stp' ?_; intro K hK) | (clear hK K))
        all_goals (rw [hz, cond_true] at hp)
        all_goals (rw [wrap_succ hlt hlen])
        all_goals (refine ⟨(k + 1, ()), by simp only; omega, ⟨by simp only; omega, hp⟩, Gh.tt []⟩)
    · have hb : decide ((k : Int) < (a.length : Int)) = false := by simpa using hlt
      rw [List.drop_eq_nil_of_le (show a.length ≤ k by omega), firstC_nil] at hp
      repeat' (first | (simp only [go_sem, zA, zB, zC, zD, zE, zF, zG, reduceCtorEq, zH, zI, zJ, zK, zL, lB, hb] <;> refine nf ?_) | (refine stp ?_; intro K hK) | (apply hK; clear hK K) | refine stn ?_ | (clear hK K))
      all_goals (refine fin0 ?_; simp only [listCmp, h0, hp, cond_true])
theorem cmpString_calls (a b : ByteArray) (w : World) :
    Calls zP 161 #[.string a, .string b] w fun e w' => e = .returned (.int .i64 (Lib.compareBytes a.data.toList b.data.toList)) ∧ w' = w := by
  go_enter Tryz.func161, Tryz.ntmps161
  go_wp2
  rw [run_callFunc_extern Tryz.func179 (by kernel_rfl) (by kernel_rfl) (by kernel_rfl) (e := Extern.BytealgCompare.compare) (by kernel_rfl), Lib.run_compareString]
  simp only [Result.andThen]
  rw [Oper.upon_value]
  go_wp2
  go_ret
  exact ⟨rfl, rfl⟩
end Go.Proofs.YtajfdbdklphonaaGreat