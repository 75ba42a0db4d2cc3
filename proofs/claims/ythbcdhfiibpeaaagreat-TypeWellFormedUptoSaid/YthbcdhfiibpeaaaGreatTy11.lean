/- Lemmas of the proof. -/
import Derived.Test.YthbcdhfiibpeaaaGreatTy9
open Go.Proofs.Tryz renaming prog → zP
open Nat renaming reduceBEq → zA, reduceBNe → zB, reduceAdd → zC, reduceSub → zD, reduceMul → zE, reduceLeDiff → zF, reduceLT → zG, reduceEqDiff → zH
open Int renaming reduceToNat → zI, reduceLE → zJ, reduceLT → zK, reduceEq → zL
open Bool renaming not_eq_true' → zM, not_eq_false' → zN
set_option linter.unusedSimpArgs false
set_option linter.unusedVariables false
set_option maxRecDepth 20000
set_option maxHeartbeats 64000000
namespace Go.Proofs.YthbcdhfiibpeaaaGreat
open Go Go.Sx
def uppB (b : UInt8) : Bool := decide ((65 : Int) ≤ (b.toNat : Int)) && decide ((b.toNat : Int) ≤ 90)
theorem refUpper_c (b : UInt8) : PC zP 69 [I .u8 b.toNat] (Bo (uppB b)) := by
  refine PCB.ob Tryz.func69 Tryz.ntmps69 Tryz.results69 ?_
  repeat' (first | (simp only [go_sem, zA, zB, zC, zD, zE, zF, zG, reduceCtorEq, zH, zI, zJ, zK, zL]; all_goals refine nf ?_) | (refine stp ?_; intro K hK) | (apply hK; clear hK K) | refine stn ?_ | (refine ⟨fun h => ?_, fun h => ?_⟩ <;> (try simp only [zM, zN] at h) <;> try simp only [h]) | fail)
  all_goals (refine fin0 ?_; simp only [uppB, h, Bool.true_and, Bool.false_and])
theorem isUpper_c (b : UInt8) : PC zP 109 [I .u8 b.toNat] (Bo (uppB b)) := by
  refine PCB.ob Tryz.func109 Tryz.ntmps109 Tryz.results109 ?_
  repeat' (first | (simp only [go_sem, zA, zB, zC, zD, zE, zF, zG, reduceCtorEq, zH, zI, zJ, zK, zL]; all_goals refine nf ?_) | (refine stp ?_; intro K hK) | (apply hK; clear hK K) | refine stn ?_ | (refine ⟨fun h => ?_, fun h => ?_⟩ <;> (try simp only [zM, zN] at h) <;> try simp only [h]) | fail)
  all_goals (refine fin0 ?_; simp only [uppB, h, Bool.true_and, Bool.false_and])
theorem isLower_c (b : UInt8) : PC zP 111 [I .u8 b.toNat] (Bo (lowB b)) := by
  refine PCB.ob Tryz.func111 Tryz.ntmps111 Tryz.results111 ?_
  repeat' (first | (simp only [go_sem, zA, zB, zC, zD, zE, zF, zG, reduceCtorEq, zH, zI, zJ, zK, zL]; all_goals refine nf ?_) | (refine stp ?_; intro K hK) | (apply hK; clear hK K) | refine stn ?_ | (refine ⟨fun h => ?_, fun h => ?_⟩ <;> (try simp only [zM, zN] at h) <;> try simp only [h]) | fail)
  all_goals (refine fin0 ?_; simp only [lowB, h, Bool.true_and, Bool.false_and])
theorem isDigit_c (b : UInt8) : PC zP 112 [I .u8 b.toNat] (Bo (digB b)) := by
  refine PCB.ob Tryz.func112 Tryz.ntmps112 Tryz.results112 ?_
  repeat' (first | (simp only [go_sem, zA, zB, zC, zD, zE, zF, zG, reduceCtorEq, zH, zI, zJ, zK, zL]; all_goals refine nf ?_) | (refine stp ?_; intro K hK) | (apply hK; clear hK K) | refine stn ?_ | (refine ⟨fun h => ?_, fun h => ?_⟩ <;> (try simp only [zM, zN] at h) <;> try simp only [h]) | fail)
  all_goals (refine fin0 ?_; simp only [digB, h, Bool.true_and, Bool.false_and])
theorem atomTail_c (b : UInt8) : PC zP 137 [I .u8 b.toNat] (Bo (tailB b)) := by
  refine PCB.ob Tryz.func137 Tryz.ntmps137 Tryz.results137 ?_
  repeat' (first | (simp only [go_sem, zA, zB, zC, zD, zE, zF, zG, reduceCtorEq, zH, zI, zJ, zK, zL]; all_goals refine nf ?_) | (refine stp ?_; intro K hK) | (apply hK; clear hK K) | refine stn ?_ | (refine ⟨fun h => ?_, fun h => ?_⟩ <;> (try simp only [zM, zN] at h) <;> try simp only [h]) | (with_reducible first | refine ⟨_, isLower_c _, ?_⟩ | refine ⟨_, isDigit_c _, ?_⟩) | refine stq ?_ | fail)
  all_goals (refine fin0 ?_; simp only [tailB, *, Bool.true_or, Bool.false_or])
def vtailB (b : UInt8) : Bool := lowB b || (uppB b || (digB b || decide ((b.toNat : Int) = 95)))
theorem varTail_c (b : UInt8) : PC zP 110 [I .u8 b.toNat] (Bo (vtailB b)) := by
  refine PCB.ob Tryz.func110 Tryz.ntmps110 Tryz.results110 ?_
  repeat' (first | (simp only [go_sem, zA, zB, zC, zD, zE, zF, zG, reduceCtorEq, zH, zI, zJ, zK, zL]; all_goals refine nf ?_) | (refine stp ?_; intro K hK) | (apply hK; clear hK K) | refine stn ?_ | (refine ⟨fun h => ?_, fun h => ?_⟩ <;> (try simp only [zM, zN] at h) <;> try simp only [h]) | (with_reducible first | refine ⟨_, isLower_c _, ?_⟩ | refine ⟨_, isDigit_c _, ?_⟩ | refine ⟨_, isUpper_c _, ?_⟩) | refine stq ?_ | fail)
  all_goals (refine fin0 ?_; simp only [vtailB, *, Bool.true_or, Bool.false_or])
def nameB (p q : UInt8 → Bool) (s : List UInt8) : Bool := !(decide ((s.length : Int) < 1) || (decide ((16 : Int) < (s.length : Int)) || !p (s.headD 0))) && (s.drop 1).all q
theorem isName_c (s : List UInt8) (g h : FuncId) (p q : UInt8 → Bool) (hg : ∀ b : UInt8, PC zP g [I .u8 b.toNat] (Bo (p b))) (hh : ∀ b : UInt8, PC zP h [I .u8 b.toNat] (Bo (q b))) :
  PC zP 108 [S s, .one (.dat (.fn g)), .one (.dat (.fn h))] (Bo (nameB p q s)) := by
 refine PCB.ob Tryz.func108 Tryz.ntmps108 Tryz.results108 ?_
 cases hl1 : decide ((s.length : Int) < 1) with
 | true =>
  repeat' (first | (simp only [go_sem, zA, zB, zC, zD, zE, zF, zG, reduceCtorEq, zH, zI, zJ, zK, zL, hl1]; all_goals refine nf ?_) | (refine stp ?_; intro K hK) | (apply hK; clear hK K) | refine stn ?_ | (clear hK K))
  all_goals (first | exact fun _ h => absurd h List.not_mem_nil | refine fin0 ?_)
  all_goals simp only [nameB, hl1, Bool.true_or, Bool.not_true, Bool.false_and]
 | false =>
  have hpos : 0 < s.length := by simp only [decide_eq_false_iff_not] at hl1; omega
  obtain ⟨b, hb0⟩ : ∃ b, s[0]? = some b := ⟨s[0], by simp [hpos]⟩
  have hhd : s.headD 0 = b := by cases s <;> simp at hb0 hpos ⊢; exact hb0
  cases hlong : decide ((16 : Int) < (s.length : Int)) with
  | true =>
   repeat' (first | (simp only [go_sem, zA, zB, zC, zD, zE, zF, zG, reduceCtorEq, zH, zI, zJ, zK, zL, hl1, hlong]; all_goals refine nf ?_) | (refine stp ?_; intro K hK) | (apply hK; clear hK K) | refine stn ?_ | (clear hK K))
   all_goals (first | exact fun _ h => absurd h List.not_mem_nil | refine fin0 ?_)
   all_goals simp only [nameB, hlong, Bool.true_or, Bool.or_true, Bool.not_true, Bool.false_and]
  | false =>
   have hlen : s.length ≤ 9223372036854775807 := by simp only [decide_eq_false_iff_not] at hlong; omega
   cases hlow : p b with
   | false =>
    repeat' (first | (simp only [go_sem, zA, zB, zC, zD, zE, zF, zG, reduceCtorEq, zH, zI, zJ, zK, zL, hl1, hlong, hlow]; all_goals refine nf ?_) | (refine stp ?_; intro K hK) | (apply hK; clear hK K) | refine stn ?_ | (with_reducible first | refine ⟨_, hg b, ?_⟩ | refine ⟨b, hb0, ?_⟩) | refine stq ?_ | (clear hK K))
    all_goals (first | exact fun _ h => absurd h List.not_mem_nil | refine fin0 ?_)
    all_goals simp only [nameB, hl1, hlong, hhd, hlow, Bool.false_or, Bool.not_false, Bool.not_true, Bool.false_and]
   | true =>
    have hmod : nameB p q s = (s.drop 1).all q := by simp only [nameB, hl1, hlong, hhd, hlow, Bool.not_true, Bool.false_or, Bool.not_false, Bool.true_and]
    repeat' (first | (simp only [go_sem, zA, zB, zC, zD, zE, zF, zG, reduceCtorEq, zH, zI, zJ, zK, zL, hl1, hlong, hlow]; all_goals refine nf ?_) | (refine stp ?_; intro K hK) | (apply hK; clear hK K) | refine stn ?_ | (with_reducible first | refine ⟨_, hg b, ?_⟩ | refine ⟨b, hb0, ?_⟩) | refine stq ?_ | fail)
    refine AWP.loopF (X := Nat) (fun k => [(7, I .i64 k)]) (fun k => []) [0, 2] [] (fun k => 1 ≤ k ∧ k ≤ s.length ∧ (s.drop 1).all q = (s.drop k).all q) (fun k => s.length - k) (1) (by refine sts ?_; exact Gh.tt []) ?_ ?_
    ·exact ⟨Nat.le_refl _, by omega, rfl⟩
    rintro k ⟨hk1, hk, hp⟩
    refine sts ?_
    by_cases hlt : k < s.length
    ·have hdrop := List.drop_eq_getElem_cons hlt
     have hd : s[k]? = some s[k] := List.getElem?_eq_getElem hlt
     have hbt : decide ((k : Int) < (s.length : Int)) = true := by simpa using hlt
     generalize s[k] = d at hd hdrop
     rw [hdrop, List.all_cons] at hp
     cases hq : q d
     all_goals simp only [hq, Bool.true_and, Bool.false_and] at hp
     repeat' (first | (simp only [go_sem, zA, zB, zC, zD, zE, zF, zG, reduceCtorEq, zH, zI, zJ, zK, zL, hbt, hq]; all_goals refine nf ?_) | (refine stp ?_; intro K hK) | (apply hK; clear hK K) | refine stn ?_ | (with_reducible first | refine ⟨_, hh d, ?_⟩ | refine ⟨by omega, d, hd, ?_⟩) | refine stq ?_ | (clear hK K))
     all_goals first
      | (refine fin0 ?_; rw [hmod, hp])
      | (rw [wrap_succ hlt hlen]; refine ⟨k + 1, by omega, ⟨by omega, by omega, hp⟩, Gh.tt []⟩)
    ·have hbt : decide ((k : Int) < (s.length : Int)) = false := by simpa using hlt
     rw [show s.drop k = [] from List.drop_eq_nil_of_le (by omega)] at hp
     repeat' (first | (simp only [go_sem, zA, zB, zC, zD, zE, zF, zG, reduceCtorEq, zH, zI, zJ, zK, zL, hbt]; all_goals refine nf ?_) | (refine stp ?_; intro K hK) | (apply hK; clear hK K) | refine stn ?_ | (clear hK K))
     all_goals (refine fin0 ?_; rw [hmod, hp]; rfl)
theorem identIsAtom_c (s : List UInt8) : PC zP 97 [S s] (Bo (isAtomB s)) := by
  have h := isName_c s 111 137 lowB tailB isLower_c atomTail_c
  refine PCB.ob Tryz.func97 Tryz.ntmps97 Tryz.results97 ?_
  repeat' (first | (simp only [go_sem, zA, zB, zC, zD, zE, zF, zG, reduceCtorEq, zH, zI, zJ, zK, zL]; all_goals refine nf ?_) | (refine stp ?_; intro K hK) | (apply hK; clear hK K) | refine stn ?_ | (with_reducible refine ⟨_, h, ?_⟩) | refine stq ?_ | fail)
  all_goals (first | exact fun _ h => absurd h List.not_mem_nil | refine fin0 ?_)
  all_goals rfl
def isVarB (s : List UInt8) : Bool := nameB uppB vtailB s
theorem identIsVariable_c (s : List UInt8) : PC zP 65 [S s] (Bo (isVarB s)) := by
  have h := isName_c s 109 110 uppB vtailB isUpper_c varTail_c
  refine PCB.ob Tryz.func65 Tryz.ntmps65 Tryz.results65 ?_
  repeat' (first | (simp only [go_sem, zA, zB, zC, zD, zE, zF, zG, reduceCtorEq, zH, zI, zJ, zK, zL]; all_goals refine nf ?_) | (refine stp ?_; intro K hK) | (apply hK; clear hK K) | refine stn ?_ | (with_reducible refine ⟨_, h, ?_⟩) | refine stq ?_ | fail)
  all_goals (first | exact fun _ h => absurd h List.not_mem_nil | refine fin0 ?_)
  all_goals rfl
theorem identValidKey_c (k : KeyD) : PC zP 138 [.st (encKey k)] (Bo (validKeyB k)) := by
 refine PCB.ob Tryz.func138 Tryz.ntmps138 Tryz.results138 ?_
 cases h0 : decide (k.kind = 0) <;> cases h1 : decide (k.kind = 1)
 ·
  repeat' (first | (simp only [go_sem, zA, zB, zC, zD, zE, zF, zG, reduceCtorEq, zH, zI, zJ, zK, zL, encKey, h0, h1]; all_goals refine nf ?_) | (refine stp ?_; intro K hK) | (apply hK; clear hK K) | refine stn ?_ | fail)
  all_goals (refine fin0 ?_; simp only [validKeyB, h0, h1, Bool.true_and, Bool.false_and, Bool.or_false, Bool.false_or])
 ·
  repeat' (first | (simp only [go_sem, zA, zB, zC, zD, zE, zF, zG, reduceCtorEq, zH, zI, zJ, zK, zL, encKey, h0, h1]; all_goals refine nf ?_) | (refine stp ?_; intro K hK) | (apply hK; clear hK K) | refine stn ?_ | (clear hK K))
  all_goals (refine fin0 ?_; simp only [validKeyB, h0, h1, Bool.true_and, Bool.false_and, Bool.or_false, Bool.false_or])
 ·
  repeat' (first | (simp only [go_sem, zA, zB, zC, zD, zE, zF, zG, reduceCtorEq, zH, zI, zJ, zK, zL, encKey, h0, h1]; all_goals refine nf ?_) | (refine stp ?_; intro K hK) | (apply hK; clear hK K) | refine stn ?_ | (with_reducible refine ⟨_, identIsAtom_c _, ?_⟩) | refine stq ?_ | (clear hK K))
  all_goals (refine fin0 ?_; simp only [validKeyB, h0, h1, Bool.true_and, Bool.false_and, Bool.or_false, Bool.false_or])
 ·exfalso
  simp only [decide_eq_true_eq] at h0 h1
  omega
theorem refIsVariable_c (s : List UInt8) : PC zP 28 [S s] (Bo (isVarB s)) := by
 refine PCB.ob Tryz.func28 Tryz.ntmps28 Tryz.results28 ?_
 cases hl1 : decide ((s.length : Int) < 1) with
 | true =>
  repeat' (first | (simp only [go_sem, zA, zB, zC, zD, zE, zF, zG, reduceCtorEq, zH, zI, zJ, zK, zL, hl1]; all_goals refine nf ?_) | (refine stp ?_; intro K hK) | (apply hK; clear hK K) | refine stn ?_ | (clear hK K))
  all_goals (first | exact fun _ h => absurd h List.not_mem_nil | refine fin0 ?_)
  all_goals simp only [isVarB, nameB, hl1, Bool.true_or, Bool.not_true, Bool.false_and]
 | false =>
  have hpos : 0 < s.length := by simp only [decide_eq_false_iff_not] at hl1; omega
  obtain ⟨b, hb0⟩ : ∃ b, s[0]? = some b := ⟨s[0], by simp [hpos]⟩
  have hhd : s.headD 0 = b := by cases s <;> simp at hb0 hpos ⊢; exact hb0
  cases hlong : decide ((16 : Int) < (s.length : Int)) with
  | true =>
   repeat' (first | (simp only [go_sem, zA, zB, zC, zD, zE, zF, zG, reduceCtorEq, zH, zI, zJ, zK, zL, hl1, hlong]; all_goals refine nf ?_) | (refine stp ?_; intro K hK) | (apply hK; clear hK K) | refine stn ?_ | (clear hK K))
   all_goals (first | exact fun _ h => absurd h List.not_mem_nil | refine fin0 ?_)
   all_goals simp only [isVarB, nameB, hlong, Bool.true_or, Bool.or_true, Bool.not_true, Bool.false_and]
  | false =>
   have hlen : s.length ≤ 9223372036854775807 := by simp only [decide_eq_false_iff_not] at hlong; omega
   cases hlow : uppB b with
   | false =>
    repeat' (first | (simp only [go_sem, zA, zB, zC, zD, zE, zF, zG, reduceCtorEq, zH, zI, zJ, zK, zL, hl1, hlong, hlow]; all_goals refine nf ?_) | (refine stp ?_; intro K hK) | (apply hK; clear hK K) | refine stn ?_ | (with_reducible first | refine ⟨_, refUpper_c b, ?_⟩ | refine ⟨b, hb0, ?_⟩) | refine stq ?_ | (clear hK K))
    all_goals (first | exact fun _ h => absurd h List.not_mem_nil | refine fin0 ?_)
    all_goals simp only [isVarB, nameB, hl1, hlong, hhd, hlow, Bool.false_or, Bool.not_false, Bool.not_true, Bool.false_and]
   | true =>
    have hmod : isVarB s = (s.drop 1).all vtailB := by simp only [isVarB, nameB, hl1, hlong, hhd, hlow, Bool.not_true, Bool.false_or, Bool.not_false, Bool.true_and]
    repeat' (first | (simp only [go_sem, zA, zB, zC, zD, zE, zF, zG, reduceCtorEq, zH, zI, zJ, zK, zL, hl1, hlong, hlow]; all_goals refine nf ?_) | (refine stp ?_; intro K hK) | (apply hK; clear hK K) | refine stn ?_ | (with_reducible first | refine ⟨_, refUpper_c b, ?_⟩ | refine ⟨b, hb0, ?_⟩) | refine stq ?_ | fail)
    refine AWP.loopF (X := Nat) (fun k => [(3, I .i64 k)]) (fun k => []) [0] [] (fun k => 1 ≤ k ∧ k ≤ s.length ∧ (s.drop 1).all vtailB = (s.drop k).all vtailB) (fun k => s.length - k) (1) (by refine sts ?_; exact Gh.tt []) ?_ ?_
    ·exact ⟨Nat.le_refl _, by omega, rfl⟩
    rintro k ⟨hk1, hk, hp⟩
    refine sts ?_
    by_cases hlt : k < s.length
    ·have hdrop := List.drop_eq_getElem_cons hlt
     have hd : s[k]? = some s[k] := List.getElem?_eq_getElem hlt
     have hbt : decide ((k : Int) < (s.length : Int)) = true := by simpa using hlt
     generalize s[k] = d at hd hdrop
     rw [hdrop, List.all_cons] at hp
     cases ht1 : lowB d <;> cases ht4 : uppB d <;> cases ht2 : digB d <;> cases ht3 : decide ((d.toNat : Int) = 95)
     all_goals simp only [vtailB, ht1, ht2, ht3, ht4, Bool.or_true, Bool.or_false, Bool.true_or, Bool.true_and, Bool.false_and] at hp
     repeat' (first | (simp only [go_sem, zA, zB, zC, zD, zE, zF, zG, reduceCtorEq, zH, zI, zJ, zK, zL, hbt, ht1, ht2, ht3, ht4]; all_goals refine nf ?_) | (refine stp ?_; intro K hK) | (apply hK; clear hK K) | refine stn ?_ | (with_reducible first | refine ⟨_, lower_c d, ?_⟩ | refine ⟨_, digit_c d, ?_⟩ | refine ⟨_, refUpper_c d, ?_⟩ | refine ⟨by omega, d, hd, ?_⟩) | refine stq ?_ | (clear hK K))
     all_goals first
      | (refine fin0 ?_; rw [hmod, hp])
      | (rw [wrap_succ hlt hlen]; refine ⟨k + 1, by omega, ⟨by omega, by omega, hp⟩, Gh.tt []⟩)
    ·have hbt : decide ((k : Int) < (s.length : Int)) = false := by simpa using hlt
     rw [show s.drop k = [] from List.drop_eq_nil_of_le (by omega)] at hp
     repeat' (first | (simp only [go_sem, zA, zB, zC, zD, zE, zF, zG, reduceCtorEq, zH, zI, zJ, zK, zL, hbt]; all_goals refine nf ?_) | (refine stp ?_; intro K hK) | (apply hK; clear hK K) | refine stn ?_ | (clear hK K))
     all_goals (refine fin0 ?_; rw [hmod, hp]; rfl)
structure Grd where
  kind : Int
  name : List UInt8
  num : Int
  text : List UInt8
  key : KeyD
  kids : List Grd
mutual
def encG : Grd → List C
  | ⟨kind, name, num, text, key, kids⟩ => [.int .i64 kind, .str name, .int .i64 num, .str text, .int .i64 key.kind, .str key.text, .sl 7 (encGs kids)]
def encGs : List Grd → List (List C)
  | [] => []
  | g :: l => encG g :: encGs l
end
theorem encGs_eq : ∀ l : List Grd, encGs l = l.map encG
  | [] => by simp only [encGs, List.map_nil]
  | g :: l => by simp only [encGs, List.map_cons, encGs_eq l]
theorem encG_eq (g : Grd) : encG g = [.int .i64 g.kind, .str g.name, .int .i64 g.num, .str g.text, .int .i64 g.key.kind, .str g.key.text, .sl 7 (g.kids.map encG)] := by cases g; simp only [encG, encGs_eq]
theorem encG_lit (x : Grd) : encG x = [.int .i64 x.kind, .str x.name, .int .i64 x.num, .str x.text, .int .i64 x.key.kind, .str x.key.text, .sl 7 (x.kids.map encG)] := encG_eq x
@[go_sem] theorem encG_cut (x : Grd) : cutC 7 (encG x) = some (encG x, []) := by rw [encG_eq]; rfl
@[go_sem low] theorem encG_cutk (x : Grd) (k : Nat) : cutC k (encG x) = cutC k [.int .i64 x.kind, .str x.name, .int .i64 x.num, .str x.text, .int .i64 x.key.kind, .str x.key.text, .sl 7 (x.kids.map encG)] := by rw [encG_lit]
@[go_sem] theorem encG_cutm (x : Grd) : cutC 7 ((encG x).map Cell.dat) = some ((encG x).map Cell.dat, []) := by rw [encG_eq]; rfl
@[go_sem low] theorem encG_cutmk (x : Grd) (k : Nat) : cutC k ((encG x).map Cell.dat) = cutC k (([.int .i64 x.kind, .str x.name, .int .i64 x.num, .str x.text, .int .i64 x.key.kind, .str x.key.text, .sl 7 (x.kids.map encG)] : List C).map Cell.dat) := by rw [encG_lit]
@[go_sem] theorem encG_soft (x : Grd) : (encG x).map C.soft = encG x := by rw [encG_eq]; rfl
@[go_sem] theorem encG_len (x : Grd) : lenIs 7 (encG x) = true := by rw [encG_eq]; rfl
@[go_sem high] theorem encG_takeP (x : Grd) (n : Nat) (K : T → Prop) : takeP false n (encG x) K = K (.one (.dat (.int .i64 x.kind))) := by rw [encG_lit]; rfl
@[go_sem high] theorem encG_takeT (x : Grd) (n : Nat) (K : T → Prop) : takeT false n ((encG x).map Cell.dat) K = K (.one (.dat (.int .i64 x.kind))) := by rw [encG_lit]; rfl
@[go_sem] theorem encG_lenm (x : Grd) : lenIs 7 ((encG x).map Cell.dat) = true := by rw [encG_eq]; rfl
mutual
def cntG : Grd → Nat
  | ⟨_, _, _, _, _, kids⟩ => 1 + cntGs kids
def cntGs : List Grd → Nat
  | [] => 0
  | g :: l => cntG g + cntGs l
end
theorem cntG_eq (g : Grd) : cntG g = 1 + cntGs g.kids := by cases g; simp only [cntG]
theorem cntGs_mem : ∀ {l : List Grd} {g : Grd}, g ∈ l → cntG g ≤ cntGs l
 | x :: l, g, h => by
  simp only [cntGs]
  rcases List.mem_cons.1 h with rfl | h
  ·omega
  ·have := cntGs_mem h; omega
abbrev GSm (g : Grd) : Prop := cntG g ≤ 100000000
theorem cnt_kid {g k : Grd} (h : k ∈ g.kids) : cntG k < cntG g := by have := cntG_eq g; have := cntGs_mem h; omega
theorem GSm.kid {g : Grd} (h : GSm g) : ∀ k ∈ g.kids, GSm k := fun k hk => by have := cnt_kid hk; unfold GSm at *; omega
end Go.Proofs.YthbcdhfiibpeaaaGreat


