/- Lemmas of the proof. -/
import Derived.Test.YthbcdhfiibpeaaaGreatTy13
import Derived.Test.YthbcdhfiibpeaaaGreatTy14
open List renaming length_map → lB
open Nat renaming reduceBEq → zA, reduceBNe → zB, reduceAdd → zC, reduceSub → zD, reduceMul → zE, reduceLeDiff → zF, reduceLT → zG, reduceEqDiff → zH
open Int renaming reduceToNat → zI, reduceLE → zJ, reduceLT → zK, reduceEq → zL
open Bool renaming not_eq_true' → zM, not_eq_false' → zN
set_option linter.unusedSimpArgs false
set_option linter.unusedVariables false
set_option maxRecDepth 20000
set_option maxHeartbeats 64000000
namespace Go.Proofs.YthbcdhfiibpeaaaGreat
open Go Go.Sx
def inB (l : List NodeD) (k : Int) : Bool := decide (0 ≤ k) && decide (k < (l.length : Int))
theorem inB_out (l : List NodeD) (k : Int) : inB l k = !outE l k := by
  unfold inB outE
  rw [← Bool.coe_iff_coe]
  simp only [Bool.and_eq_true, decide_eq_true_eq, Bool.not_eq_true', Bool.or_eq_false_iff, decide_eq_false_iff_not]
  omega
theorem index_c (l : List NodeD) (r k : Int) : PC Tryz.prog 48 [Tt l r, I .i64 k] (Bo (inB l k)) := by
  refine PCB.ob Tryz.func48 Tryz.ntmps48 Tryz.results48 ?_
  repeat' (first | (simp only [go_sem, zA, zB, zC, zD, zE, zF, zG, reduceCtorEq, zH, zI, zJ, zK, zL, lB]; all_goals refine nf ?_) | (refine stp ?_; intro K hK) | (apply hK; clear hK K) | refine stn ?_ | (refine ⟨fun h => ?_, fun h => ?_⟩ <;> (try simp only [zM, zN] at h) <;> try simp only [h]) | fail)
  all_goals (refine fin0 ?_; simp only [inB, *, Bool.true_and, Bool.false_and])
theorem boolean_c (x : NodeD) : PC Tryz.prog 50 [Nt x] (Bo (boolK x.kind)) := by
  refine PCB.ob Tryz.func50 Tryz.ntmps50 Tryz.results50 ?_
  repeat' (first | (simp only [go_sem, zA, zB, zC, zD, zE, zF, zG, reduceCtorEq, zH, zI, zJ, zK, zL, encNode_lit]; all_goals refine nf ?_) | (refine stp ?_; intro K hK) | (apply hK; clear hK K) | refine stn ?_ | (refine ⟨fun h => ?_, fun h => ?_⟩ <;> (try simp only [zM, zN] at h) <;> try simp only [h]) | fail)
  all_goals (refine fin0 ?_; simp only [boolK, *, Bool.or_true, Bool.true_or, Bool.or_false, Bool.false_or])
def badTx (x : NodeD) : Bool := (!decide (x.kind = 3) && (!decide (x.lo = 0) || !decide (x.hi = 0))) || (!(decide (x.kind = 4) || (decide (x.kind = 6) || decide (x.kind = 19))) && !decide (x.text = []))
def badMp (x : NodeD) : Bool := !decide (x.kind = 13) && (decide (0 < (x.fields.length : Int)) || !(decide (x.r0 = 0) && decide (x.r1 = 0)))
def fldR (l : List NodeD) : Option KeyD → List FieldD → Bool
  | _, [] => true
  | p, f :: fs => bif (!inB l f.node || !validKeyB f.key) || (match p with | some k => decide (keyCmp k f.key ≥ 0) | none => false) then false else fldR l (some f.key) fs
def kindR (l : List NodeD) (x : NodeD) : Bool :=
  bif decide (x.kind = 3) then decide ((x.kids.length : Int) = 0) && decide (x.lo ≤ x.hi) else
  bif decide (x.kind = 4) then decide ((x.kids.length : Int) = 0) && decide ((x.text.length : Int) ≤ 64) else
  bif decide (x.kind = 6) then decide ((x.kids.length : Int) = 0) && isAtomB x.text else
  bif decide (x.kind = 19) then decide ((x.kids.length : Int) = 0) && isVarB x.text else
  bif decide (x.kind = 1) || (decide (x.kind = 2) || (decide (x.kind = 5) || (decide (x.kind = 7) || (decide (x.kind = 8) || (decide (x.kind = 9) || (decide (x.kind = 11) || decide (x.kind = 15))))))) then decide ((x.kids.length : Int) = 0) else
  bif decide (x.kind = 10) then decide ((x.kids.length : Int) ≤ 4) else
  bif decide (x.kind = 12) then decide ((x.kids.length : Int) = 2) else
  bif decide (x.kind = 14) then decide (1 ≤ (x.kids.length : Int)) && decide ((x.kids.length : Int) ≤ 5) else
  bif decide (x.kind = 16) || decide (x.kind = 17) then decide (1 ≤ (x.kids.length : Int)) else
  bif decide (x.kind = 18) then decide ((x.kids.length : Int) = 1) else
  bif decide (x.kind = 13) then (bif fldR l none x.fields then (decide ((x.kids.length : Int) = 0) && inB l x.r0) && inB l x.r1 else false) else false
def nodeR (l : List NodeD) (x : NodeD) : Bool := bif x.kids.all (inB l) then (bif badTx x then false else bif badMp x then false else kindR l x) else false
theorem index_f (l : List NodeD) (r k : Int) : PC Tryz.prog 48 [.st [.sl 8 (l.map encNode), .int .i64 r], I .i64 k] (Bo (inB l k)) := index_c l r k
theorem refValidKey_f (k : KeyD) : PC Tryz.prog 86 [.st [.int .i64 k.kind, .str k.text]] (Bo (validKeyB k)) := validKey_c k
theorem refCompareKeys_f (a b : KeyD) : PC Tryz.prog 87 [.st [.int .i64 a.kind, .str a.text], .st [.int .i64 b.kind, .str b.text]] (I .i64 (keyCmp a b)) := compareKeys_c a b
theorem node_k13 (l : List NodeD) (r : Int) (x : NodeD) (hk : x.kind = 13) : PC Tryz.prog 49 [Tt l r, Nt x] (Bo (nodeR l x)) := by
 refine PCB.ob Tryz.func49 Tryz.ntmps49 Tryz.results49 ?_
 repeat' (first | (simp only [go_sem, zA, zB, zC, zD, zE, zF, zG, reduceCtorEq, zH, zI, zJ, zK, zL, lB, hk, encNode_lit]; all_goals refine nf ?_) | (refine stp ?_; intro K hK) | (apply hK; clear hK K) | refine stn ?_ | fail)
 refine AWP.lenB 3 4 rfl rfl fun hlen0 => ?_
 (try rw [lB] at hlen0)
 refine AWP.range (S := Unit) (x.kids) encInt (fun k s => (5, I .i64 (k : Nat)) :: []) (fun k s => []) [2, 3] [2, 3] (fun k s => (x.kids.take k).all (inB l) = true) (()) (by refine sts ?_; exact Gh.tt []) ?_ ?_ ?_
 ·simp
 ·intro k s y hlt hy hy' hbb hok
  refine sts ?_
  have hat := all_take1 (p := inB l) hy
  rw [hok, Bool.true_and] at hat
  cases hi : inB l y
  ·
   repeat' (first | (simp only [go_sem, zA, zB, zC, zD, zE, zF, zG, reduceCtorEq, zH, zI, zJ, zK, zL, lB, hk, hbb, hi, encInt]; all_goals refine nf ?_) | (refine stp ?_; intro K hK) | (apply hK; clear hK K) | refine stn ?_ | (with_reducible first | refine ⟨by omega, encInt y, hy', ?_⟩ | refine ⟨_, index_f l r y, ?_⟩) | (refine stp' ?_; intro K hK) | (clear hK K))
   all_goals (refine fin0 ?_; rw [nodeR, all_no (List.mem_of_getElem? hy) hi]; rfl)
  ·
   repeat' (first | (simp only [go_sem, zA, zB, zC, zD, zE, zF, zG, reduceCtorEq, zH, zI, zJ, zK, zL, lB, hk, hbb, hi, encInt]; all_goals refine nf ?_) | (refine stp ?_; intro K hK) | (apply hK; clear hK K) | refine stn ?_ | (with_reducible first | refine ⟨by omega, encInt y, hy', ?_⟩ | refine ⟨_, index_f l r y, ?_⟩) | (refine stp' ?_; intro K hK) | (clear hK K))
   all_goals (rw [wrap_succ hlt hlen0])
   all_goals (refine ⟨(), ?_, Gh.tt []⟩)
   all_goals (rw [hat, hi])
 ·intro s hbb hok
  refine sts ?_
  rw [List.take_length] at hok
  have e : nodeR l x = bif badTx x then false else bif badMp x then false else kindR l x := by unfold nodeR; rw [hok]; rfl
  cases ht : badTx x
  ·simp only [badTx, hk, Int.reduceEq, decide_false, decide_true, Bool.not_false, Bool.true_and, Bool.false_or, Bool.or_eq_false_iff, Bool.not_eq_false'] at ht
   obtain ⟨⟨ht1, ht2⟩, ht3⟩ := ht
   have e2 : nodeR l x = kindR l x := by rw [e]; simp only [badTx, badMp, hk, ht1, ht2, ht3, Int.reduceEq, decide_false, decide_true, Bool.not_true, Bool.not_false, Bool.or_false, Bool.false_or, Bool.true_and, Bool.false_and, cond_false]
   have e3 : kindR l x = bif fldR l none x.fields then (decide ((x.kids.length : Int) = 0) && inB l x.r0) && inB l x.r1 else false := by
    simp only [kindR, hk, Int.reduceEq, decide_false, decide_true, Bool.or_false, Bool.false_or, cond_true, cond_false]
   repeat' (first | (simp only [go_sem, zA, zB, zC, zD, zE, zF, zG, reduceCtorEq, zH, zI, zJ, zK, zL, lB, hk, hbb, ht1, ht2, ht3]; all_goals refine nf ?_) | (refine stp ?_; intro K hK) | (apply hK; clear hK K) | refine stn ?_ | (clear hK K))
   refine AWP.lenB 3 5 rfl rfl fun hlen1 => ?_
   (try rw [lB] at hlen1)
   refine AWP.range (S := Unit) (x.fields) encField (fun k s => (9, I .i64 (k : Nat)) :: []) (fun k s => []) [2, 3, 8] [2, 3] (fun k s => Is (fldR l none x.fields) (fldR l (prevK x.fields k) (x.fields.drop k))) (()) (by refine sts ?_; exact Gh.tt []) ?_ ?_ ?_
   ·rfl
   ·intro k s y hlt hy hy' hbb hok
    refine sts ?_
    have hd : x.fields.drop k = y :: x.fields.drop (k + 1) := by
     obtain ⟨hk, e⟩ := List.getElem?_eq_some_iff.1 hy
     rw [List.drop_eq_getElem_cons hk, e]
    have hn : prevK x.fields (k + 1) = some y.key := by simp only [prevK, hy, Option.map_some]
    unfold Is at hok
    rw [hd] at hok
    by_cases hk0 : k = 0
    ·have hg : decide ((0 : Int) < (k : Int)) = false := by simp [hk0]
     have hp0 : prevK x.fields k = none := by rw [hk0]; rfl
     rw [hp0] at hok
     have hv0 : fldR l none x.fields = bif !inB l y.node || !validKeyB y.key then false else fldR l (some y.key) (x.fields.drop (k + 1)) := by rw [hok]; show (bif (!inB l y.node || !validKeyB y.key) || false then _ else _) = _; rw [Bool.or_false]
     cases hi : inB l y.node <;> rw [hi] at hv0
     ·
      repeat' (first | (simp only [go_sem, zA, zB, zC, zD, zE, zF, zG, reduceCtorEq, zH, zI, zJ, zK, zL, lB, hk, hbb, hi, hg, encField_lit]; all_goals refine nf ?_) | (refine stp ?_; intro K hK) | (apply hK; clear hK K) | refine stn ?_ | (with_reducible first | refine ⟨by omega, encField y, hy', ?_⟩ | refine ⟨_, index_f l r y.node, ?_⟩) | (refine stp' ?_; intro K hK) | (clear hK K))
      all_goals (refine fin0 ?_; rw [e2, e3, hv0]; rfl)
     ·cases hv : validKeyB y.key <;> rw [hv] at hv0
      ·
       repeat' (first | (simp only [go_sem, zA, zB, zC, zD, zE, zF, zG, reduceCtorEq, zH, zI, zJ, zK, zL, lB, hk, hbb, hi, hv, hg, encField_lit]; all_goals refine nf ?_) | (refine stp ?_; intro K hK) | (apply hK; clear hK K) | refine stn ?_ | (with_reducible first | refine ⟨by omega, encField y, hy', ?_⟩ | refine ⟨_, index_f l r y.node, ?_⟩ | refine ⟨_, refValidKey_f y.key, ?_⟩) | (refine stp' ?_; intro K hK) | (clear hK K))
       all_goals (refine fin0 ?_; rw [e2, e3, hv0]; rfl)
      ·
       repeat' (first | (simp only [go_sem, zA, zB, zC, zD, zE, zF, zG, reduceCtorEq, zH, zI, zJ, zK, zL, lB, hk, hbb, hi, hv, hg, encField_lit]; all_goals refine nf ?_) | (refine stp ?_; intro K hK) | (apply hK; clear hK K) | refine stn ?_ | (with_reducible first | refine ⟨by omega, encField y, hy', ?_⟩ | refine ⟨_, index_f l r y.node, ?_⟩ | refine ⟨_, refValidKey_f y.key, ?_⟩) | (refine stp' ?_; intro K hK) | (clear hK K))
       all_goals (rw [wrap_succ hlt hlen1])
       all_goals (refine ⟨(), ?_, Gh.tt []⟩)
       all_goals (rw [hn]; exact hv0)
    ·have hg : decide ((0 : Int) < (k : Int)) = true := by simp; omega
     obtain ⟨j, rfl⟩ : ∃ j, k = j + 1 := ⟨k - 1, by omega⟩
     obtain ⟨z, hz⟩ : ∃ z, x.fields[j]? = some z := ⟨x.fields[j], List.getElem?_eq_getElem (by omega)⟩
     have hz' := get_map encField hz
     have hp : prevK x.fields (j + 1) = some z.key := by simp only [prevK, hz, Option.map_some]
     rw [hp, fldR] at hok
     have hw : IntKind.i64.wrap (((j + 1 : Nat) : Int) - 1) = (j : Int) := by rw [w64 (by omega)]; omega
     obtain ⟨k, hkk⟩ : ∃ k, k = j + 1 := ⟨_, rfl⟩
     simp only [← hkk] at *
     cases hi : inB l y.node <;> rw [hi] at hok
     ·
      repeat' (first | (simp only [go_sem, zA, zB, zC, zD, zE, zF, zG, reduceCtorEq, zH, zI, zJ, zK, zL, lB, hk, hbb, hi, hg, hw, encField_lit]; all_goals refine nf ?_) | (refine stp ?_; intro K hK) | (apply hK; clear hK K) | refine stn ?_ | (with_reducible first | refine ⟨by omega, encField y, hy', ?_⟩ | refine ⟨_, index_f l r y.node, ?_⟩) | (refine stp' ?_; intro K hK) | (clear hK K))
      all_goals (refine fin0 ?_; rw [e2, e3, hok]; rfl)
     ·cases hv : validKeyB y.key <;> rw [hv] at hok
      ·
       repeat' (first | (simp only [go_sem, zA, zB, zC, zD, zE, zF, zG, reduceCtorEq, zH, zI, zJ, zK, zL, lB, hk, hbb, hi, hv, hg, hw, encField_lit]; all_goals refine nf ?_) | (refine stp ?_; intro K hK) | (apply hK; clear hK K) | refine stn ?_ | (with_reducible first | refine ⟨by omega, encField y, hy', ?_⟩ | refine ⟨_, index_f l r y.node, ?_⟩ | refine ⟨_, refValidKey_f y.key, ?_⟩) | (refine stp' ?_; intro K hK) | (clear hK K))
       all_goals (refine fin0 ?_; rw [e2, e3, hok]; rfl)
      ·cases hc : decide (keyCmp z.key y.key ≥ 0) <;> rw [hc] at hok
       ·
        repeat' (first | (simp only [go_sem, zA, zB, zC, zD, zE, zF, zG, reduceCtorEq, zH, zI, zJ, zK, zL, lB, hk, hbb, hi, hv, hc, hw, hg, encField_lit]; all_goals refine nf ?_) | (refine stp ?_; intro K hK) | (apply hK; clear hK K) | refine stn ?_ | (with_reducible first | refine ⟨by omega, encField y, hy', ?_⟩ | refine ⟨by omega, _, hz', ?_⟩ | refine ⟨_, index_f l r y.node, ?_⟩ | refine ⟨_, refValidKey_f y.key, ?_⟩ | refine ⟨_, refCompareKeys_f z.key y.key, ?_⟩) | (refine stp' ?_; intro K hK) | (clear hK K))
        all_goals (rw [wrap_succ hlt hlen1])
        all_goals (refine ⟨(), ?_, Gh.tt []⟩)
        all_goals (rw [hn]; exact hok)
       ·
        repeat' (first | (simp only [go_sem, zA, zB, zC, zD, zE, zF, zG, reduceCtorEq, zH, zI, zJ, zK, zL, lB, hk, hbb, hi, hv, hc, hw, hg, encField_lit]; all_goals refine nf ?_) | (refine stp ?_; intro K hK) | (apply hK; clear hK K) | refine stn ?_ | (with_reducible first | refine ⟨by omega, encField y, hy', ?_⟩ | refine ⟨by omega, _, hz', ?_⟩ | refine ⟨_, index_f l r y.node, ?_⟩ | refine ⟨_, refValidKey_f y.key, ?_⟩ | refine ⟨_, refCompareKeys_f z.key y.key, ?_⟩) | (refine stp' ?_; intro K hK) | (clear hK K))
        all_goals (refine fin0 ?_; rw [e2, e3, hok]; rfl)
   ·intro s hbb hok
    refine sts ?_
    unfold Is at hok
    rw [List.drop_length, fldR] at hok
    rw [hok, cond_true] at e3
    repeat' (first | (simp only [go_sem, zA, zB, zC, zD, zE, zF, zG, reduceCtorEq, zH, zI, zJ, zK, zL, lB, hk, hbb]; all_goals refine nf ?_) | (refine stp ?_; intro K hK) | (apply hK; clear hK K) | refine stn ?_ | (refine ⟨fun h => ?_, fun h => ?_⟩ <;> (try simp only [zM, zN] at h) <;> try simp only [h]) | (with_reducible first | refine ⟨_, index_f l r x.r0, ?_⟩ | refine ⟨_, index_f l r x.r1, ?_⟩) | refine stq ?_ | (clear hK K))
    all_goals (refine fin0 ?_; rw [e2, e3]; simp only [*, Bool.true_and, Bool.and_true, Bool.false_and, Bool.and_false])
  ·have e2 : nodeR l x = false := by rw [e, ht]; rfl
   simp only [badTx, hk, Int.reduceEq, decide_false, decide_true, Bool.not_false, Bool.true_and, Bool.false_or] at ht
   cases ht1 : decide (x.lo = 0) <;> rw [ht1] at ht
   ·
    repeat' (first | (simp only [go_sem, zA, zB, zC, zD, zE, zF, zG, reduceCtorEq, zH, zI, zJ, zK, zL, lB, hk, hbb, ht1]; all_goals refine nf ?_) | (refine stp ?_; intro K hK) | (apply hK; clear hK K) | refine stn ?_ | (clear hK K))
    all_goals (refine fin0 ?_; rw [e2])
   ·cases ht2 : decide (x.hi = 0) <;> rw [ht2] at ht
    ·
     repeat' (first | (simp only [go_sem, zA, zB, zC, zD, zE, zF, zG, reduceCtorEq, zH, zI, zJ, zK, zL, lB, hk, hbb, ht1, ht2]; all_goals refine nf ?_) | (refine stp ?_; intro K hK) | (apply hK; clear hK K) | refine stn ?_ | (clear hK K))
     all_goals (refine fin0 ?_; rw [e2])
    ·have ht3 : decide (x.text = []) = false := by simpa using ht
     repeat' (first | (simp only [go_sem, zA, zB, zC, zD, zE, zF, zG, reduceCtorEq, zH, zI, zJ, zK, zL, lB, hk, hbb, ht1, ht2, ht3]; all_goals refine nf ?_) | (refine stp ?_; intro K hK) | (apply hK; clear hK K) | refine stn ?_ | (clear hK K))
     all_goals (refine fin0 ?_; rw [e2])
end Go.Proofs.YthbcdhfiibpeaaaGreat

