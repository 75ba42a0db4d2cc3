/- Lemmas; conditions: as each states. -/
import Derived.Test.YtajfdbdklphonaaGreatDm12a
open Go.Proofs.Tryz renaming prog → zP
open Nat renaming reduceBEq → D, reduceBNe → E, reduceAdd → H, reduceSub → J, reduceMul → N, reduceLeDiff → O, reduceLT → U, reduceEqDiff → V
open Int renaming reduceToNat → W, reduceLE → Y, reduceLT → Z, reduceEq → zL
open Bool renaming not_eq_true' → zM, not_eq_false' → zN
set_option linter.unusedVariables false
set_option linter.unusedSimpArgs false
set_option maxRecDepth 20000
set_option maxHeartbeats 16000000
namespace Go.Proofs.YtajfdbdklphonaaGreat
open Go Go.Sx
def connG (k : Int) : Bool := decide (k = 2) || (decide (k = 3) || decide (k = 4))
def testG (k : Int) : Bool := decide (5 ≤ k) && decide (k ≤ 17)
def intG (k : Int) : Bool := decide (k = 10) || (decide (k = 12) || (decide (k = 13) || decide (k = 16)))
def textG (k : Int) : Bool := decide (k = 14) || decide (k = 15)
def keyZ (g : Grd) : Bool := decide (g.key.kind = 0) && decide (g.key.text = [])
def badG (g : Grd) : Bool := (!connG g.kind && decide ((0 : Int) < g.kids.length)) || ((!testG g.kind && !decide (g.name = [])) || ((!intG g.kind && !decide (g.num = 0)) || ((!textG g.kind && !decide (g.text = [])) || (!decide (g.kind = 17) && !keyZ g))))
def bodyG (g : Grd) : Bool :=
 bif decide (g.kind = 1) then true else
 bif decide (g.kind = 2) || decide (g.kind = 3) then decide (1 ≤ (g.kids.length : Int)) else
 bif decide (g.kind = 4) then decide ((g.kids.length : Int) = 1) else
 testG g.kind && (isVarB g.name && (
  bif decide (g.kind = 10) || decide (g.kind = 12) then decide (0 ≤ g.num) && decide (g.num ≤ 4) else
  bif decide (g.kind = 14) then decide ((g.text.length : Int) ≤ 64) else
  bif decide (g.kind = 15) then isAtomB g.text else
  bif decide (g.kind = 17) then validKeyB g.key else true))
def vG (g : Grd) : Bool := !badG g && bodyG g
theorem gkinds (k : Int) : k = 1 ∨ k = 2 ∨ k = 3 ∨ k = 4 ∨ k = 5 ∨ k = 6 ∨ k = 7 ∨ k = 8 ∨ k = 9 ∨ k = 10 ∨ k = 11 ∨ k = 12 ∨ k = 13 ∨ k = 14 ∨ k = 15 ∨ k = 16 ∨ k = 17 ∨ (decide (k = 1) = false ∧ decide (k = 2) = false ∧ decide (k = 3) = false ∧ decide (k = 4) = false ∧ decide (k = 5) = false ∧ decide (k = 6) = false ∧ decide (k = 7) = false ∧ decide (k = 8) = false ∧ decide (k = 9) = false ∧ decide (k = 10) = false ∧ decide (k = 11) = false ∧ decide (k = 12) = false ∧ decide (k = 13) = false ∧ decide (k = 14) = false ∧ decide (k = 15) = false ∧ decide (k = 16) = false ∧ decide (k = 17) = false ∧ testG k = false) := by
 unfold testG; simp only [decide_eq_false_iff_not, Bool.and_eq_false_iff]; omega
theorem isTest_c (k : Int) : PC zP 176 [I .i64 k] (Bo (testG k)) := by
 refine PCB.ob Tryz.func176 Tryz.ntmps176 Tryz.results176 ?_
 repeat' (first | (simp only [go_sem, D, E, H, J, N, O, U, reduceCtorEq, V, W, Y, Z, zL] <;> refine nf ?_) | (refine stp ?_; intro K hK) | (apply hK; clear hK K) | refine stn ?_ | (refine AWP.cnd ?_ ?_ <;> intro h <;> (try simp only [zM, zN] at h)) | (refine ⟨fun h => ?_, fun h => ?_⟩ <;> (try simp only [zM, zN] at h) <;> try simp only [h]) | refine stq ?_ | (clear hK K))
 all_goals (first | exact lf | (refine fin0 ?_; simp only [testG, *, zb, cT, cF, dT, dF] <;> rfl))
theorem usesInt_c (k : Int) : PC zP 177 [I .i64 k] (Bo (intG k)) := by
 refine PCB.ob Tryz.func177 Tryz.ntmps177 Tryz.results177 ?_
 repeat' (first | (simp only [go_sem, D, E, H, J, N, O, U, reduceCtorEq, V, W, Y, Z, zL] <;> refine nf ?_) | (refine stp ?_; intro K hK) | (apply hK; clear hK K) | refine stn ?_ | (refine AWP.cnd ?_ ?_ <;> intro h <;> (try simp only [zM, zN] at h)) | (refine ⟨fun h => ?_, fun h => ?_⟩ <;> (try simp only [zM, zN] at h) <;> try simp only [h]) | refine stq ?_ | (clear hK K))
 all_goals (first | exact lf | (refine fin0 ?_; simp only [intG, *, zb, cT, cF, dT, dF] <;> rfl))
theorem identValidKey_e (k : KeyD) : PC zP 173 [.st [.int .i64 k.kind, .str k.text]] (Bo (validKeyB k)) := identValidKey_c k
theorem validKey_e (k : KeyD) : PC zP 37 [.st [.int .i64 k.kind, .str k.text]] (Bo (validKeyB k)) := validKey_c k
end Go.Proofs.YtajfdbdklphonaaGreat
