/- Lemmas; conditions: as each states. -/
import Derived.Test.YtajfdbdklphonaaGreatDm12a
open Go.Proofs.Tryz renaming prog → zP
open List renaming length_map → lB, take_length → lK, mem_of_getElem? → lP
open Go.Sx.AWP renaming range → xC, lenB → xE, len → xF
open Nat renaming reduceBEq → D, reduceBNe → E, reduceAdd → H, reduceSub → J, reduceMul → N, reduceLeDiff → O, reduceLT → U, reduceEqDiff → V
open Int renaming reduceToNat → W, reduceLE → Y, reduceLT → Z, reduceEq → zL
open Bool renaming not_eq_true' → zM, not_eq_false' → zN
set_option linter.unusedVariables false
set_option linter.unusedSimpArgs false
set_option maxRecDepth 20000
set_option maxHeartbeats 16000000
namespace Go.Proofs.YtajfdbdklphonaaGreat
open Go Go.Sx
def numP (k : Int) : Bool := decide (k = 3)
def textP (k : Int) : Bool := decide (k = 2) || (decide (k = 4) || (decide (k = 5) || decide (k = 10)))
def kidsP (k : Int) : Bool := decide (k = 7) || (decide (k = 8) || (decide (k = 9) || decide (k = 10)))
def keysP (k : Int) : Bool := decide (k = 9)
theorem pkinds (k : Int) : k = 1 ∨ k = 2 ∨ k = 3 ∨ k = 4 ∨ k = 5 ∨ k = 6 ∨ k = 7 ∨ k = 8 ∨ k = 9 ∨ k = 10 ∨ (decide (k = 1) = false ∧ decide (k = 2) = false ∧ decide (k = 3) = false ∧ decide (k = 4) = false ∧ decide (k = 5) = false ∧ decide (k = 6) = false ∧ decide (k = 7) = false ∧ decide (k = 8) = false ∧ decide (k = 9) = false ∧ decide (k = 10) = false) := by
 simp only [decide_eq_false_iff_not]; omega
theorem usesP_c (k : Int) : PC zP 163 [I .i64 k] (.tup [Bo (numP k), Bo (textP k), Bo (kidsP k), Bo (keysP k)]) := by
 rcases pkinds k with hk | hk | hk | hk | hk | hk | hk | hk | hk | hk | ⟨g1, g2, g3, g4, g5, g6, g7, g8, g9, g10⟩
 iterate 10
  ·
   refine PCB.ob Tryz.func163 Tryz.ntmps163 Tryz.results163 ?_
   repeat' (first | (simp only [go_sem, D, E, H, J, N, O, U, reduceCtorEq, V, W, Y, Z, zL, hk] <;> refine nf ?_) | (refine stp ?_; intro K hK) | (apply hK; clear hK K) | refine stn ?_ | fail)
   all_goals (first | exact lf | (refine fin0 ?_; simp only [numP, textP, kidsP, keysP, hk, Int.reduceEq, zb, cT, cF, dT, dF] <;> rfl))
 ·
  refine PCB.ob Tryz.func163 Tryz.ntmps163 Tryz.results163 ?_
  repeat' (first | (simp only [go_sem, D, E, H, J, N, O, U, reduceCtorEq, V, W, Y, Z, zL, g1, g2, g3, g4, g5, g6, g7, g8, g9, g10] <;> refine nf ?_) | (refine stp ?_; intro K hK) | (apply hK; clear hK K) | refine stn ?_ | fail)
  all_goals (first | exact lf | (refine fin0 ?_; simp only [numP, textP, kidsP, keysP, g1, g2, g3, g4, g5, g6, g7, g8, g9, g10, zb, cT, cF, dT, dF] <;> rfl))
def mapP (g : Pat) : Bool := !(!decide ((g.keys.length : Int) = (g.kids.length : Int)) || decide ((8 : Int) < (g.keys.length : Int))) && goB keyC validKeyB none g.keys
theorem validMapP_c (g : Pat) : PC zP 165 [Pt g] (Bo (mapP g)) := by
 cases h1 : decide ((g.keys.length : Int) = (g.kids.length : Int))
 ·
  refine PCB.ob Tryz.func165 Tryz.ntmps165 Tryz.results165 ?_
  repeat' (first | (simp only [go_sem, D, E, H, J, N, O, U, reduceCtorEq, V, W, Y, Z, zL, encP_eq g, lB, h1] <;> refine nf ?_) | (refine stp ?_; intro K hK) | (apply hK; clear hK K) | refine stn ?_ | (clear hK K))
  all_goals (first | exact lf | (refine fin0 ?_; simp only [mapP, h1, zb, cT, cF, dT, dF] <;> rfl))
 cases h2 : decide ((8 : Int) < (g.keys.length : Int))
 case true =>
  refine PCB.ob Tryz.func165 Tryz.ntmps165 Tryz.results165 ?_
  repeat' (first | (simp only [go_sem, D, E, H, J, N, O, U, reduceCtorEq, V, W, Y, Z, zL, encP_eq g, lB, h1, h2] <;> refine nf ?_) | (refine stp ?_; intro K hK) | (apply hK; clear hK K) | refine stn ?_ | (clear hK K))
  all_goals (first | exact lf | (refine fin0 ?_; simp only [mapP, h1, h2, zb, cT, cF, dT, dF] <;> rfl))
 have hm : mapP g = goB keyC validKeyB none g.keys := by unfold mapP; rw [h1, h2]; rfl
 refine PCB.ob Tryz.func165 Tryz.ntmps165 Tryz.results165 ?_
 repeat' (first | (simp only [go_sem, D, E, H, J, N, O, U, reduceCtorEq, V, W, Y, Z, zL, encP_eq g, lB, h1, h2] <;> refine nf ?_) | (refine stp ?_; intro K hK) | (apply hK; clear hK K) | refine stn ?_ | fail)
 refine xF 19 rfl fun hlen0 => ?_
 (try rw [lB] at hlen0)
 refine xC (S := Unit) (g.keys) encKey (fun k s => (21, I .i64 (k : Nat)) :: []) (fun k s => []) [1, 19, 20] [1] (fun k s => goB keyC validKeyB none g.keys = goB keyC validKeyB (prevAt g.keys k) (g.keys.drop k)) (()) (by simp only [go_sem, D, E, H, J, N, O, U, reduceCtorEq, V, W, Y, Z, zL, encP_eq]; exact Gh.ts []) ?_ ?_ ?_
 ·rfl
 ·intro k s x hlt hx hx' hb hok
  refine st ?_
  rcases Nat.eq_zero_or_eq_succ_pred k with hk0 | hk0
  ·rw [goB_zero hk0 hx] at hok
   have hp0 : decide ((0 : Int) < (k : Int)) = false := by rw [hk0]; rfl
   cases hz : validKeyB x <;> simp only [hz, Bool.true_and, Bool.false_and] at hok
   ·
    repeat' (first | (simp only [go_sem, D, E, H, J, N, O, U, reduceCtorEq, V, W, Y, Z, zL, encP_eq g, lB, hb, hz, hp0] <;> refine nf ?_) | (refine stp ?_; intro K hK) | (apply hK; clear hK K) | refine stn ?_ | (with_reducible first | refine ⟨_, identValidKey_c x, ?_⟩ | refine ⟨by omega, encKey x, hx', ?_⟩) | (refine stp' ?_; intro K hK) | (clear hK K))
    all_goals (first | exact lf | (refine fin0 ?_; simp only [hm, hok, zb, cT, cF, dT, dF] <;> rfl))
   ·
    repeat' (first | (simp only [go_sem, D, E, H, J, N, O, U, reduceCtorEq, V, W, Y, Z, zL, encP_eq g, lB, hb, hz, hp0] <;> refine nf ?_) | (refine stp ?_; intro K hK) | (apply hK; clear hK K) | refine stn ?_ | (with_reducible first | refine ⟨_, identValidKey_c x, ?_⟩ | refine ⟨by omega, encKey x, hx', ?_⟩) | (refine stp' ?_; intro K hK) | (clear hK K))
    all_goals (rw [wrap_succ hlt hlen0])
    all_goals (refine ⟨(), ?_, Gh.ts []⟩)
    all_goals exact hok
  ·obtain ⟨j, rfl⟩ : ∃ j, k = j + 1 := ⟨_, hk0⟩
   obtain ⟨y, hy, hy', _, _⟩ := at_lt (enc := encKey) (show j < g.keys.length by omega)
   rw [goB_succ hy hx] at hok
   have hw : IntKind.i64.wrap (((j + 1 : Nat) : Int) - 1) = (j : Int) := by rw [w64 (by omega)]; omega
   have hp0 : decide ((0 : Int) < ((j + 1 : Nat) : Int)) = true := by simp only [decide_eq_true_eq]; omega
   cases hz : validKeyB x <;> cases hc : decide (keyC y x < 0) <;> simp only [hz, hc, Bool.true_and, Bool.false_and] at hok
   all_goals
    have hcg : decide (0 ≤ keyC y x) = !decide (keyC y x < 0) := by rw [← Bool.coe_iff_coe]; simp
    rw [hc] at hcg
   all_goals
    repeat' (first | (simp only [go_sem, D, E, H, J, N, O, U, reduceCtorEq, V, W, Y, Z, zL, encP_eq g, lB, hb, hz, hp0, hw, hcg] <;> refine nf ?_) | (refine stp ?_; intro K hK) | (apply hK; clear hK K) | refine stn ?_ | (with_reducible first | refine ⟨_, identValidKey_c x, ?_⟩ | refine ⟨_, identCompareKeys_c y x, ?_⟩ | refine ⟨by omega, encKey x, hx', ?_⟩ | refine ⟨by omega, encKey y, hy', ?_⟩) | (refine stp' ?_; intro K hK) | (clear hK K))
   any_goals (first | exact nn | (refine fin0 ?_; rw [hm, hok]; done) | (refine fin0 ?_; rw [hm, hok]; rfl))
   all_goals (rw [wrap_succ hlt hlen0])
   all_goals (refine ⟨(), ?_, Gh.ts []⟩)
   all_goals exact hok
 intro s0 hb0 hok0
 refine st ?_
 rw [goB_end] at hok0
 repeat' (first | (simp only [go_sem, D, E, H, J, N, O, U, reduceCtorEq, V, W, Y, Z, zL, encP_eq g, lB, hb0] <;> refine nf ?_) | (refine stp ?_; intro K hK) | (apply hK; clear hK K) | refine stn ?_ | (clear hK K))
 all_goals (refine fin0 ?_; rw [hm, hok0])
def badP (g : Pat) : Bool := (!numP g.kind && !decide (g.num = 0)) || ((!textP g.kind && !decide (g.text = [])) || ((!kidsP g.kind && decide ((0 : Int) < g.kids.length)) || (!keysP g.kind && decide ((0 : Int) < g.keys.length))))
def bodyP (g : Pat) : Bool :=
 bif decide (g.kind = 1) || (decide (g.kind = 3) || decide (g.kind = 6)) then true else
 bif decide (g.kind = 2) then isVarB g.text else
 bif decide (g.kind = 4) then decide ((g.text.length : Int) ≤ 64) else
 bif decide (g.kind = 5) then isAtomB g.text else
 bif decide (g.kind = 7) then decide ((g.kids.length : Int) ≤ 4) else
 bif decide (g.kind = 8) then decide ((g.kids.length : Int) = 2) else
 bif decide (g.kind = 9) then mapP g else
 bif decide (g.kind = 10) then decide ((g.kids.length : Int) = 1) && isVarB g.text else false
def vP (g : Pat) : Bool := !badP g && bodyP g
end Go.Proofs.YtajfdbdklphonaaGreat