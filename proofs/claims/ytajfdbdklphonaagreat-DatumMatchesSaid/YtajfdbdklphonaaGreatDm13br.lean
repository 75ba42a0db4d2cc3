/- Lemmas; conditions: as each states. -/
import Derived.Test.YtajfdbdklphonaaGreatDm13a
open Go.Proofs.Tryz renaming prog → zP
open List renaming length_map → lB, take_length → lK, drop_length → lL, mem_of_getElem? → lP
open Go.Sx.AWP renaming range → xC, lenB → xE
open Nat renaming reduceBEq → D, reduceBNe → E, reduceAdd → H, reduceSub → J, reduceMul → N, reduceLeDiff → O, reduceLT → U, reduceEqDiff → V
open Int renaming reduceToNat → W, reduceLE → Y, reduceLT → Z, reduceEq → zL
open Bool renaming not_eq_true' → zM, not_eq_false' → zN
set_option linter.unusedVariables false
set_option linter.unusedSimpArgs false
set_option maxRecDepth 20000
set_option maxHeartbeats 16000000
namespace Go.Proofs.YtajfdbdklphonaaGreat
open Go Go.Sx
set_option maxHeartbeats 64000000 in
theorem good_a (g : Grd) (ih : ∀ k ∈ g.kids, PC zP 128 [Gt k] (Bo (treeG k))) (hiv : isVarB g.name = false) (hk : g.kind = 1 ∨ g.kind = 2 ∨ g.kind = 3 ∨ g.kind = 4) : PC zP 128 [Gt g] (Bo (treeG g)) := by
 have htr := treeG_eq g
 have hz0 : decide ((0 : Int) < (g.kids.length : Int)) = !decide ((g.kids.length : Int) = 0) := by rw [← Bool.coe_iff_coe]; simp only [decide_eq_true_eq, Bool.not_eq_true', decide_eq_false_iff_not]; omega
 rcases hk with hk | hk | hk | hk
 iterate 4
  ·
   refine PCB.ob Tryz.func128 Tryz.ntmps128 Tryz.results128 ?_
   repeat' (first | (with_reducible refine AWP.join (id := 8) (fun b : Bool => [(7, Bo b)]) (fun _ => []) [1, 3] [1] (fun b => Is (vG g) b) ?_ ?_) | (simp only [go_sem, D, E, H, J, N, O, U, reduceCtorEq, V, W, Y, Z, zL, encG_eq g, hk, hiv, lB] <;> refine nf ?_) | (refine stp ?_; intro K hK) | (apply hK; clear hK K) | refine stn ?_ | (refine AWP.cnd ?_ ?_ <;> intro h <;> (try simp only [zM, zN] at h)) | (refine ⟨fun h => ?_, fun h => ?_⟩ <;> (try simp only [zM, zN] at h) <;> try simp only [h]) | (with_reducible refine ⟨_, refIsVariable_c _, ?_⟩) | refine stq ?_ | (clear hK K))
   any_goals (refine fin0 ?_; rw [htr]; simp only [vG, badG, bodyG, connG, testG, intG, textG, keyZ, hk, hz0, Int.reduceEq, Int.reduceLE, *, zb, Bool.not_not, cT, cF, dT, dF]; done)
   any_goals (refine ⟨_, ?_, Gh.ts []⟩; unfold Is; simp only [vG, badG, bodyG, connG, testG, intG, textG, keyZ, hk, hz0, Int.reduceEq, Int.reduceLE, *, zb, Bool.not_not, cT, cF, dT, dF]; done)
   intro b hvb
   try simp only [go_sem, D, E, H, J, N, O, U, reduceCtorEq, V, W, Y, Z, zL]
   repeat' (first | (simp only [go_sem, D, E, H, J, N, O, U, reduceCtorEq, V, W, Y, Z, zL, encG_eq g, lB] <;> refine nf ?_) | (refine stp ?_; intro K hK) | (apply hK; clear hK K) | refine stn ?_ | fail)
   refine xE 1 6 rfl rfl fun hlen0 => ?_
   (try rw [lB] at hlen0)
   refine xC (S := Bool) (g.kids) encG (fun k s => (8, I .i64 (k : Nat)) :: [(7, Bo s)]) (fun k s => []) [1, 3] [1] (fun k s => Is s (b && (g.kids.take k).all treeG)) (b) (by simp only [go_sem, D, E, H, J, N, O, U, reduceCtorEq, V, W, Y, Z, zL, encG_eq]; exact Gh.ts []) ?_ ?_ ?_
   ·simp [Is]
   ·intro k s x hlt hx hx' hb hok
    refine st ?_
    have hix := ih x (lP hx)
    have hat := all_take (p := treeG) hx
    cases s
    ·
     repeat' (first | (simp only [go_sem, D, E, H, J, N, O, U, reduceCtorEq, V, W, Y, Z, zL, encG_eq g, lB, hb] <;> refine nf ?_) | (refine stp ?_; intro K hK) | (apply hK; clear hK K) | refine stn ?_ | (clear hK K))
     all_goals (rw [wrap_succ hlt hlen0])
     all_goals (refine ⟨false, ?_, Gh.ts []⟩)
     all_goals (show false = _; rw [hat, ← Bool.and_assoc, ← show false = _ from hok]; rfl)
    ·
     repeat' (first | (simp only [go_sem, D, E, H, J, N, O, U, reduceCtorEq, V, W, Y, Z, zL, encG_eq g, lB, hb] <;> refine nf ?_) | (refine stp ?_; intro K hK) | (apply hK; clear hK K) | refine stn ?_ | (with_reducible first | refine ⟨_, hix, ?_⟩ | refine ⟨by omega, encG x, hx', ?_⟩) | refine stq ?_ | (clear hK K))
     all_goals (rw [wrap_succ hlt hlen0])
     all_goals (refine ⟨treeG x, ?_, Gh.ts []⟩)
     all_goals (show treeG x = _; rw [hat, ← Bool.and_assoc, ← show true = _ from hok]; rfl)
   ·intro s hb hok
    refine st ?_
    rw [Is, lK] at hok
    repeat' (first | (simp only [go_sem, D, E, H, J, N, O, U, reduceCtorEq, V, W, Y, Z, zL, encG_eq g, lB, hb] <;> refine nf ?_) | (refine stp ?_; intro K hK) | (apply hK; clear hK K) | refine stn ?_ | (clear hK K))
    all_goals (refine fin0 ?_; rw [htr, show vG g = b from hvb, show s = _ from hok])
end Go.Proofs.YtajfdbdklphonaaGreat