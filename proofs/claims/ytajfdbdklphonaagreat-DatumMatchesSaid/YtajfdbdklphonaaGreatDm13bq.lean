/- Lemmas; conditions: as each states. -/
import Derived.Test.YtajfdbdklphonaaGreatDm13bp
open Go.Proofs.Tryz renaming prog → zP
open List renaming length_map → lB, take_length → lK, drop_length → lL, mem_of_getElem? → lP
open Go.Sx.AWP renaming range → xC, lenB → xE
open Nat renaming reduceBEq → D, reduceBNe → E, reduceAdd → H, reduceSub → J, reduceMul → N, reduceLeDiff → O, reduceLT → U, reduceEqDiff → V
open Int renaming reduceToNat → W, reduceLE → Y, reduceLT → Z, reduceEq → zL
open Bool renaming not_eq_true' → zM, not_eq_false' → zN
set_option linter.unusedVariables false
set_option linter.unusedSimpArgs false
set_option maxRecDepth 20000
set_option maxHeartbeats 16000000
namespace Go.Proofs.YtajfdbdklphonaaGreat
open Go Go.Sx
theorem evaluate_c (ns : List (List UInt8)) (vs : List Val) (hvs : ∀ v ∈ vs, Sm v) (g : Grd) (hg : treeG g = true) : PC zP 44 [Gt g, Ns ns, Vs vs] (Bo (evG ns vs g)) := by
 have ih : ∀ k ∈ g.kids, PC zP 44 [Gt k, Ns ns, Vs vs] (Bo (evG ns vs k)) := fun k hk => evaluate_c ns vs hvs k (tree_kid hg hk)
 have i1 : ∀ k ∈ g.kids, PC zP 79 [Gt k, .one (.ref [.sl 1 (ns.map encStr)]), .one (.ref [.sl 7 (vs.map encVal)])] (Bo (evG ns vs k)) := fun k hk => by
  have h := ih k hk
  refine PCB.ob Tryz.func79 Tryz.ntmps79 Tryz.results79 ?_
  repeat' (first | (simp only [go_sem, D, E, H, J, N, O, U, reduceCtorEq, V, W, Y, Z, zL] <;> refine nf ?_) | (refine stp ?_; intro K hK) | (apply hK; clear hK K) | refine stn ?_ | (with_reducible refine ⟨_, h, ?_⟩) | refine stq ?_ | fail)
  all_goals exact lf
 have i2 : ∀ k ∈ g.kids, PC zP 81 [Gt k, .one (.ref [.fnc 79 [[.sl 1 (ns.map encStr)], [.sl 7 (vs.map encVal)]]])] (Bo (!evG ns vs k)) := fun k hk => by
  have h := i1 k hk
  refine PCB.ob Tryz.func81 Tryz.ntmps81 Tryz.results81 ?_
  repeat' (first | (simp only [go_sem, D, E, H, J, N, O, U, reduceCtorEq, V, W, Y, Z, zL] <;> refine nf ?_) | (refine stp ?_; intro K hK) | (apply hK; clear hK K) | refine stn ?_ | (with_reducible refine ⟨_, h, ?_⟩) | refine stq ?_ | fail)
  all_goals exact lf
 have c1 := containsG2 79 [.sl 1 (ns.map encStr)] [.sl 7 (vs.map encVal)] (evG ns vs) g.kids i1
 have c2 := containsG1 81 [.fnc 79 [[.sl 1 (ns.map encStr)], [.sl 7 (vs.map encVal)]]] (fun k => !evG ns vs k) g.kids i2
 have ha := any_not (evG ns vs) g.kids
 have hix := indexStr_c ns g.name
 rw [evG_eq]
 rcases kindsV (tree_v hg) with hk | hk | hk | ⟨hk, k0, hk0⟩ | ⟨ht, d1, d2, d3, d4⟩
 iterate 3
  ·
   refine PCB.ob Tryz.func44 Tryz.ntmps44 Tryz.results44 ?_
   repeat' (first | (with_reducible refine AWP.refer (id := 1) 4 (by with_unfolding_all rfl) (by with_unfolding_all rfl) (by with_unfolding_all rfl) (by simp only [go_sem, D, E, H, J, N, O, U, reduceCtorEq, V, W, Y, Z, zL, encG_eq g, hk]) (by simp only [go_sem, D, E, H, J, N, O, U, reduceCtorEq, V, W, Y, Z, zL, encG_eq g, hk]) ?_) | (with_reducible refine AWP.refer (id := 1) 5 (by with_unfolding_all rfl) (by with_unfolding_all rfl) (by with_unfolding_all rfl) (by simp only [go_sem, D, E, H, J, N, O, U, reduceCtorEq, V, W, Y, Z, zL, encG_eq g, hk]) (by simp only [go_sem, D, E, H, J, N, O, U, reduceCtorEq, V, W, Y, Z, zL, encG_eq g, hk]) ?_) | (with_reducible refine AWP.refer (id := 2) 7 (by with_unfolding_all rfl) (by with_unfolding_all rfl) (by with_unfolding_all rfl) (by simp only [go_sem, D, E, H, J, N, O, U, reduceCtorEq, V, W, Y, Z, zL, encG_eq g, hk]) (by simp only [go_sem, D, E, H, J, N, O, U, reduceCtorEq, V, W, Y, Z, zL, encG_eq g, hk]) ?_) | (simp only [go_sem, D, E, H, J, N, O, U, reduceCtorEq, V, W, Y, Z, zL, encG_eq g, hk] <;> refine nf ?_) | (refine stp ?_; intro K hK) | (apply hK; clear hK K) | refine stn ?_ | (with_reducible first | refine ⟨_, c1, ?_⟩ | refine ⟨_, c2, ?_⟩) | refine stq ?_ | (clear hK K))
   all_goals (first | exact nn | refine fin0 ?_)
   all_goals (simp only [hk, Int.reduceEq, ha, zb, cT, cF, dT, dF])
 ·have hm : k0 ∈ g.kids := by rw [hk0]; simp
  have i0 := i1 k0 hm
  have hk0' : (g.kids.map encG)[0]? = some (encG k0) := by rw [hk0]; rfl
  refine PCB.ob Tryz.func44 Tryz.ntmps44 Tryz.results44 ?_
  repeat' (first | (with_reducible refine AWP.refer (id := 1) 4 (by with_unfolding_all rfl) (by with_unfolding_all rfl) (by with_unfolding_all rfl) (by simp only [go_sem, D, E, H, J, N, O, U, reduceCtorEq, V, W, Y, Z, zL, encG_eq g, hk, lB]) (by simp only [go_sem, D, E, H, J, N, O, U, reduceCtorEq, V, W, Y, Z, zL, encG_eq g, hk, lB]) ?_) | (with_reducible refine AWP.refer (id := 1) 5 (by with_unfolding_all rfl) (by with_unfolding_all rfl) (by with_unfolding_all rfl) (by simp only [go_sem, D, E, H, J, N, O, U, reduceCtorEq, V, W, Y, Z, zL, encG_eq g, hk, lB]) (by simp only [go_sem, D, E, H, J, N, O, U, reduceCtorEq, V, W, Y, Z, zL, encG_eq g, hk, lB]) ?_) | (with_reducible refine AWP.refer (id := 2) 7 (by with_unfolding_all rfl) (by with_unfolding_all rfl) (by with_unfolding_all rfl) (by simp only [go_sem, D, E, H, J, N, O, U, reduceCtorEq, V, W, Y, Z, zL, encG_eq g, hk, lB]) (by simp only [go_sem, D, E, H, J, N, O, U, reduceCtorEq, V, W, Y, Z, zL, encG_eq g, hk, lB]) ?_) | (simp only [go_sem, D, E, H, J, N, O, U, reduceCtorEq, V, W, Y, Z, zL, encG_eq g, hk, lB] <;> refine nf ?_) | (refine stp ?_; intro K hK) | (apply hK; clear hK K) | refine stn ?_ | (with_reducible first | refine ⟨_, i0, ?_⟩ | refine ⟨encG k0, hk0', ?_⟩) | (refine stp' ?_; intro K hK) | (clear hK K))
  all_goals (first | exact nn | refine fin0 ?_)
  all_goals (simp only [hk, hk0, evHd, Int.reduceEq, zb, cT, cF, dT, dF])
 ·rcases place_cases ns vs g with hp | ⟨n, hp, h1, h2⟩ | ⟨n, hp, h1, h2⟩ <;> rw [← nameAt] at hix
  ·
   refine PCB.ob Tryz.func44 Tryz.ntmps44 Tryz.results44 ?_
   repeat' (first | (with_reducible refine AWP.refer (id := 1) 4 (by with_unfolding_all rfl) (by with_unfolding_all rfl) (by with_unfolding_all rfl) (by simp only [go_sem, D, E, H, J, N, O, U, reduceCtorEq, V, W, Y, Z, zL, encG_eq g, d1, d2, d3, d4, hp, lB]) (by simp only [go_sem, D, E, H, J, N, O, U, reduceCtorEq, V, W, Y, Z, zL, encG_eq g, d1, d2, d3, d4, hp, lB]) ?_) | (with_reducible refine AWP.refer (id := 1) 5 (by with_unfolding_all rfl) (by with_unfolding_all rfl) (by with_unfolding_all rfl) (by simp only [go_sem, D, E, H, J, N, O, U, reduceCtorEq, V, W, Y, Z, zL, encG_eq g, d1, d2, d3, d4, hp, lB]) (by simp only [go_sem, D, E, H, J, N, O, U, reduceCtorEq, V, W, Y, Z, zL, encG_eq g, d1, d2, d3, d4, hp, lB]) ?_) | (with_reducible refine AWP.refer (id := 2) 7 (by with_unfolding_all rfl) (by with_unfolding_all rfl) (by with_unfolding_all rfl) (by simp only [go_sem, D, E, H, J, N, O, U, reduceCtorEq, V, W, Y, Z, zL, encG_eq g, d1, d2, d3, d4, hp, lB]) (by simp only [go_sem, D, E, H, J, N, O, U, reduceCtorEq, V, W, Y, Z, zL, encG_eq g, d1, d2, d3, d4, hp, lB]) ?_) | (simp only [go_sem, D, E, H, J, N, O, U, reduceCtorEq, V, W, Y, Z, zL, encG_eq g, d1, d2, d3, d4, hp, lB] <;> refine nf ?_) | (refine stp ?_; intro K hK) | (apply hK; clear hK K) | refine stn ?_ | (with_reducible refine ⟨_, hix, ?_⟩) | (refine stp' ?_; intro K hK) | refine stq ?_ | fail)
   all_goals (first | exact nn | refine fin0 ?_)
   all_goals (simp only [atV, hp, d1, d2, d3, d4, zb, cT, cF]; rfl)
  ·have e0 : decide ((0 : Int) ≤ (n : Int)) = true := by simp
   have e1 : decide ((n : Int) < (vs.length : Int)) = false := by simp; omega
   refine PCB.ob Tryz.func44 Tryz.ntmps44 Tryz.results44 ?_
   repeat' (first | (with_reducible refine AWP.refer (id := 1) 4 (by with_unfolding_all rfl) (by with_unfolding_all rfl) (by with_unfolding_all rfl) (by simp only [go_sem, D, E, H, J, N, O, U, reduceCtorEq, V, W, Y, Z, zL, encG_eq g, d1, d2, d3, d4, hp, e0, e1, lB]) (by simp only [go_sem, D, E, H, J, N, O, U, reduceCtorEq, V, W, Y, Z, zL, encG_eq g, d1, d2, d3, d4, hp, e0, e1, lB]) ?_) | (with_reducible refine AWP.refer (id := 1) 5 (by with_unfolding_all rfl) (by with_unfolding_all rfl) (by with_unfolding_all rfl) (by simp only [go_sem, D, E, H, J, N, O, U, reduceCtorEq, V, W, Y, Z, zL, encG_eq g, d1, d2, d3, d4, hp, e0, e1, lB]) (by simp only [go_sem, D, E, H, J, N, O, U, reduceCtorEq, V, W, Y, Z, zL, encG_eq g, d1, d2, d3, d4, hp, e0, e1, lB]) ?_) | (with_reducible refine AWP.refer (id := 2) 7 (by with_unfolding_all rfl) (by with_unfolding_all rfl) (by with_unfolding_all rfl) (by simp only [go_sem, D, E, H, J, N, O, U, reduceCtorEq, V, W, Y, Z, zL, encG_eq g, d1, d2, d3, d4, hp, e0, e1, lB]) (by simp only [go_sem, D, E, H, J, N, O, U, reduceCtorEq, V, W, Y, Z, zL, encG_eq g, d1, d2, d3, d4, hp, e0, e1, lB]) ?_) | (simp only [go_sem, D, E, H, J, N, O, U, reduceCtorEq, V, W, Y, Z, zL, encG_eq g, d1, d2, d3, d4, hp, e0, e1, lB] <;> refine nf ?_) | (refine stp ?_; intro K hK) | (apply hK; clear hK K) | refine stn ?_ | (with_reducible refine ⟨_, hix, ?_⟩) | (refine stp' ?_; intro K hK) | refine stq ?_ | fail)
   all_goals (first | exact nn | refine fin0 ?_)
   all_goals (simp only [atV, hp, e0, e1, d1, d2, d3, d4, zb, cT, cF])
  ·obtain ⟨v, hv, hv', e1, _⟩ := at_lt (enc := encVal) h2
   have e0 : decide ((0 : Int) ≤ (n : Int)) = true := by simp
   have hval := validate_c v (hvs v (lP hv))
   have hts := tested_c g v ht
   rw [show Gt g = T.st (encG g) from rfl, encG_eq] at hts
   cases hz : treeB v <;> rw [hz] at hval
   iterate 2
    ·
     refine PCB.ob Tryz.func44 Tryz.ntmps44 Tryz.results44 ?_
     repeat' (first | (with_reducible refine AWP.refer (id := 1) 4 (by with_unfolding_all rfl) (by with_unfolding_all rfl) (by with_unfolding_all rfl) (by simp only [go_sem, D, E, H, J, N, O, U, reduceCtorEq, V, W, Y, Z, zL, encG_eq g, d1, d2, d3, d4, hp, e0, e1, lB]) (by simp only [go_sem, D, E, H, J, N, O, U, reduceCtorEq, V, W, Y, Z, zL, encG_eq g, d1, d2, d3, d4, hp, e0, e1, lB]) ?_) | (with_reducible refine AWP.refer (id := 1) 5 (by with_unfolding_all rfl) (by with_unfolding_all rfl) (by with_unfolding_all rfl) (by simp only [go_sem, D, E, H, J, N, O, U, reduceCtorEq, V, W, Y, Z, zL, encG_eq g, d1, d2, d3, d4, hp, e0, e1, lB]) (by simp only [go_sem, D, E, H, J, N, O, U, reduceCtorEq, V, W, Y, Z, zL, encG_eq g, d1, d2, d3, d4, hp, e0, e1, lB]) ?_) | (with_reducible refine AWP.refer (id := 2) 7 (by with_unfolding_all rfl) (by with_unfolding_all rfl) (by with_unfolding_all rfl) (by simp only [go_sem, D, E, H, J, N, O, U, reduceCtorEq, V, W, Y, Z, zL, encG_eq g, d1, d2, d3, d4, hp, e0, e1, lB]) (by simp only [go_sem, D, E, H, J, N, O, U, reduceCtorEq, V, W, Y, Z, zL, encG_eq g, d1, d2, d3, d4, hp, e0, e1, lB]) ?_) | (simp only [go_sem, D, E, H, J, N, O, U, reduceCtorEq, V, W, Y, Z, zL, encG_eq g, d1, d2, d3, d4, hp, e0, e1, lB] <;> refine nf ?_) | (refine stp ?_; intro K hK) | (apply hK; clear hK K) | refine stn ?_ | (with_reducible first | refine ⟨_, hix, ?_⟩ | refine ⟨_, hval, ?_⟩ | refine ⟨_, hts, ?_⟩ | refine ⟨by omega, encVal v, hv', ?_⟩) | (refine stp' ?_; intro K hK) | refine stq ?_ | fail)
     all_goals (first | exact nn | refine fin0 ?_)
     all_goals (simp only [atV, hp, e0, e1, d1, d2, d3, d4, hz, hv, Int.toNat_natCast, zb, cT, cF])
termination_by cntG g
decreasing_by exact cnt_kid hk
end Go.Proofs.YtajfdbdklphonaaGreat
set_option maxRecDepth 20000
set_option maxHeartbeats 16000000
namespace Go.Proofs.YtajfdbdklphonaaGreat
open Go Go.Sx
end Go.Proofs.YtajfdbdklphonaaGreat