/- Lemmas; conditions: as each states. -/
import Derived.Test.YtajfdbdklphonaaGreatDm12
open Go.Proofs.Tryz renaming prog → zP
open List renaming length_map → lB, take_length → lK, mem_of_getElem? → lP
open Go.Sx.AWP renaming range → xC, lenB → xE
open Nat renaming reduceBEq → D, reduceBNe → E, reduceAdd → H, reduceSub → J, reduceMul → N, reduceLeDiff → O, reduceLT → U, reduceEqDiff → V
open Int renaming reduceToNat → W, reduceLE → Y, reduceLT → Z, reduceEq → zL
open Bool renaming not_eq_true' → zM, not_eq_false' → zN
set_option linter.unusedVariables false
set_option linter.unusedSimpArgs false
set_option maxRecDepth 20000
set_option maxHeartbeats 16000000
namespace Go.Proofs.YtajfdbdklphonaaGreat
open Go Go.Sx
set_option maxHeartbeats 64000000 in
theorem goodP_9 (g : Pat) (ih : ∀ k ∈ g.kids, PC zP 89 [Pt k] (Bo (treeP k))) (hk : g.kind = 9) : PC zP 89 [Pt g] (Bo (treeP g)) := by
 have htr := treeP_eq g
 have hz0 : decide ((0 : Int) < (g.kids.length : Int)) = !decide ((g.kids.length : Int) = 0) := by rw [← Bool.coe_iff_coe]; simp only [decide_eq_true_eq, Bool.not_eq_true', decide_eq_false_iff_not]; omega
 have hle : decide ((g.kids.length : Int) ≤ 8) = !decide ((8 : Int) < (g.kids.length : Int)) := by rw [← Bool.coe_iff_coe]; simp
 have heq : decide ((g.kids.length : Int) = (g.keys.length : Int)) = decide ((g.keys.length : Int) = (g.kids.length : Int)) := by rw [← Bool.coe_iff_coe]; simp only [decide_eq_true_eq]; omega
 cases e1 : decide ((g.keys.length : Int) = (g.kids.length : Int)) <;> cases e2 : decide ((8 : Int) < (g.kids.length : Int))
 all_goals
  rw [e1] at heq
  rw [e2] at hle
 case true.false =>
  have e3 : decide ((8 : Int) < (g.keys.length : Int)) = false := by simp only [decide_eq_true_eq, decide_eq_false_iff_not] at *; omega
  refine PCB.ob Tryz.func89 Tryz.ntmps89 Tryz.results89 ?_
  repeat' (first | (with_reducible refine AWP.join (id := 6) (fun b : Bool => [(5, Bo b)]) (fun _ => []) [1, 3] [1] (fun b => Is (vP g) b) ?_ ?_) | (simp only [go_sem, D, E, H, J, N, O, U, reduceCtorEq, V, W, Y, Z, zL, encP_eq g, hk, heq, hle, lB] <;> refine nf ?_) | (refine stp ?_; intro K hK) | (apply hK; clear hK K) | refine stn ?_ | (refine ⟨fun h => ?_, fun h => ?_⟩ <;> (try simp only [zM, zN] at h) <;> try simp only [h]) | (clear hK K))
  any_goals (refine fin0 ?_; rw [htr]; simp only [vP, badP, bodyP, numP, textP, kidsP, keysP, mapP, hk, hz0, Int.reduceEq, Int.reduceLE, *, zb, Bool.not_not, cT, cF, dT, dF]; done)
  ·
   refine xE 1 4 rfl rfl fun hlen0 => ?_
   (try rw [lB] at hlen0)
   refine xC (S := Bool) (g.keys) encKey (fun k s => (6, I .i64 (k : Nat)) :: [(5, Bo s)]) (fun k s => []) [1, 3] [1] (fun k s => Is s (true && goB keyC validKeyB none (g.keys.take k))) (true) (by simp only [go_sem, D, E, H, J, N, O, U, reduceCtorEq, V, W, Y, Z, zL, encP_eq]; exact Gh.ts []) ?_ ?_ ?_
   ·simp [Is, goB]
   ·intro k s x hlt hx hx' hb hok
    refine st ?_
    cases s
    ·
     repeat' (first | (simp only [go_sem, D, E, H, J, N, O, U, reduceCtorEq, V, W, Y, Z, zL, encP_eq g, lB, hb] <;> refine nf ?_) | (refine stp ?_; intro K hK) | (apply hK; clear hK K) | refine stn ?_ | (refine stp' ?_; intro K hK) | fail)
     all_goals (rw [wrap_succ hlt hlen0])
     all_goals (refine ⟨false, ?_, Gh.ts []⟩)
     all_goals
      rcases Nat.eq_zero_or_eq_succ_pred k with hk0 | hk0
      ·first | (show (_ : Bool) = _; rfl) | (exfalso; revert hok; simp [Is]; done) | (unfold Is at hok ⊢; rw [goB_take0 hk0 hx]; generalize goB keyC validKeyB none (g.keys.take k) = G at hok ⊢; revert hok; cases G <;> simp)
      ·obtain ⟨j, rfl⟩ : ∃ j, k = j + 1 := ⟨_, hk0⟩
       obtain ⟨y, hy, _, _, _⟩ := at_lt (enc := encKey) (show j < g.keys.length by omega)
       first | (show (_ : Bool) = _; rfl) | (exfalso; revert hok; simp [Is]; done) | (unfold Is at hok ⊢; rw [goB_takeS hy hx]; generalize goB keyC validKeyB none (g.keys.take (j + 1)) = G at hok ⊢; revert hok; cases G <;> simp)
    ·
     rcases Nat.eq_zero_or_eq_succ_pred k with hk0 | hk0
     ·have hp0 : decide ((k : Int) = 0) = true := by rw [hk0]; rfl
      cases hz : validKeyB x
      all_goals
       repeat' (first | (simp only [go_sem, D, E, H, J, N, O, U, reduceCtorEq, V, W, Y, Z, zL, encP_eq g, lB, hb, hz, hp0] <;> refine nf ?_) | (refine stp ?_; intro K hK) | (apply hK; clear hK K) | refine stn ?_ | (with_reducible first | refine ⟨_, validKey_c x, ?_⟩ | refine ⟨by omega, encKey x, hx', ?_⟩) | (refine stp' ?_; intro K hK) | fail)
      ·
       all_goals (rw [wrap_succ hlt hlen0])
       all_goals (refine ⟨false, ?_, Gh.ts []⟩)
       all_goals first | (show (_ : Bool) = _; rfl) | (exfalso; revert hok; simp [Is]; done) | (unfold Is at hok ⊢; rw [goB_take0 hk0 hx]; generalize goB keyC validKeyB none (g.keys.take k) = G at hok ⊢; rw [hz]; revert hok; cases G <;> simp)
      ·
       all_goals (rw [wrap_succ hlt hlen0])
       all_goals (refine ⟨true, ?_, Gh.ts []⟩)
       all_goals first | (show (_ : Bool) = _; rfl) | (exfalso; revert hok; simp [Is]; done) | (unfold Is at hok ⊢; rw [goB_take0 hk0 hx]; generalize goB keyC validKeyB none (g.keys.take k) = G at hok ⊢; rw [hz]; revert hok; cases G <;> simp)
     ·obtain ⟨j, rfl⟩ : ∃ j, k = j + 1 := ⟨_, hk0⟩
      obtain ⟨y, hy, hy', _, _⟩ := at_lt (enc := encKey) (show j < g.keys.length by omega)
      have hw : IntKind.i64.wrap (((j + 1 : Nat) : Int) - 1) = (j : Int) := by rw [w64 (by omega)]; omega
      have hp0 : decide (((j + 1 : Nat) : Int) = 0) = false := by simp only [decide_eq_false_iff_not]; omega
      cases hz : validKeyB x <;> cases hc : decide (keyC y x < 0)
      all_goals
       repeat' (first | (simp only [go_sem, D, E, H, J, N, O, U, reduceCtorEq, V, W, Y, Z, zL, encP_eq g, lB, hb, hz, hc, hp0, hw] <;> refine nf ?_) | (refine stp ?_; intro K hK) | (apply hK; clear hK K) | refine stn ?_ | (with_reducible first | refine ⟨_, validKey_c x, ?_⟩ | refine ⟨_, refKeys_c y x, ?_⟩ | refine ⟨by omega, encKey x, hx', ?_⟩ | refine ⟨by omega, encKey y, hy', ?_⟩) | (refine stp' ?_; intro K hK) | fail)
      iterate 3
       ·
        all_goals (rw [wrap_succ hlt hlen0])
        all_goals (refine ⟨false, ?_, Gh.ts []⟩)
        all_goals first | (show (_ : Bool) = _; rfl) | (exfalso; revert hok; simp [Is]; done) | (unfold Is at hok ⊢; rw [goB_takeS hy hx]; generalize goB keyC validKeyB none (g.keys.take (j + 1)) = G at hok ⊢; rw [hz, hc]; revert hok; cases G <;> simp)
      ·
       all_goals (rw [wrap_succ hlt hlen0])
       all_goals (refine ⟨true, ?_, Gh.ts []⟩)
       all_goals first | (show (_ : Bool) = _; rfl) | (exfalso; revert hok; simp [Is]; done) | (unfold Is at hok ⊢; rw [goB_takeS hy hx]; generalize goB keyC validKeyB none (g.keys.take (j + 1)) = G at hok ⊢; rw [hz, hc]; revert hok; cases G <;> simp)
   ·intro s hb hok
    refine st ?_
    rw [Is, lK] at hok
    repeat' (first | (simp only [go_sem, D, E, H, J, N, O, U, reduceCtorEq, V, W, Y, Z, zL, encP_eq g, lB, hb] <;> refine nf ?_) | (refine stp ?_; intro K hK) | (apply hK; clear hK K) | refine stn ?_ | (clear hK K))
    refine ⟨_, ?_, Gh.ts []⟩
    show vP g = s
    rw [show s = _ from hok]
    simp only [vP, badP, bodyP, numP, textP, kidsP, keysP, mapP, hk, hz0, Int.reduceEq, Int.reduceLE, *, zb, Bool.not_not, cT, cF, dT, dF]
  ·
   intro b hvb
   try simp only [go_sem, D, E, H, J, N, O, U, reduceCtorEq, V, W, Y, Z, zL]
   repeat' (first | (simp only [go_sem, D, E, H, J, N, O, U, reduceCtorEq, V, W, Y, Z, zL, encP_eq g, lB] <;> refine nf ?_) | (refine stp ?_; intro K hK) | (apply hK; clear hK K) | refine stn ?_ | fail)
   refine xE 1 3 rfl rfl fun hlen1 => ?_
   (try rw [lB] at hlen1)
   refine xC (S := Bool) (g.kids) encP (fun k s => (7, I .i64 (k : Nat)) :: [(5, Bo s)]) (fun k s => []) [1, 3] [1] (fun k s => Is s (b && (g.kids.take k).all treeP)) (b) (by simp only [go_sem, D, E, H, J, N, O, U, reduceCtorEq, V, W, Y, Z, zL, encP_eq]; exact Gh.ts []) ?_ ?_ ?_
   ·simp [Is]
   ·intro k s x hlt hx hx' hb hok
    refine st ?_
    have hix := ih x (lP hx)
    have hat := all_takeP (p := treeP) hx
    cases s
    ·
     repeat' (first | (simp only [go_sem, D, E, H, J, N, O, U, reduceCtorEq, V, W, Y, Z, zL, encP_eq g, lB, hb] <;> refine nf ?_) | (refine stp ?_; intro K hK) | (apply hK; clear hK K) | refine stn ?_ | (clear hK K))
     all_goals (rw [wrap_succ hlt hlen1])
     all_goals (refine ⟨false, ?_, Gh.ts []⟩)
     all_goals (show false = _; rw [hat, ← Bool.and_assoc, ← show false = _ from hok]; rfl)
    ·
     repeat' (first | (simp only [go_sem, D, E, H, J, N, O, U, reduceCtorEq, V, W, Y, Z, zL, encP_eq g, lB, hb] <;> refine nf ?_) | (refine stp ?_; intro K hK) | (apply hK; clear hK K) | refine stn ?_ | (with_reducible first | refine ⟨_, hix, ?_⟩ | refine ⟨by omega, encP x, hx', ?_⟩) | refine stq ?_ | (clear hK K))
     all_goals (rw [wrap_succ hlt hlen1])
     all_goals (refine ⟨treeP x, ?_, Gh.ts []⟩)
     all_goals (show treeP x = _; rw [hat, ← Bool.and_assoc, ← show true = _ from hok]; rfl)
   ·intro s hb hok
    refine st ?_
    rw [Is, lK] at hok
    repeat' (first | (simp only [go_sem, D, E, H, J, N, O, U, reduceCtorEq, V, W, Y, Z, zL, encP_eq g, lB, hb] <;> refine nf ?_) | (refine stp ?_; intro K hK) | (apply hK; clear hK K) | refine stn ?_ | (clear hK K))
    all_goals (refine fin0 ?_; rw [htr, show vP g = b from hvb, show s = _ from hok])
 iterate 3
  ·
   first | have e3 : decide ((8 : Int) < (g.keys.length : Int)) = true := by (simp only [decide_eq_true_eq] at *; omega) | skip
   refine PCB.ob Tryz.func89 Tryz.ntmps89 Tryz.results89 ?_
   repeat' (first | (with_reducible refine AWP.join (id := 6) (fun b : Bool => [(5, Bo b)]) (fun _ => []) [1, 3] [1] (fun b => Is (vP g) b) ?_ ?_) | (simp only [go_sem, D, E, H, J, N, O, U, reduceCtorEq, V, W, Y, Z, zL, encP_eq g, hk, heq, hle, lB] <;> refine nf ?_) | (refine stp ?_; intro K hK) | (apply hK; clear hK K) | refine stn ?_ | (refine ⟨fun h => ?_, fun h => ?_⟩ <;> (try simp only [zM, zN] at h) <;> try simp only [h]) | (clear hK K))
   any_goals (refine fin0 ?_; rw [htr]; simp only [vP, badP, bodyP, numP, textP, kidsP, keysP, mapP, hk, hz0, Int.reduceEq, Int.reduceLE, *, zb, Bool.not_not, cT, cF, dT, dF]; done)
   ·
    refine xE 1 4 rfl rfl fun hlen0 => ?_
    (try rw [lB] at hlen0)
    refine xC (S := Bool) (g.keys) encKey (fun k s => (6, I .i64 (k : Nat)) :: [(5, Bo s)]) (fun k s => []) [1, 3] [1] (fun k s => Is s (false && goB keyC validKeyB none (g.keys.take k))) (false) (by simp only [go_sem, D, E, H, J, N, O, U, reduceCtorEq, V, W, Y, Z, zL, encP_eq]; exact Gh.ts []) ?_ ?_ ?_
    ·simp [Is, goB]
    ·intro k s x hlt hx hx' hb hok
     refine st ?_
     cases s
     ·
      repeat' (first | (simp only [go_sem, D, E, H, J, N, O, U, reduceCtorEq, V, W, Y, Z, zL, encP_eq g, lB, hb] <;> refine nf ?_) | (refine stp ?_; intro K hK) | (apply hK; clear hK K) | refine stn ?_ | (refine stp' ?_; intro K hK) | fail)
      all_goals (rw [wrap_succ hlt hlen0])
      all_goals (refine ⟨false, ?_, Gh.ts []⟩)
      all_goals
       rcases Nat.eq_zero_or_eq_succ_pred k with hk0 | hk0
       ·first | (show (_ : Bool) = _; rfl) | (exfalso; revert hok; simp [Is]; done) | (unfold Is at hok ⊢; rw [goB_take0 hk0 hx]; generalize goB keyC validKeyB none (g.keys.take k) = G at hok ⊢; revert hok; cases G <;> simp)
       ·obtain ⟨j, rfl⟩ : ∃ j, k = j + 1 := ⟨_, hk0⟩
        obtain ⟨y, hy, _, _, _⟩ := at_lt (enc := encKey) (show j < g.keys.length by omega)
        first | (show (_ : Bool) = _; rfl) | (exfalso; revert hok; simp [Is]; done) | (unfold Is at hok ⊢; rw [goB_takeS hy hx]; generalize goB keyC validKeyB none (g.keys.take (j + 1)) = G at hok ⊢; revert hok; cases G <;> simp)
     ·
      rcases Nat.eq_zero_or_eq_succ_pred k with hk0 | hk0
      ·have hp0 : decide ((k : Int) = 0) = true := by rw [hk0]; rfl
       cases hz : validKeyB x
       all_goals
        repeat' (first | (simp only [go_sem, D, E, H, J, N, O, U, reduceCtorEq, V, W, Y, Z, zL, encP_eq g, lB, hb, hz, hp0] <;> refine nf ?_) | (refine stp ?_; intro K hK) | (apply hK; clear hK K) | refine stn ?_ | (with_reducible first | refine ⟨_, validKey_c x, ?_⟩ | refine ⟨by omega, encKey x, hx', ?_⟩) | (refine stp' ?_; intro K hK) | fail)
       ·
        all_goals (rw [wrap_succ hlt hlen0])
        all_goals (refine ⟨false, ?_, Gh.ts []⟩)
        all_goals first | (show (_ : Bool) = _; rfl) | (exfalso; revert hok; simp [Is]; done) | (unfold Is at hok ⊢; rw [goB_take0 hk0 hx]; generalize goB keyC validKeyB none (g.keys.take k) = G at hok ⊢; rw [hz]; revert hok; cases G <;> simp)
       ·
        all_goals (rw [wrap_succ hlt hlen0])
        all_goals (refine ⟨true, ?_, Gh.ts []⟩)
        all_goals first | (show (_ : Bool) = _; rfl) | (exfalso; revert hok; simp [Is]; done) | (unfold Is at hok ⊢; rw [goB_take0 hk0 hx]; generalize goB keyC validKeyB none (g.keys.take k) = G at hok ⊢; rw [hz]; revert hok; cases G <;> simp)
      ·obtain ⟨j, rfl⟩ : ∃ j, k = j + 1 := ⟨_, hk0⟩
       obtain ⟨y, hy, hy', _, _⟩ := at_lt (enc := encKey) (show j < g.keys.length by omega)
       have hw : IntKind.i64.wrap (((j + 1 : Nat) : Int) - 1) = (j : Int) := by rw [w64 (by omega)]; omega
       have hp0 : decide (((j + 1 : Nat) : Int) = 0) = false := by simp only [decide_eq_false_iff_not]; omega
       cases hz : validKeyB x <;> cases hc : decide (keyC y x < 0)
       all_goals
        repeat' (first | (simp only [go_sem, D, E, H, J, N, O, U, reduceCtorEq, V, W, Y, Z, zL, encP_eq g, lB, hb, hz, hc, hp0, hw] <;> refine nf ?_) | (refine stp ?_; intro K hK) | (apply hK; clear hK K) | refine stn ?_ | (with_reducible first | refine ⟨_, validKey_c x, ?_⟩ | refine ⟨_, refKeys_c y x, ?_⟩ | refine ⟨by omega, encKey x, hx', ?_⟩ | refine ⟨by omega, encKey y, hy', ?_⟩) | (refine stp' ?_; intro K hK) | fail)
       iterate 3
        ·
         all_goals (rw [wrap_succ hlt hlen0])
         all_goals (refine ⟨false, ?_, Gh.ts []⟩)
         all_goals first | (show (_ : Bool) = _; rfl) | (exfalso; revert hok; simp [Is]; done) | (unfold Is at hok ⊢; rw [goB_takeS hy hx]; generalize goB keyC validKeyB none (g.keys.take (j + 1)) = G at hok ⊢; rw [hz, hc]; revert hok; cases G <;> simp)
       ·
        all_goals (rw [wrap_succ hlt hlen0])
        all_goals (refine ⟨true, ?_, Gh.ts []⟩)
        all_goals first | (show (_ : Bool) = _; rfl) | (exfalso; revert hok; simp [Is]; done) | (unfold Is at hok ⊢; rw [goB_takeS hy hx]; generalize goB keyC validKeyB none (g.keys.take (j + 1)) = G at hok ⊢; rw [hz, hc]; revert hok; cases G <;> simp)
    ·intro s hb hok
     refine st ?_
     rw [Is, lK] at hok
     repeat' (first | (simp only [go_sem, D, E, H, J, N, O, U, reduceCtorEq, V, W, Y, Z, zL, encP_eq g, lB, hb] <;> refine nf ?_) | (refine stp ?_; intro K hK) | (apply hK; clear hK K) | refine stn ?_ | (clear hK K))
     refine ⟨_, ?_, Gh.ts []⟩
     show vP g = s
     rw [show s = _ from hok]
     simp only [vP, badP, bodyP, numP, textP, kidsP, keysP, mapP, hk, hz0, Int.reduceEq, Int.reduceLE, *, zb, Bool.not_not, cT, cF, dT, dF]
   ·
    intro b hvb
    try simp only [go_sem, D, E, H, J, N, O, U, reduceCtorEq, V, W, Y, Z, zL]
    repeat' (first | (simp only [go_sem, D, E, H, J, N, O, U, reduceCtorEq, V, W, Y, Z, zL, encP_eq g, lB] <;> refine nf ?_) | (refine stp ?_; intro K hK) | (apply hK; clear hK K) | refine stn ?_ | fail)
    refine xE 1 3 rfl rfl fun hlen1 => ?_
    (try rw [lB] at hlen1)
    refine xC (S := Bool) (g.kids) encP (fun k s => (7, I .i64 (k : Nat)) :: [(5, Bo s)]) (fun k s => []) [1, 3] [1] (fun k s => Is s (b && (g.kids.take k).all treeP)) (b) (by simp only [go_sem, D, E, H, J, N, O, U, reduceCtorEq, V, W, Y, Z, zL, encP_eq]; exact Gh.ts []) ?_ ?_ ?_
    ·simp [Is]
    ·intro k s x hlt hx hx' hb hok
     refine st ?_
     have hix := ih x (lP hx)
     have hat := all_takeP (p := treeP) hx
     cases s
     ·
      repeat' (first | (simp only [go_sem, D, E, H, J, N, O, U, reduceCtorEq, V, W, Y, Z, zL, encP_eq g, lB, hb] <;> refine nf ?_) | (refine stp ?_; intro K hK) | (apply hK; clear hK K) | refine stn ?_ | (clear hK K))
      all_goals (rw [wrap_succ hlt hlen1])
      all_goals (refine ⟨false, ?_, Gh.ts []⟩)
      all_goals (show false = _; rw [hat, ← Bool.and_assoc, ← show false = _ from hok]; rfl)
     ·
      repeat' (first | (simp only [go_sem, D, E, H, J, N, O, U, reduceCtorEq, V, W, Y, Z, zL, encP_eq g, lB, hb] <;> refine nf ?_) | (refine stp ?_; intro K hK) | (apply hK; clear hK K) | refine stn ?_ | (with_reducible first | refine ⟨_, hix, ?_⟩ | refine ⟨by omega, encP x, hx', ?_⟩) | refine stq ?_ | (clear hK K))
      all_goals (rw [wrap_succ hlt hlen1])
      all_goals (refine ⟨treeP x, ?_, Gh.ts []⟩)
      all_goals (show treeP x = _; rw [hat, ← Bool.and_assoc, ← show true = _ from hok]; rfl)
    ·intro s hb hok
     refine st ?_
     rw [Is, lK] at hok
     repeat' (first | (simp only [go_sem, D, E, H, J, N, O, U, reduceCtorEq, V, W, Y, Z, zL, encP_eq g, lB, hb] <;> refine nf ?_) | (refine stp ?_; intro K hK) | (apply hK; clear hK K) | refine stn ?_ | (clear hK K))
     all_goals (refine fin0 ?_; rw [htr, show vP g = b from hvb, show s = _ from hok])
theorem goodP_o (g : Pat) (ih : ∀ k ∈ g.kids, PC zP 89 [Pt k] (Bo (treeP k))) (g1 : decide (g.kind = 1) = false) (g2 : decide (g.kind = 2) = false) (g3 : decide (g.kind = 3) = false) (g4 : decide (g.kind = 4) = false) (g5 : decide (g.kind = 5) = false) (g6 : decide (g.kind = 6) = false) (g7 : decide (g.kind = 7) = false) (g8 : decide (g.kind = 8) = false) (g9 : decide (g.kind = 9) = false) (g10 : decide (g.kind = 10) = false) : PC zP 89 [Pt g] (Bo (treeP g)) := by
 have htr := treeP_eq g
 have hz0 : decide ((0 : Int) < (g.kids.length : Int)) = !decide ((g.kids.length : Int) = 0) := by rw [← Bool.coe_iff_coe]; simp only [decide_eq_true_eq, Bool.not_eq_true', decide_eq_false_iff_not]; omega
 refine PCB.ob Tryz.func89 Tryz.ntmps89 Tryz.results89 ?_
 repeat' (first | (with_reducible refine AWP.join (id := 6) (fun b : Bool => [(5, Bo b)]) (fun _ => []) [1, 3] [1] (fun b => Is (vP g) b) ?_ ?_) | (simp only [go_sem, D, E, H, J, N, O, U, reduceCtorEq, V, W, Y, Z, zL, encP_eq g, g1, g2, g3, g4, g5, g6, g7, g8, g9, g10, lB] <;> refine nf ?_) | (refine stp ?_; intro K hK) | (apply hK; clear hK K) | refine stn ?_ | (refine AWP.cnd ?_ ?_ <;> intro h <;> (try simp only [zM, zN] at h)) | (refine ⟨fun h => ?_, fun h => ?_⟩ <;> (try simp only [zM, zN] at h) <;> try simp only [h]) | (clear hK K))
 any_goals (refine fin0 ?_; rw [htr]; simp only [vP, badP, bodyP, numP, textP, kidsP, keysP, g1, g2, g3, g4, g5, g6, g7, g8, g9, g10, hz0, Int.reduceEq, Int.reduceLE, *, zb, Bool.not_not, cT, cF, dT, dF]; done)
 any_goals (refine ⟨_, ?_, Gh.ts []⟩; unfold Is; simp only [vP, badP, bodyP, numP, textP, kidsP, keysP, g1, g2, g3, g4, g5, g6, g7, g8, g9, g10, hz0, Int.reduceEq, Int.reduceLE, *, zb, Bool.not_not, cT, cF, dT, dF]; done)
 intro b hvb
 try simp only [go_sem, D, E, H, J, N, O, U, reduceCtorEq, V, W, Y, Z, zL]
 repeat' (first | (simp only [go_sem, D, E, H, J, N, O, U, reduceCtorEq, V, W, Y, Z, zL, encP_eq g, lB] <;> refine nf ?_) | (refine stp ?_; intro K hK) | (apply hK; clear hK K) | refine stn ?_ | fail)
 refine xE 1 3 rfl rfl fun hlen1 => ?_
 (try rw [lB] at hlen1)
 refine xC (S := Bool) (g.kids) encP (fun k s => (7, I .i64 (k : Nat)) :: [(5, Bo s)]) (fun k s => []) [1, 3] [1] (fun k s => Is s (b && (g.kids.take k).all treeP)) (b) (by simp only [go_sem, D, E, H, J, N, O, U, reduceCtorEq, V, W, Y, Z, zL, encP_eq]; exact Gh.ts []) ?_ ?_ ?_
 ·simp [Is]
 ·intro k s x hlt hx hx' hb hok
  refine st ?_
  have hix := ih x (lP hx)
  have hat := all_takeP (p := treeP) hx
  cases s
  ·
   repeat' (first | (simp only [go_sem, D, E, H, J, N, O, U, reduceCtorEq, V, W, Y, Z, zL, encP_eq g, lB, hb] <;> refine nf ?_) | (refine stp ?_; intro K hK) | (apply hK; clear hK K) | refine stn ?_ | (clear hK K))
   all_goals (rw [wrap_succ hlt hlen1])
   all_goals (refine ⟨false, ?_, Gh.ts []⟩)
   all_goals (show false = _; rw [hat, ← Bool.and_assoc, ← show false = _ from hok]; rfl)
  ·
   repeat' (first | (simp only [go_sem, D, E, H, J, N, O, U, reduceCtorEq, V, W, Y, Z, zL, encP_eq g, lB, hb] <;> refine nf ?_) | (refine stp ?_; intro K hK) | (apply hK; clear hK K) | refine stn ?_ | (with_reducible first | refine ⟨_, hix, ?_⟩ | refine ⟨by omega, encP x, hx', ?_⟩) | refine stq ?_ | (clear hK K))
   all_goals (rw [wrap_succ hlt hlen1])
   all_goals (refine ⟨treeP x, ?_, Gh.ts []⟩)
   all_goals (show treeP x = _; rw [hat, ← Bool.and_assoc, ← show true = _ from hok]; rfl)
 ·intro s hb hok
  refine st ?_
  rw [Is, lK] at hok
  repeat' (first | (simp only [go_sem, D, E, H, J, N, O, U, reduceCtorEq, V, W, Y, Z, zL, encP_eq g, lB, hb] <;> refine nf ?_) | (refine stp ?_; intro K hK) | (apply hK; clear hK K) | refine stn ?_ | (clear hK K))
  all_goals (refine fin0 ?_; rw [htr, show vP g = b from hvb, show s = _ from hok])
end Go.Proofs.YtajfdbdklphonaaGreat
set_option maxRecDepth 20000
set_option maxHeartbeats 16000000
namespace Go.Proofs.YtajfdbdklphonaaGreat
open Go Go.Sx
theorem goodPattern_c (g : Pat) : PC zP 89 [Pt g] (Bo (treeP g)) := by
 have ih : ∀ k ∈ g.kids, PC zP 89 [Pt k] (Bo (treeP k)) := fun k hk => goodPattern_c k
 rcases pkinds g.kind with hk | hk | hk | hk | hk | hk | hk | hk | hk | hk | ⟨g1, g2, g3, g4, g5, g6, g7, g8, g9, g10⟩
 all_goals first
  | exact goodP_a g ih (by omega)
  | exact goodP_b g ih (by omega)
  | exact goodP_9 g ih (by omega)
  | exact goodP_o g ih g1 g2 g3 g4 g5 g6 g7 g8 g9 g10
termination_by cntP g
decreasing_by all_goals exact cntP_kid hk
end Go.Proofs.YtajfdbdklphonaaGreat
