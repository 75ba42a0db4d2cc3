/- Lemmas; conditions: as each states. -/
import Derived.Test.YtajfdbdklphonaaGreatDm13bq
import Derived.Test.YtajfdbdklphonaaGreatDm13br
import Derived.Test.YtajfdbdklphonaaGreatDm13b
import Derived.Test.YtajfdbdklphonaaGreatDm13q
open Go.Proofs.Tryz renaming prog → zP
open List renaming length_map → lB, take_length → lK, drop_length → lL, mem_of_getElem? → lP
open Go.Sx.AWP renaming range → xC, lenB → xE
open Nat renaming reduceBEq → D, reduceBNe → E, reduceAdd → H, reduceSub → J, reduceMul → N, reduceLeDiff → O, reduceLT → U, reduceEqDiff → V
open Int renaming reduceToNat → W, reduceLE → Y, reduceLT → Z, reduceEq → zL
open Bool renaming not_eq_true' → zM, not_eq_false' → zN
set_option linter.unusedVariables false
set_option linter.unusedSimpArgs false
set_option maxRecDepth 20000
set_option maxHeartbeats 16000000
namespace Go.Proofs.YtajfdbdklphonaaGreat
open Go Go.Sx
set_option maxHeartbeats 64000000 in
theorem good_e (g : Grd) (ih : ∀ k ∈ g.kids, PC zP 128 [Gt k] (Bo (treeG k))) (hiv : isVarB g.name = true) (hk : g.kind = 11 ∨ g.kind = 12 ∨ g.kind = 13 ∨ g.kind = 14 ∨ g.kind = 15 ∨ g.kind = 16 ∨ g.kind = 17) : PC zP 128 [Gt g] (Bo (treeG g)) := by
 have htr := treeG_eq g
 have hz0 : decide ((0 : Int) < (g.kids.length : Int)) = !decide ((g.kids.length : Int) = 0) := by rw [← Bool.coe_iff_coe]; simp only [decide_eq_true_eq, Bool.not_eq_true', decide_eq_false_iff_not]; omega
 have hne := var_ne2 hiv
 rcases hk with hk | hk | hk | hk | hk | hk | hk
 iterate 7
  ·
   refine PCB.ob Tryz.func128 Tryz.ntmps128 Tryz.results128 ?_
   repeat' (first | (with_reducible refine AWP.join (id := 8) (fun b : Bool => [(7, Bo b)]) (fun _ => []) [1, 3] [1] (fun b => Is (vG g) b) ?_ ?_) | (simp only [go_sem, D, E, H, J, N, O, U, reduceCtorEq, V, W, Y, Z, zL, encG_eq g, hk, hiv, lB] <;> refine nf ?_) | (refine stp ?_; intro K hK) | (apply hK; clear hK K) | refine stn ?_ | (refine AWP.cnd ?_ ?_ <;> intro h <;> (try simp only [zM, zN] at h)) | (refine ⟨fun h => ?_, fun h => ?_⟩ <;> (try simp only [zM, zN] at h) <;> try simp only [h]) | (with_reducible first | refine ⟨_, refIsVariable_c _, ?_⟩ | refine ⟨_, isAtom_c _, ?_⟩ | refine ⟨_, validKey_e _, ?_⟩) | refine stq ?_ | (clear hK K))
   any_goals (refine fin0 ?_; rw [htr]; simp only [vG, badG, bodyG, connG, testG, intG, textG, keyZ, hk, hz0, Int.reduceEq, Int.reduceLE, *, zb, Bool.not_not, cT, cF, dT, dF]; done)
   any_goals (refine ⟨_, ?_, Gh.ts []⟩; unfold Is; simp only [vG, badG, bodyG, connG, testG, intG, textG, keyZ, hk, hz0, Int.reduceEq, Int.reduceLE, *, zb, Bool.not_not, cT, cF, dT, dF]; done)
   intro b hvb
   try simp only [go_sem, D, E, H, J, N, O, U, reduceCtorEq, V, W, Y, Z, zL]
   repeat' (first | (simp only [go_sem, D, E, H, J, N, O, U, reduceCtorEq, V, W, Y, Z, zL, encG_eq g, lB] <;> refine nf ?_) | (refine stp ?_; intro K hK) | (apply hK; clear hK K) | refine stn ?_ | fail)
   refine xE 1 6 rfl rfl fun hlen0 => ?_
   (try rw [lB] at hlen0)
   refine xC (S := Bool) (g.kids) encG (fun k s => (8, I .i64 (k : Nat)) :: [(7, Bo s)]) (fun k s => []) [1, 3] [1] (fun k s => Is s (b && (g.kids.take k).all treeG)) (b) (by simp only [go_sem, D, E, H, J, N, O, U, reduceCtorEq, V, W, Y, Z, zL, encG_eq]; exact Gh.ts []) ?_ ?_ ?_
   ·simp [Is]
   ·intro k s x hlt hx hx' hb hok
    refine st ?_
    have hix := ih x (lP hx)
    have hat := all_take (p := treeG) hx
    cases s
    ·
     repeat' (first | (simp only [go_sem, D, E, H, J, N, O, U, reduceCtorEq, V, W, Y, Z, zL, encG_eq g, lB, hb] <;> refine nf ?_) | (refine stp ?_; intro K hK) | (apply hK; clear hK K) | refine stn ?_ | (clear hK K))
     all_goals (rw [wrap_succ hlt hlen0])
     all_goals (refine ⟨false, ?_, Gh.ts []⟩)
     all_goals (show false = _; rw [hat, ← Bool.and_assoc, ← show false = _ from hok]; rfl)
    ·
     repeat' (first | (simp only [go_sem, D, E, H, J, N, O, U, reduceCtorEq, V, W, Y, Z, zL, encG_eq g, lB, hb] <;> refine nf ?_) | (refine stp ?_; intro K hK) | (apply hK; clear hK K) | refine stn ?_ | (with_reducible first | refine ⟨_, hix, ?_⟩ | refine ⟨by omega, encG x, hx', ?_⟩) | refine stq ?_ | (clear hK K))
     all_goals (rw [wrap_succ hlt hlen0])
     all_goals (refine ⟨treeG x, ?_, Gh.ts []⟩)
     all_goals (show treeG x = _; rw [hat, ← Bool.and_assoc, ← show true = _ from hok]; rfl)
   ·intro s hb hok
    refine st ?_
    rw [Is, lK] at hok
    repeat' (first | (simp only [go_sem, D, E, H, J, N, O, U, reduceCtorEq, V, W, Y, Z, zL, encG_eq g, lB, hb] <;> refine nf ?_) | (refine stp ?_; intro K hK) | (apply hK; clear hK K) | refine stn ?_ | (clear hK K))
    all_goals (refine fin0 ?_; rw [htr, show vG g = b from hvb, show s = _ from hok])
end Go.Proofs.YtajfdbdklphonaaGreat
set_option maxRecDepth 20000
set_option maxHeartbeats 16000000
namespace Go.Proofs.YtajfdbdklphonaaGreat
open Go Go.Sx
set_option maxHeartbeats 64000000 in
theorem good_ofalse (g : Grd) (ih : ∀ k ∈ g.kids, PC zP 128 [Gt k] (Bo (treeG k))) (hiv : isVarB g.name = false) (g1 : decide (g.kind = 1) = false) (g2 : decide (g.kind = 2) = false) (g3 : decide (g.kind = 3) = false) (g4 : decide (g.kind = 4) = false) (g5 : decide (g.kind = 5) = false) (g6 : decide (g.kind = 6) = false) (g7 : decide (g.kind = 7) = false) (g8 : decide (g.kind = 8) = false) (g9 : decide (g.kind = 9) = false) (g10 : decide (g.kind = 10) = false) (g11 : decide (g.kind = 11) = false) (g12 : decide (g.kind = 12) = false) (g13 : decide (g.kind = 13) = false) (g14 : decide (g.kind = 14) = false) (g15 : decide (g.kind = 15) = false) (g16 : decide (g.kind = 16) = false) (g17 : decide (g.kind = 17) = false) (ht : testG g.kind = false) : PC zP 128 [Gt g] (Bo (treeG g)) := by
 have htr := treeG_eq g
 have hz0 : decide ((0 : Int) < (g.kids.length : Int)) = !decide ((g.kids.length : Int) = 0) := by rw [← Bool.coe_iff_coe]; simp only [decide_eq_true_eq, Bool.not_eq_true', decide_eq_false_iff_not]; omega
 have hr : (decide (1 ≤ g.kind) = false ∧ decide (5 ≤ g.kind) = false ∧ decide (1 ≤ g.kind) = false) ∨ (decide (1 ≤ g.kind) = true ∧ decide (5 ≤ g.kind) = true ∧ decide (g.kind ≤ 17) = false) := by
  simp only [decide_eq_false_iff_not, decide_eq_true_eq] at *
  omega
 rcases hr with ⟨r1, r2, r3⟩ | ⟨r1, r2, r3⟩
 iterate 2
  ·
   refine PCB.ob Tryz.func128 Tryz.ntmps128 Tryz.results128 ?_
   repeat' (first | (with_reducible refine AWP.join (id := 8) (fun b : Bool => [(7, Bo b)]) (fun _ => []) [1, 3] [1] (fun b => Is (vG g) b) ?_ ?_) | (simp only [go_sem, D, E, H, J, N, O, U, reduceCtorEq, V, W, Y, Z, zL, encG_eq g, hiv, r1, r2, r3, g1, g2, g3, g4, g5, g6, g7, g8, g9, g10, g11, g12, g13, g14, g15, g16, g17, lB] <;> refine nf ?_) | (refine stp ?_; intro K hK) | (apply hK; clear hK K) | refine stn ?_ | (refine AWP.cnd ?_ ?_ <;> intro h <;> (try simp only [zM, zN] at h)) | (refine ⟨fun h => ?_, fun h => ?_⟩ <;> (try simp only [zM, zN] at h) <;> try simp only [h]) | (with_reducible refine ⟨_, refIsVariable_c _, ?_⟩) | refine stq ?_ | (clear hK K))
   any_goals (refine fin0 ?_; rw [htr]; simp only [vG, badG, bodyG, connG, testG, intG, textG, keyZ, ht, hz0, Int.reduceEq, Int.reduceLE, *, zb, Bool.not_not, cT, cF, dT, dF]; done)
   any_goals (refine ⟨_, ?_, Gh.ts []⟩; unfold Is; simp only [vG, badG, bodyG, connG, testG, intG, textG, keyZ, ht, hz0, Int.reduceEq, Int.reduceLE, *, zb, Bool.not_not, cT, cF, dT, dF]; done)
   intro b hvb
   try simp only [go_sem, D, E, H, J, N, O, U, reduceCtorEq, V, W, Y, Z, zL]
   repeat' (first | (simp only [go_sem, D, E, H, J, N, O, U, reduceCtorEq, V, W, Y, Z, zL, encG_eq g, lB] <;> refine nf ?_) | (refine stp ?_; intro K hK) | (apply hK; clear hK K) | refine stn ?_ | fail)
   refine xE 1 6 rfl rfl fun hlen0 => ?_
   (try rw [lB] at hlen0)
   refine xC (S := Bool) (g.kids) encG (fun k s => (8, I .i64 (k : Nat)) :: [(7, Bo s)]) (fun k s => []) [1, 3] [1] (fun k s => Is s (b && (g.kids.take k).all treeG)) (b) (by simp only [go_sem, D, E, H, J, N, O, U, reduceCtorEq, V, W, Y, Z, zL, encG_eq]; exact Gh.ts []) ?_ ?_ ?_
   ·simp [Is]
   ·intro k s x hlt hx hx' hb hok
    refine st ?_
    have hix := ih x (lP hx)
    have hat := all_take (p := treeG) hx
    cases s
    ·
     repeat' (first | (simp only [go_sem, D, E, H, J, N, O, U, reduceCtorEq, V, W, Y, Z, zL, encG_eq g, lB, hb] <;> refine nf ?_) | (refine stp ?_; intro K hK) | (apply hK; clear hK K) | refine stn ?_ | (clear hK K))
     all_goals (rw [wrap_succ hlt hlen0])
     all_goals (refine ⟨false, ?_, Gh.ts []⟩)
     all_goals (show false = _; rw [hat, ← Bool.and_assoc, ← show false = _ from hok]; rfl)
    ·
     repeat' (first | (simp only [go_sem, D, E, H, J, N, O, U, reduceCtorEq, V, W, Y, Z, zL, encG_eq g, lB, hb] <;> refine nf ?_) | (refine stp ?_; intro K hK) | (apply hK; clear hK K) | refine stn ?_ | (with_reducible first | refine ⟨_, hix, ?_⟩ | refine ⟨by omega, encG x, hx', ?_⟩) | refine stq ?_ | (clear hK K))
     all_goals (rw [wrap_succ hlt hlen0])
     all_goals (refine ⟨treeG x, ?_, Gh.ts []⟩)
     all_goals (show treeG x = _; rw [hat, ← Bool.and_assoc, ← show true = _ from hok]; rfl)
   ·intro s hb hok
    refine st ?_
    rw [Is, lK] at hok
    repeat' (first | (simp only [go_sem, D, E, H, J, N, O, U, reduceCtorEq, V, W, Y, Z, zL, encG_eq g, lB, hb] <;> refine nf ?_) | (refine stp ?_; intro K hK) | (apply hK; clear hK K) | refine stn ?_ | (clear hK K))
    all_goals (refine fin0 ?_; rw [htr, show vG g = b from hvb, show s = _ from hok])
set_option maxHeartbeats 64000000 in
theorem good_otrue (g : Grd) (ih : ∀ k ∈ g.kids, PC zP 128 [Gt k] (Bo (treeG k))) (hiv : isVarB g.name = true) (g1 : decide (g.kind = 1) = false) (g2 : decide (g.kind = 2) = false) (g3 : decide (g.kind = 3) = false) (g4 : decide (g.kind = 4) = false) (g5 : decide (g.kind = 5) = false) (g6 : decide (g.kind = 6) = false) (g7 : decide (g.kind = 7) = false) (g8 : decide (g.kind = 8) = false) (g9 : decide (g.kind = 9) = false) (g10 : decide (g.kind = 10) = false) (g11 : decide (g.kind = 11) = false) (g12 : decide (g.kind = 12) = false) (g13 : decide (g.kind = 13) = false) (g14 : decide (g.kind = 14) = false) (g15 : decide (g.kind = 15) = false) (g16 : decide (g.kind = 16) = false) (g17 : decide (g.kind = 17) = false) (ht : testG g.kind = false) : PC zP 128 [Gt g] (Bo (treeG g)) := by
 have htr := treeG_eq g
 have hz0 : decide ((0 : Int) < (g.kids.length : Int)) = !decide ((g.kids.length : Int) = 0) := by rw [← Bool.coe_iff_coe]; simp only [decide_eq_true_eq, Bool.not_eq_true', decide_eq_false_iff_not]; omega
 have hne := var_ne hiv
 have hr : (decide (1 ≤ g.kind) = false ∧ decide (5 ≤ g.kind) = false ∧ decide (1 ≤ g.kind) = false) ∨ (decide (1 ≤ g.kind) = true ∧ decide (5 ≤ g.kind) = true ∧ decide (g.kind ≤ 17) = false) := by
  simp only [decide_eq_false_iff_not, decide_eq_true_eq] at *
  omega
 rcases hr with ⟨r1, r2, r3⟩ | ⟨r1, r2, r3⟩
 iterate 2
  ·
   refine PCB.ob Tryz.func128 Tryz.ntmps128 Tryz.results128 ?_
   repeat' (first | (simp only [go_sem, D, E, H, J, N, O, U, reduceCtorEq, V, W, Y, Z, zL, encG_eq g, hiv, r1, r2, r3, g1, g2, g3, g4, g5, g6, g7, g8, g9, g10, g11, g12, g13, g14, g15, g16, g17, lB] <;> refine nf ?_) | (refine stp ?_; intro K hK) | (apply hK; clear hK K) | refine stn ?_ | (with_reducible refine ⟨_, refIsVariable_c _, ?_⟩) | refine stq ?_ | (clear hK K))
   any_goals (refine fin0 ?_; rw [htr]; simp only [vG, badG, bodyG, connG, testG, intG, textG, keyZ, ht, hz0, Int.reduceEq, Int.reduceLE, *, zb, Bool.not_not, cT, cF, dT, dF]; done)
end Go.Proofs.YtajfdbdklphonaaGreat
set_option maxRecDepth 20000
set_option maxHeartbeats 16000000
namespace Go.Proofs.YtajfdbdklphonaaGreat
open Go Go.Sx
theorem goodGuard_c (g : Grd) : PC zP 128 [Gt g] (Bo (treeG g)) := by
 have ih : ∀ k ∈ g.kids, PC zP 128 [Gt k] (Bo (treeG k)) := fun k hk => goodGuard_c k
 rcases gkinds g.kind with hk | hk | hk | hk | hk | hk | hk | hk | hk | hk | hk | hk | hk | hk | hk | hk | hk | ⟨g1, g2, g3, g4, g5, g6, g7, g8, g9, g10, g11, g12, g13, g14, g15, g16, g17, ht⟩ <;> cases hiv : isVarB g.name
 all_goals first
  | exact good_a g ih hiv (by omega)
  | exact good_b g ih hiv (by omega)
  | exact good_c g ih hiv (by omega)
  | exact good_d g ih hiv (by omega)
  | exact good_e g ih hiv (by omega)
  | exact good_ofalse g ih hiv g1 g2 g3 g4 g5 g6 g7 g8 g9 g10 g11 g12 g13 g14 g15 g16 g17 ht
  | exact good_otrue g ih hiv g1 g2 g3 g4 g5 g6 g7 g8 g9 g10 g11 g12 g13 g14 g15 g16 g17 ht
termination_by cntG g
decreasing_by all_goals exact cnt_kid hk
theorem any_step {α : Type} {p : α → Bool} {l : List α} {k : Nat} {x : α} (hx : l[k]? = some x) : (l.drop k).any p = (p x || (l.drop (k + 1)).any p) := by
 obtain ⟨h1, e1⟩ := List.getElem?_eq_some_iff.1 hx
 rw [List.drop_eq_getElem_cons h1, e1, List.any_cons]
theorem refEvaluate_c (ns : List (List UInt8)) (vs : List Val) (g : Grd) (hg : treeG g = true) : PC zP 95 [Gt g, Ns ns, Vs vs] (Bo (evG ns vs g)) := by
 have ih : ∀ k ∈ g.kids, PC zP 95 [Gt k, Ns ns, Vs vs] (Bo (evG ns vs k)) := fun k hk => refEvaluate_c ns vs k (tree_kid hg hk)
 rw [evG_eq]
 rcases kindsV (tree_v hg) with hk | hk | hk | ⟨hk, k0, hk0⟩ | ⟨ht, d1, d2, d3, d4⟩
 ·
  refine PCB.ob Tryz.func95 Tryz.ntmps95 Tryz.results95 ?_
  repeat' (first | (simp only [go_sem, D, E, H, J, N, O, U, reduceCtorEq, V, W, Y, Z, zL, encG_eq g, hk] <;> refine nf ?_) | (refine stp ?_; intro K hK) | (apply hK; clear hK K) | refine stn ?_ | (clear hK K))
  all_goals (first | exact lf | (refine fin0 ?_; simp only [hk, Int.reduceEq, zb, cT, cF, dT, dF] <;> rfl))
 ·
  refine PCB.ob Tryz.func95 Tryz.ntmps95 Tryz.results95 ?_
  repeat' (first | (simp only [go_sem, D, E, H, J, N, O, U, reduceCtorEq, V, W, Y, Z, zL, encG_eq g, hk, lB] <;> refine nf ?_) | (refine stp ?_; intro K hK) | (apply hK; clear hK K) | refine stn ?_ | fail)
  refine xE 3 6 rfl rfl fun hlen0 => ?_
  (try rw [lB] at hlen0)
  refine xC (S := Unit) (g.kids) encG (fun k s => (7, I .i64 (k : Nat)) :: []) (fun k s => []) [1, 2, 3] [3] (fun k s => g.kids.all (evG ns vs) = (g.kids.drop k).all (evG ns vs)) (()) (by simp only [go_sem, D, E, H, J, N, O, U, reduceCtorEq, V, W, Y, Z, zL, encG_eq]; exact Gh.ts []) ?_ ?_ ?_
  ·rfl
  ·intro k s x hlt hx hx' hb hok
   refine st ?_
   have hix := ih x (lP hx)
   rw [all_step hx] at hok
   cases hz : evG ns vs x <;> simp only [hz, Bool.true_and, Bool.false_and] at hok
   ·
    repeat' (first | (simp only [go_sem, D, E, H, J, N, O, U, reduceCtorEq, V, W, Y, Z, zL, encG_eq g, lB, hb, hz] <;> refine nf ?_) | (refine stp ?_; intro K hK) | (apply hK; clear hK K) | refine stn ?_ | (with_reducible first | refine ⟨_, hix, ?_⟩ | refine ⟨by omega, encG x, hx', ?_⟩) | refine stq ?_ | (clear hK K))
    all_goals (first | exact lf | (refine fin0 ?_; simp only [hok, hk, Int.reduceEq, zb, cT, cF, dT, dF] <;> rfl))
   ·
    repeat' (first | (simp only [go_sem, D, E, H, J, N, O, U, reduceCtorEq, V, W, Y, Z, zL, encG_eq g, lB, hb, hz] <;> refine nf ?_) | (refine stp ?_; intro K hK) | (apply hK; clear hK K) | refine stn ?_ | (with_reducible first | refine ⟨_, hix, ?_⟩ | refine ⟨by omega, encG x, hx', ?_⟩) | refine stq ?_ | (clear hK K))
    all_goals (rw [wrap_succ hlt hlen0])
    all_goals (refine ⟨(), ?_, Gh.ts []⟩)
    all_goals exact hok
  ·intro s hb hok
   refine st ?_
   rw [all_end] at hok
   repeat' (first | (simp only [go_sem, D, E, H, J, N, O, U, reduceCtorEq, V, W, Y, Z, zL, encG_eq g, lB, hb] <;> refine nf ?_) | (refine stp ?_; intro K hK) | (apply hK; clear hK K) | refine stn ?_ | (clear hK K))
   all_goals (first | exact lf | (refine fin0 ?_; simp only [hok, hk, Int.reduceEq, zb, cT, cF, dT, dF] <;> rfl))
 ·
  refine PCB.ob Tryz.func95 Tryz.ntmps95 Tryz.results95 ?_
  repeat' (first | (simp only [go_sem, D, E, H, J, N, O, U, reduceCtorEq, V, W, Y, Z, zL, encG_eq g, hk, lB] <;> refine nf ?_) | (refine stp ?_; intro K hK) | (apply hK; clear hK K) | refine stn ?_ | fail)
  refine xE 3 6 rfl rfl fun hlen1 => ?_
  (try rw [lB] at hlen1)
  refine xC (S := Unit) (g.kids) encG (fun k s => (8, I .i64 (k : Nat)) :: []) (fun k s => []) [1, 2, 3] [3] (fun k s => g.kids.any (evG ns vs) = (g.kids.drop k).any (evG ns vs)) (()) (by simp only [go_sem, D, E, H, J, N, O, U, reduceCtorEq, V, W, Y, Z, zL, encG_eq]; exact Gh.ts []) ?_ ?_ ?_
  ·rfl
  ·intro k s x hlt hx hx' hb hok
   refine st ?_
   have hix := ih x (lP hx)
   rw [any_step hx] at hok
   cases hz : evG ns vs x <;> simp only [hz, Bool.true_or, Bool.false_or] at hok
   ·
    repeat' (first | (simp only [go_sem, D, E, H, J, N, O, U, reduceCtorEq, V, W, Y, Z, zL, encG_eq g, lB, hb, hz] <;> refine nf ?_) | (refine stp ?_; intro K hK) | (apply hK; clear hK K) | refine stn ?_ | (with_reducible first | refine ⟨_, hix, ?_⟩ | refine ⟨by omega, encG x, hx', ?_⟩) | refine stq ?_ | (clear hK K))
    all_goals (rw [wrap_succ hlt hlen1])
    all_goals (refine ⟨(), ?_, Gh.ts []⟩)
    all_goals exact hok
   ·
    repeat' (first | (simp only [go_sem, D, E, H, J, N, O, U, reduceCtorEq, V, W, Y, Z, zL, encG_eq g, lB, hb, hz] <;> refine nf ?_) | (refine stp ?_; intro K hK) | (apply hK; clear hK K) | refine stn ?_ | (with_reducible first | refine ⟨_, hix, ?_⟩ | refine ⟨by omega, encG x, hx', ?_⟩) | refine stq ?_ | (clear hK K))
    all_goals (first | exact lf | (refine fin0 ?_; simp only [hok, hk, Int.reduceEq, zb, cT, cF, dT, dF] <;> rfl))
  ·intro s hb hok
   refine st ?_
   rw [lL] at hok
   repeat' (first | (simp only [go_sem, D, E, H, J, N, O, U, reduceCtorEq, V, W, Y, Z, zL, encG_eq g, lB, hb] <;> refine nf ?_) | (refine stp ?_; intro K hK) | (apply hK; clear hK K) | refine stn ?_ | (clear hK K))
   all_goals (first | exact lf | (refine fin0 ?_; simp only [hok, hk, Int.reduceEq, List.any_nil, zb, cT, cF, dT, dF] <;> rfl))
 ·have hm : k0 ∈ g.kids := by rw [hk0]; simp
  have i0 := ih k0 hm
  have hk0' : (g.kids.map encG)[0]? = some (encG k0) := by rw [hk0]; rfl
  refine PCB.ob Tryz.func95 Tryz.ntmps95 Tryz.results95 ?_
  repeat' (first | (simp only [go_sem, D, E, H, J, N, O, U, reduceCtorEq, V, W, Y, Z, zL, encG_eq g, hk, lB] <;> refine nf ?_) | (refine stp ?_; intro K hK) | (apply hK; clear hK K) | refine stn ?_ | (with_reducible first | refine ⟨_, i0, ?_⟩ | refine ⟨encG k0, hk0', ?_⟩) | refine stq ?_ | (clear hK K))
  all_goals (first | exact nn | refine fin0 ?_)
  all_goals (simp only [hk, hk0, evHd, Int.reduceEq, zb, cT, cF, dT, dF])
 ·
  have hn : nameAt ns g = findI (fun x => decide (g.name = x)) 0 ns := rfl
  refine PCB.ob Tryz.func95 Tryz.ntmps95 Tryz.results95 ?_
  repeat' (first | (simp only [go_sem, D, E, H, J, N, O, U, reduceCtorEq, V, W, Y, Z, zL, encG_eq g, d1, d2, d3, d4, lB] <;> refine nf ?_) | (refine stp ?_; intro K hK) | (apply hK; clear hK K) | refine stn ?_ | fail)
  refine AWP.len 1 rfl fun hlen2 => ?_
  (try rw [lB] at hlen2)
  refine xC (S := Unit) (ns) encStr (fun k s => (9, I .i64 (k : Nat)) :: []) (fun k s => []) [1, 2, 3] [3] (fun k s => nameAt ns g = findI (fun x => decide (g.name = x)) k (ns.drop k)) (()) (by simp only [go_sem, D, E, H, J, N, O, U, reduceCtorEq, V, W, Y, Z, zL, encG_eq]; exact Gh.ts []) ?_ ?_ ?_
  ·rfl
  ·intro k s x hlt hx hx' hb hok
   refine st ?_
   rw [findI_drop _ ns k x hx] at hok
   cases hz : decide (g.name = x) <;> simp only [hz, cT, cF] at hok <;> rw [show decide (g.name = x) = decide (x = g.name) by simp [eq_comm]] at hz
   ·
    repeat' (first | (simp only [go_sem, D, E, H, J, N, O, U, reduceCtorEq, V, W, Y, Z, zL, encG_eq g, encStr, lB, hb, hz] <;> refine nf ?_) | (refine stp ?_; intro K hK) | (apply hK; clear hK K) | refine stn ?_ | (with_reducible refine ⟨by omega, encStr x, hx', ?_⟩) | (refine stp' ?_; intro K hK) | (clear hK K))
    all_goals (rw [wrap_succ hlt hlen2])
    all_goals (refine ⟨(), ?_, Gh.ts []⟩)
    all_goals exact hok
   ·have e0 : decide ((0 : Int) ≤ (k : Int)) = true := by simp
    by_cases hv : k < vs.length
    ·obtain ⟨v, hv, hv', e1, _⟩ := at_lt (enc := encVal) hv
     have hval := valid_c v
     have hts := test_c g v ht
     rw [show Gt g = T.st (encG g) from rfl, encG_eq] at hts
     cases hz : treeB v <;> rw [hz] at hval
     iterate 2
      ·
       repeat' (first | (simp only [go_sem, D, E, H, J, N, O, U, reduceCtorEq, V, W, Y, Z, zL, encG_eq g, encStr, lB, hb, hz, e1, ‹decide (x = g.name) = true›] <;> refine nf ?_) | (refine stp ?_; intro K hK) | (apply hK; clear hK K) | refine stn ?_ | (with_reducible first | refine ⟨_, hval, ?_⟩ | refine ⟨_, hts, ?_⟩ | refine ⟨by omega, encStr x, hx', ?_⟩ | refine ⟨by omega, encVal v, hv', ?_⟩) | (refine stp' ?_; intro K hK) | (clear hK K))
       all_goals (first | exact lf | (refine fin0 ?_; simp only [atV, hok, e0, e1, hz, hv, d1, d2, d3, d4, Int.toNat_natCast, zb, cT, cF, dT, dF] <;> rfl))
    ·have e1 : decide ((k : Int) < (vs.length : Int)) = false := by simp; omega
     repeat' (first | (simp only [go_sem, D, E, H, J, N, O, U, reduceCtorEq, V, W, Y, Z, zL, encG_eq g, encStr, lB, hb, hz, e1] <;> refine nf ?_) | (refine stp ?_; intro K hK) | (apply hK; clear hK K) | refine stn ?_ | (with_reducible refine ⟨by omega, encStr x, hx', ?_⟩) | (refine stp' ?_; intro K hK) | (clear hK K))
     all_goals (first | exact lf | (refine fin0 ?_; simp only [atV, hok, e0, e1, d1, d2, d3, d4, zb, cT, cF, dT, dF] <;> rfl))
  ·intro s hb hok
   refine st ?_
   rw [lL] at hok
   repeat' (first | (simp only [go_sem, D, E, H, J, N, O, U, reduceCtorEq, V, W, Y, Z, zL, encG_eq g, lB, hb] <;> refine nf ?_) | (refine stp ?_; intro K hK) | (apply hK; clear hK K) | refine stn ?_ | (clear hK K))
   all_goals (refine fin0 ?_; rw [hok]; rfl)
termination_by cntG g
decreasing_by exact cnt_kid hk
def okG (g : Grd) : Bool := !decide ((20 : Int) < (cntG g : Int)) && treeG g
def codeG (g : Grd) : Int := bif decide ((20 : Int) < (cntG g : Int)) then 2 else bif treeG g then 0 else 1
theorem validate_g (g : Grd) (hg : GSm g) : PC zP 83 [Gt g] (I .i64 (codeG g)) := by
 have h1 := count_g g hg
 have h2 := validTreeG_c g
 refine PCB.ob Tryz.func83 Tryz.ntmps83 Tryz.results83 ?_
 cases hz : decide ((20 : Int) < (cntG g : Int)) <;> cases ht : treeG g <;> rw [ht] at h2
 all_goals
  repeat' (first | (simp only [go_sem, D, E, H, J, N, O, U, reduceCtorEq, V, W, Y, Z, zL, hz] <;> refine nf ?_) | (refine stp ?_; intro K hK) | (apply hK; clear hK K) | refine stn ?_ | (with_reducible first | refine ⟨_, h1, ?_⟩ | refine ⟨_, h2, ?_⟩) | refine stq ?_ | (clear hK K))
 all_goals (first | exact lf | (refine fin0 ?_; simp only [codeG, hz, ht, zb, cT, cF, dT, dF] <;> rfl))
theorem refValidate_g (g : Grd) (hg : GSm g) : PC zP 94 [Gt g] (I .i64 (codeG g)) := by
 have h1 := guards_c g hg
 have h2 := goodGuard_c g
 refine PCB.ob Tryz.func94 Tryz.ntmps94 Tryz.results94 ?_
 cases hz : decide ((20 : Int) < (cntG g : Int)) <;> cases ht : treeG g <;> rw [ht] at h2
 all_goals
  repeat' (first | (simp only [go_sem, D, E, H, J, N, O, U, reduceCtorEq, V, W, Y, Z, zL, hz] <;> refine nf ?_) | (refine stp ?_; intro K hK) | (apply hK; clear hK K) | refine stn ?_ | (with_reducible first | refine ⟨_, h1, ?_⟩ | refine ⟨_, h2, ?_⟩) | refine stq ?_ | (clear hK K))
 all_goals (first | exact lf | (refine fin0 ?_; simp only [codeG, hz, ht, zb, cT, cF, dT, dF] <;> rfl))
def trueG : Grd := ⟨1, [], 0, [], ⟨0, []⟩, []⟩
def soundG (g : Grd) : Grd := bif okG g then g else trueG
theorem trueG_lit : Gt trueG = .st [.int .i64 1, .str [], .int .i64 0, .str [], .int .i64 0, .str [], .sl 7 []] := by rw [Gt, encG_eq]; rfl
theorem code_ok (g : Grd) : decide (codeG g = 0) = okG g := by
 unfold codeG okG
 cases decide ((20 : Int) < (cntG g : Int)) <;> cases treeG g <;> rfl
theorem sound_c (g : Grd) (hg : GSm g) : PC zP 45 [Gt g] (Gt (soundG g)) := by
 have h1 := validate_g g hg
 have hc := code_ok g
 unfold soundG
 refine PCB.ob Tryz.func45 Tryz.ntmps45 Tryz.results45 ?_
 cases hz : okG g <;> rw [hz] at hc
 all_goals
  repeat' (first | (simp only [go_sem, D, E, H, J, N, O, U, reduceCtorEq, V, W, Y, Z, zL, hc] <;> refine nf ?_) | (refine stp ?_; intro K hK) | (apply hK; clear hK K) | refine stn ?_ | (with_reducible refine ⟨_, h1, ?_⟩) | refine stq ?_ | (clear hK K))
 all_goals (first | exact nn | refine fin0 ?_)
 all_goals (simp only [cT, cF, trueG_lit]; try rfl)
def evW (ns : List (List UInt8)) (vs : List Val) (g : Grd) : Bool := bif okG g then evG ns vs g else true
theorem ok_tree {g : Grd} (h : okG g = true) : treeG g = true := by unfold okG at h; rw [Bool.and_eq_true] at h; exact h.2
theorem true_tree : treeG trueG = true := by rw [treeG_eq]; rfl
theorem sound_tree (g : Grd) : treeG (soundG g) = true := by
 unfold soundG
 cases hz : okG g
 ·exact true_tree
 ·exact ok_tree hz
theorem evW_sound (ns : List (List UInt8)) (vs : List Val) (g : Grd) : evG ns vs (soundG g) = evW ns vs g := by
 unfold soundG evW
 cases okG g
 ·rw [cF, cF, evG_eq]; rfl
 ·rfl
theorem Evaluate_c (ns : List (List UInt8)) (vs : List Val) (hvs : ∀ v ∈ vs, Sm v) (g : Grd) (hg : GSm g) : PC zP 20 [Gt g, Ns ns, Vs vs] (Bo (evW ns vs g)) := by
 have h1 := sound_c g hg
 have h2 := evaluate_c ns vs hvs (soundG g) (sound_tree g)
 rw [evW_sound] at h2
 refine PCB.ob Tryz.func20 Tryz.ntmps20 Tryz.results20 ?_
 repeat' (first | (simp only [go_sem, D, E, H, J, N, O, U, reduceCtorEq, V, W, Y, Z, zL] <;> refine nf ?_) | (refine stp ?_; intro K hK) | (apply hK; clear hK K) | refine stn ?_ | (with_reducible first | refine ⟨_, h1, ?_⟩ | refine ⟨_, h2, ?_⟩) | refine stq ?_ | fail)
 all_goals exact lf
theorem EvaluateGuard_c (ns : List (List UInt8)) (vs : List Val) (g : Grd) (hg : GSm g) : PC zP 54 [Gt g, Ns ns, Vs vs] (Bo (evW ns vs g)) := by
 have h1 := refValidate_g g hg
 have hc := code_ok g
 unfold evW
 cases hz : okG g <;> rw [hz] at hc
 ·
  refine PCB.ob Tryz.func54 Tryz.ntmps54 Tryz.results54 ?_
  repeat' (first | (simp only [go_sem, D, E, H, J, N, O, U, reduceCtorEq, V, W, Y, Z, zL, hc] <;> refine nf ?_) | (refine stp ?_; intro K hK) | (apply hK; clear hK K) | refine stn ?_ | (with_reducible refine ⟨_, h1, ?_⟩) | refine stq ?_ | (clear hK K))
  all_goals exact lf
 ·have h2 := refEvaluate_c ns vs g (ok_tree hz)
  refine PCB.ob Tryz.func54 Tryz.ntmps54 Tryz.results54 ?_
  repeat' (first | (simp only [go_sem, D, E, H, J, N, O, U, reduceCtorEq, V, W, Y, Z, zL, hc] <;> refine nf ?_) | (refine stp ?_; intro K hK) | (apply hK; clear hK K) | refine stn ?_ | (with_reducible first | refine ⟨_, h1, ?_⟩ | refine ⟨_, h2, ?_⟩) | refine stq ?_ | fail)
  all_goals exact lf
end Go.Proofs.YtajfdbdklphonaaGreat
