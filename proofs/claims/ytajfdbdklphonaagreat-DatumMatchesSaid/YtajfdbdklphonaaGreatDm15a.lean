/- Lemmas; conditions: as each states. -/
import Derived.Test.YtajfdbdklphonaaGreatDm14
open Go.Proofs.Tryz renaming prog → zP
open List renaming length_append → lA, length_map → lB, length_cons → lC, length_nil → lD, map_cons → lE, drop_length → lL, mem_of_getElem? → lP, length_take → lQ
open Go.Sx.AWP renaming range → xC, gh → xD, lenB → xE
open Go.Sx.Gh renaming freeze → xH, nilrow → xI
open Nat renaming reduceBEq → D, reduceBNe → E, reduceAdd → H, reduceSub → J, reduceMul → N, reduceLeDiff → O, reduceLT → U, reduceEqDiff → V
open Int renaming reduceToNat → W, reduceLE → Y, reduceLT → Z, reduceEq → zL
open Bool renaming not_eq_true' → zM, not_eq_false' → zN
set_option linter.unusedVariables false
set_option linter.unusedSimpArgs false
set_option maxRecDepth 20000
set_option maxHeartbeats 16000000
namespace Go.Proofs.YtajfdbdklphonaaGreat
open Go Go.Sx
theorem refM_8 (g : Pat) (v : Val) (hs : PSm g) (hg : treeP g = true) (hv : treeB v = true) (ih : ∀ k ∈ g.kids, ∀ w : Val, treeB w = true → PC zP 93 [.st (encP k), .st (encVal w)] (refR (refP k w))) (hk : g.kind = 8) : PC zP 93 [Pt g, Vt v] (refR (refP g v)) := by
 have hvp := vP_of hg
 have hce := cntP_eq g
 unfold PSm at hs
 cases hz : decide (v.kind = 7)
 ·
  rw [show refP g v = none from by rw [refP_eq, hk]; show (bif decide (v.kind = 7) && decide (g.kids.length = v.kids.length) then refL g.kids v.kids else none) = none; rw [hz]; rfl]
  refine PCB.ob Tryz.func93 Tryz.ntmps93 Tryz.results93 ?_
  repeat' (first | (simp only [go_sem, D, E, H, J, N, O, U, reduceCtorEq, V, W, Y, Z, zL, encP_eq g, encVal_eq v, hk, hz, lB] <;> refine nf ?_) | (refine stp ?_; intro K hK) | (apply hK; clear hK K) | refine stn ?_ | (clear hK K))
  all_goals (first | exact nn | refine fin0 ?_)
  all_goals rfl
 have hll : v.kids.length = g.kids.length := by rw [treeB_cons hv (of_decide_eq_true hz), vP_cons hvp hk]
 have hws : ∀ w ∈ v.kids, treeB w = true := fun w hw => treeB_kid hv hw
 have hfin : refP g v = (refL g.kids v.kids).map ([] ++ ·) := by
  rw [refP_eq, hk]; show (bif decide (v.kind = 7) && decide (g.kids.length = v.kids.length) then refL g.kids v.kids else none) = _; rw [hz, hll]; simp
 refine PCB.ob Tryz.func93 Tryz.ntmps93 Tryz.results93 ?_
 refine AWP.ghQ ?_
 repeat' (first | (simp only [go_sem, D, E, H, J, N, O, U, reduceCtorEq, V, W, Y, Z, zL, encP_eq g, encVal_eq v, hk, hz, lB] <;> refine nf ?_) | (refine stp ?_; intro K hK) | (apply hK; clear hK K) | refine stn ?_ | fail)
 refine xD (xI 7 901 rfl rfl rfl (by first | rfl | simp [Bx.fresh, freshs_dat])) ?_
 refine xD (xI 8 902 rfl rfl rfl (by first | rfl | simp [Bx.fresh, freshs_dat])) ?_
 refine xE 2 3 rfl rfl fun hlen1 => ?_
 (try rw [lB] at hlen1)
 refine xC (S := ME) (g.kids) encP (fun k s => (12, I .i64 (k : Nat)) :: [(7, .one (.own 901 s.length)), (8, .one (.own 902 s.length)), (9, .one (.dat (.sl 7 (v.kids.map encVal))))]) (fun k s => [(901, .row 1 (encN s)), (902, .row 7 (encW s))]) [2] [2] (fun k s => refP g v = (refL (g.kids.drop k) (v.kids.drop k)).map (s ++ ·) ∧ s.length ≤ 1 + cntPs (g.kids.take k)) ([]) (by simp only [go_sem, D, E, H, J, N, O, U, reduceCtorEq, V, W, Y, Z, zL, encP_eq g]; exact Gh.ts []) ?_ ?_ ?_
 ·exact ⟨hfin, by simp⟩
 ·rintro k s x hlt hx hx' hb ⟨hok, hsl⟩
  refine st ?_
  obtain ⟨w, hw, hw', _, _⟩ := at_lt (enc := encVal) (l := v.kids) (k := k) (by have := hll; omega)
  have hmx : x ∈ g.kids := lP hx
  have hix := ih x hmx w (hws w (lP hw))
  have hct := cntPs_take hx
  have hcl := cntPs_le g.kids (k + 1)
  rw [refL_drop hx hw] at hok
  cases hr : refP x w with
  | none =>
   rw [hr] at hok hix
   rw [refR_none] at hix
   repeat' (first | (simp only [go_sem, D, E, H, J, N, O, U, reduceCtorEq, V, W, Y, Z, zL, encP_eq g, lB, hb] <;> refine nf ?_) | (refine stp ?_; intro K hK) | (apply hK; clear hK K) | refine stn ?_ | (with_reducible first | refine ⟨_, hix, ?_⟩ | refine ⟨by omega, encP x, hx', ?_⟩ | refine ⟨by omega, encVal w, hw', ?_⟩) | (refine stp' ?_; intro K hK) | (clear hK K))
   all_goals (refine ⟨_, Gh.refl _, ?_⟩; simp only [go_sem, D, E, H, J, N, O, U, reduceCtorEq, V, W, Y, Z, zL]; refine fin0 ?_)
   all_goals (rw [hok]; rfl)
  | some a =>
   have hna := refP_names x w (treeP_kid hg hmx) a hr
   have hal : a.length ≤ cntP x := by have := congrArg List.length hna; rw [lB] at this; have := collP_len x; omega
   rw [hr] at hok hix
   rw [refR_some] at hix
   repeat' (first | (simp only [go_sem, D, E, H, J, N, O, U, reduceCtorEq, V, W, Y, Z, zL, encP_eq g, lB, encN_len, encW_len, encN_app, encW_app, hb] <;> refine nf ?_) | (refine stp ?_; intro K hK) | (apply hK; clear hK K) | refine stn ?_ | (with_reducible first | refine ⟨_, hix, ?_⟩ | refine ⟨by omega, encP x, hx', ?_⟩ | refine ⟨by omega, encVal w, hw', ?_⟩ | refine ⟨(by omega : _ ≤ _), ?_⟩) | (refine stp' ?_; intro K hK) | (clear hK K))
   all_goals (rw [wrap_succ hlt hlen1])
   all_goals (refine ⟨s ++ a, ?_, Gh.ts [(901, 162), (902, 165)]⟩)
   all_goals (refine ⟨?_, by rw [lA]; omega⟩; rw [hok]; simp only [Option.map_map]; congr 1; funext z; simp)
 ·rintro s hb ⟨hok, hsl⟩
  refine st ?_
  rw [lL, refL_nil] at hok
  repeat' (first | (simp only [go_sem, D, E, H, J, N, O, U, reduceCtorEq, V, W, Y, Z, zL, encP_eq g, lB, hb] <;> refine nf ?_) | (refine stp ?_; intro K hK) | (apply hK; clear hK K) | refine stn ?_ | (clear hK K))
  refine GhQ.step (xH 901 rfl rfl (by simp only [go_sem, D, E, H, J, N, O, U, reduceCtorEq, V, W, Y, Z, zL, encN_len, encW_len]) (by simp only [go_sem, D, E, H, J, N, O, U, reduceCtorEq, V, W, Y, Z, zL, encN_len, encW_len])) ?_
  simp only [go_sem, D, E, H, J, N, O, U, reduceCtorEq, V, W, Y, Z, zL, encN_len, encW_len]
  refine ⟨_, xH 902 rfl rfl (by simp only [go_sem, D, E, H, J, N, O, U, reduceCtorEq, V, W, Y, Z, zL, encN_len, encW_len]) (by simp only [go_sem, D, E, H, J, N, O, U, reduceCtorEq, V, W, Y, Z, zL, encN_len, encW_len]), ?_⟩
  simp only [go_sem, D, E, H, J, N, O, U, reduceCtorEq, V, W, Y, Z, zL, encN_len, encW_len]
  all_goals (first | exact nn | refine fin0 ?_)
  all_goals (rw [hok]; simp [refR])
theorem refM_10 (g : Pat) (v : Val) (hs : PSm g) (hg : treeP g = true) (hv : treeB v = true) (ih : ∀ k ∈ g.kids, ∀ w : Val, treeB w = true → PC zP 93 [.st (encP k), .st (encVal w)] (refR (refP k w))) (hk : g.kind = 10 ∧ ∃ k0, g.kids = [k0]) : PC zP 93 [Pt g, Vt v] (refR (refP g v)) := by
 have hvp := vP_of hg
 have hce := cntP_eq g
 unfold PSm at hs
 obtain ⟨hk, k0, hk0⟩ := hk
 have h0m : k0 ∈ g.kids := by rw [hk0]; simp
 have hll : [v].length = g.kids.length := by rw [hk0]; rfl
 have hws : ∀ w ∈ [v], treeB w = true := fun w hw => by rw [List.mem_singleton.1 hw]; exact hv
 have hfin : refP g v = (refL g.kids [v]).map ([(g.text, v)] ++ ·) := by
  rw [refP_eq, hk, hk0]
  show (refP k0 v).map ((g.text, v) :: ·) = _
  rw [refL]
  cases refP k0 v with
  | none => rfl
  | some a => simp [refL_nil]
 refine PCB.ob Tryz.func93 Tryz.ntmps93 Tryz.results93 ?_
 refine AWP.ghQ ?_
 repeat' (first | (simp only [go_sem, D, E, H, J, N, O, U, reduceCtorEq, V, W, Y, Z, zL, encP_eq g, encVal_eq v, hk, lB] <;> refine nf ?_) | (refine stp ?_; intro K hK) | (apply hK; clear hK K) | refine stn ?_ | (with_reducible refine AWP.genM (id := 24) [4,8] mixed (by kernel_rfl) fun K hK => ?_) | refine stq ?_ | fail)
 try rw [← encVal_eq v]
 refine xD (Gh.rename 95 901 rfl rfl rfl rfl) ?_
 refine xD (Gh.rename 99 902 rfl rfl rfl rfl) ?_
 simp only [go_sem, D, E, H, J, N, O, U, reduceCtorEq, V, W, Y, Z, zL]
 refine xE 2 3 rfl rfl fun hlen1 => ?_
 (try rw [lB] at hlen1)
 refine xC (S := ME) (g.kids) encP (fun k s => (12, I .i64 (k : Nat)) :: [(7, .one (.own 901 s.length)), (8, .one (.own 902 s.length)), (9, .one (.dat (.sl 7 ([v].map encVal))))]) (fun k s => [(901, .row 1 (encN s)), (902, .row 7 (encW s))]) [2] [2] (fun k s => refP g v = (refL (g.kids.drop k) ([v].drop k)).map (s ++ ·) ∧ s.length ≤ 1 + cntPs (g.kids.take k)) ([(g.text, v)]) (by simp only [go_sem, D, E, H, J, N, O, U, reduceCtorEq, V, W, Y, Z, zL, encP_eq g]; exact Gh.ts []) ?_ ?_ ?_
 ·exact ⟨hfin, by simp⟩
 ·rintro k s x hlt hx hx' hb ⟨hok, hsl⟩
  refine st ?_
  obtain ⟨w, hw, hw', _, _⟩ := at_lt (enc := encVal) (l := [v]) (k := k) (by have := hll; omega)
  have hw2 : [encVal v][k]? = some (encVal w) := hw'
  have hmx : x ∈ g.kids := lP hx
  have hix := ih x hmx w (hws w (lP hw))
  have hct := cntPs_take hx
  have hcl := cntPs_le g.kids (k + 1)
  rw [refL_drop hx hw] at hok
  cases hr : refP x w with
  | none =>
   rw [hr] at hok hix
   rw [refR_none] at hix
   repeat' (first | (simp only [go_sem, D, E, H, J, N, O, U, reduceCtorEq, V, W, Y, Z, zL, encP_eq g, lB, hb] <;> refine nf ?_) | (refine stp ?_; intro K hK) | (apply hK; clear hK K) | refine stn ?_ | (with_reducible first | refine ⟨_, hix, ?_⟩ | refine ⟨by omega, encP x, hx', ?_⟩ | refine ⟨by omega, encVal w, hw2, ?_⟩) | (refine stp' ?_; intro K hK) | (clear hK K))
   all_goals (refine ⟨_, Gh.refl _, ?_⟩; simp only [go_sem, D, E, H, J, N, O, U, reduceCtorEq, V, W, Y, Z, zL]; refine fin0 ?_)
   all_goals (rw [hok]; rfl)
  | some a =>
   have hna := refP_names x w (treeP_kid hg hmx) a hr
   have hal : a.length ≤ cntP x := by have := congrArg List.length hna; rw [lB] at this; have := collP_len x; omega
   rw [hr] at hok hix
   rw [refR_some] at hix
   repeat' (first | (simp only [go_sem, D, E, H, J, N, O, U, reduceCtorEq, V, W, Y, Z, zL, encP_eq g, lB, encN_len, encW_len, encN_app, encW_app, hb] <;> refine nf ?_) | (refine stp ?_; intro K hK) | (apply hK; clear hK K) | refine stn ?_ | (with_reducible first | refine ⟨_, hix, ?_⟩ | refine ⟨by omega, encP x, hx', ?_⟩ | refine ⟨by omega, encVal w, hw2, ?_⟩ | refine ⟨(by omega : _ ≤ _), ?_⟩) | (refine stp' ?_; intro K hK) | (clear hK K))
   all_goals (rw [wrap_succ hlt hlen1])
   all_goals (refine ⟨s ++ a, ?_, Gh.ts [(901, 162), (902, 165)]⟩)
   all_goals (refine ⟨?_, by rw [lA]; omega⟩; rw [hok]; simp only [Option.map_map]; congr 1; funext z; simp)
 ·rintro s hb ⟨hok, hsl⟩
  refine st ?_
  rw [lL, refL_nil] at hok
  repeat' (first | (simp only [go_sem, D, E, H, J, N, O, U, reduceCtorEq, V, W, Y, Z, zL, encP_eq g, lB, hb] <;> refine nf ?_) | (refine stp ?_; intro K hK) | (apply hK; clear hK K) | refine stn ?_ | (clear hK K))
  refine GhQ.step (xH 901 rfl rfl (by simp only [go_sem, D, E, H, J, N, O, U, reduceCtorEq, V, W, Y, Z, zL, encN_len, encW_len]) (by simp only [go_sem, D, E, H, J, N, O, U, reduceCtorEq, V, W, Y, Z, zL, encN_len, encW_len])) ?_
  simp only [go_sem, D, E, H, J, N, O, U, reduceCtorEq, V, W, Y, Z, zL, encN_len, encW_len]
  refine ⟨_, xH 902 rfl rfl (by simp only [go_sem, D, E, H, J, N, O, U, reduceCtorEq, V, W, Y, Z, zL, encN_len, encW_len]) (by simp only [go_sem, D, E, H, J, N, O, U, reduceCtorEq, V, W, Y, Z, zL, encN_len, encW_len]), ?_⟩
  simp only [go_sem, D, E, H, J, N, O, U, reduceCtorEq, V, W, Y, Z, zL, encN_len, encW_len]
  all_goals (first | exact nn | refine fin0 ?_)
  all_goals (rw [hok]; simp [refR])
theorem cntPs_len : ∀ l : List Pat, l.length ≤ cntPs l
 | [] => by simp [cntPs]
 | g :: l => by have := cntPs_len l; have := cntP_eq g; simp only [cntPs, lC]; omega
theorem refM_9 (g : Pat) (v : Val) (hs : PSm g) (hg : treeP g = true) (hv : treeB v = true) (ih : ∀ k ∈ g.kids, ∀ w : Val, treeB w = true → PC zP 93 [.st (encP k), .st (encVal w)] (refR (refP k w))) (hk : g.kind = 9 ∧ g.keys.length = g.kids.length) : PC zP 93 [Pt g, Vt v] (refR (refP g v)) := by
 have hvp := vP_of hg
 have hce := cntP_eq g
 unfold PSm at hs
 obtain ⟨hk, hkk⟩ := hk
 cases hz : decide (v.kind = 8)
 ·
  rw [show refP g v = none from by rw [refP_eq, hk]; show (bif decide (v.kind = 8) then (match lookV g.keys v with | some ws => refL g.kids ws | none => none) else none) = none; rw [hz]; rfl]
  rw [refR_none]
  refine PCB.ob Tryz.func93 Tryz.ntmps93 Tryz.results93 ?_
  repeat' (first | (simp only [go_sem, D, E, H, J, N, O, U, reduceCtorEq, V, W, Y, Z, zL, encP_eq g, encVal_eq v, hk, hz, lB] <;> refine nf ?_) | (refine stp ?_; intro K hK) | (apply hK; clear hK K) | refine stn ?_ | fail)
  refine xE 2 4 rfl rfl fun hlen0 => ?_
  (try rw [lB] at hlen0)
  refine xC (S := Unit) (g.keys) encKey (fun k s => (10, I .i64 (k : Nat)) :: [(9, .one (.dat (.nil 7)))]) (fun k s => []) [2, 3, 7, 8] [2, 3] (fun k s => True) (()) (by simp only [go_sem, D, E, H, J, N, O, U, reduceCtorEq, V, W, Y, Z, zL, encP_eq g, encVal_eq v]; exact Gh.ts []) ?_ ?_ ?_
  ·trivial
  ·intro k s x hlt hx hx' hb hok
   refine st ?_
   have hix := place_c v.keys x
   repeat' (first | (simp only [go_sem, D, E, H, J, N, O, U, reduceCtorEq, V, W, Y, Z, zL, encP_eq g, encVal_eq v, hz, lB, hb] <;> refine nf ?_) | (refine stp ?_; intro K hK) | (apply hK; clear hK K) | refine stn ?_ | (with_reducible first | refine ⟨_, hix, ?_⟩ | refine ⟨by omega, encKey x, hx', ?_⟩) | (refine stp' ?_; intro K hK) | (clear hK K))
   all_goals (first | exact nn | refine fin0 ?_)
   all_goals rfl
  ·intro s hb hok
   refine st ?_
   repeat' (first | (simp only [go_sem, D, E, H, J, N, O, U, reduceCtorEq, V, W, Y, Z, zL, encP_eq g, encVal_eq v, hz, lB, hb] <;> refine nf ?_) | (refine stp ?_; intro K hK) | (apply hK; clear hK K) | refine stn ?_ | (clear hK K))
   all_goals (first | exact nn | refine fin0 ?_)
   all_goals rfl
 have hvk := treeB_map hv (of_decide_eq_true hz)
 have hm : refP g v = match lookV g.keys v with | some ws => refL g.kids ws | none => none := by
  rw [refP_eq, hk]; show (bif decide (v.kind = 8) then (match lookV g.keys v with | some ws => refL g.kids ws | none => none) else none) = _; rw [hz]; rfl
 refine PCB.ob Tryz.func93 Tryz.ntmps93 Tryz.results93 ?_
 refine AWP.ghQ ?_
 repeat' (first | (simp only [go_sem, D, E, H, J, N, O, U, reduceCtorEq, V, W, Y, Z, zL, encP_eq g, encVal_eq v, hk, hz, lB] <;> refine nf ?_) | (refine stp ?_; intro K hK) | (apply hK; clear hK K) | refine stn ?_ | fail)
 refine xD (xI 9 903 rfl rfl rfl (by first | rfl | simp [Bx.fresh, freshs_dat])) ?_
 refine xE 2 4 rfl rfl fun hlen0 => ?_
 (try rw [lB] at hlen0)
 refine xC (S := List Val) (g.keys) encKey (fun k s => (10, I .i64 (k : Nat)) :: [(9, .one (.own 903 s.length))]) (fun k s => [(903, .row 7 (s.map encVal))]) [2, 3, 7, 8] [2, 3] (fun k s => lookV g.keys v = (lookV (g.keys.drop k) v).map (s ++ ·) ∧ s.length ≤ k) ([]) (by simp only [go_sem, D, E, H, J, N, O, U, reduceCtorEq, V, W, Y, Z, zL, encP_eq g, encVal_eq v]; exact Gh.ts []) ?_ ?_ ?_
 ·exact ⟨by simp, by simp⟩
 ·rintro k s x hlt hx hx' hb ⟨hok, hsl⟩
  refine st ?_
  have hix := place_c v.keys x
  have hkl : g.keys.length ≤ 100000000 := by have := cntPs_len g.kids; omega
  rw [lookV_drop hx] at hok
  rcases find_cases (fun y => sameK x y) v.keys 0 with h | ⟨n, h, _, h2⟩
  ·have hva : valAt v x = none := by unfold valAt; rw [h]; rfl
   rw [hva] at hok
   rw [h] at hix
   repeat' (first | (simp only [go_sem, D, E, H, J, N, O, U, reduceCtorEq, V, W, Y, Z, zL, encP_eq g, encVal_eq v, hz, lB, hb] <;> refine nf ?_) | (refine stp ?_; intro K hK) | (apply hK; clear hK K) | refine stn ?_ | (with_reducible first | refine ⟨_, hix, ?_⟩ | refine ⟨by omega, encKey x, hx', ?_⟩) | (refine stp' ?_; intro K hK) | (clear hK K))
   all_goals (refine ⟨_, Gh.refl _, ?_⟩; simp only [go_sem, D, E, H, J, N, O, U, reduceCtorEq, V, W, Y, Z, zL]; refine fin0 ?_)
   all_goals (rw [hm, hok]; rfl)
  ·obtain ⟨w, hw, hw', _, _⟩ := at_lt (enc := encVal) (show n < v.kids.length by omega)
   have hneg : decide ((n : Int) < 0) = false := by simp only [decide_eq_false_iff_not]; omega
   have hva : valAt v x = some w := by unfold valAt; rw [h, hneg, cF, Int.toNat_natCast, hw]
   rw [hva] at hok
   rw [h] at hix
   repeat' (first | (simp only [go_sem, D, E, H, J, N, O, U, reduceCtorEq, V, W, Y, Z, zL, encP_eq g, encVal_eq v, hz, lB, hb, hneg, val_snoc1] <;> refine nf ?_) | (refine stp ?_; intro K hK) | (apply hK; clear hK K) | refine stn ?_ | (with_reducible first | refine ⟨_, hix, ?_⟩ | refine ⟨by omega, encKey x, hx', ?_⟩ | refine ⟨by omega, encVal w, hw', ?_⟩ | (refine ⟨(by first | omega | (simp only [lA, lB, lQ, List.length_drop, lC, lD, List.length_replicate]; omega) : _ ≤ _), ?_⟩)) | (refine stp' ?_; intro K hK) | refine stq ?_ | (clear hK K))
   all_goals (rw [wrap_succ hlt hlen0])
   all_goals (refine ⟨s ++ [w], ?_, Gh.ts [(903, 133)]⟩)
   all_goals (refine ⟨?_, by simp; omega⟩; rw [hok]; simp only [Option.map_map]; congr 1; funext z; simp)
 rintro ws hb ⟨hok0, hsl0⟩
 refine st ?_
 have hlw : lookV g.keys v = some ws := by rw [hok0, lL]; simp [lookV]
 obtain ⟨hl1, hl2⟩ := lookV_mem _ _ _ hlw
 have hll : ws.length = g.kids.length := by omega
 have hws : ∀ w ∈ ws, treeB w = true := fun w hw => treeB_kid hv (hl2 w hw)
 have hfin : refP g v = (refL g.kids ws).map ([] ++ ·) := by rw [hm, hlw]; simp
 clear hsl0
 refine xD (Gh.fs 903) ?_
 simp only [go_sem, D, E, H, J, N, O, U, reduceCtorEq, V, W, Y, Z, zL, lB]
 repeat' (first | (simp only [go_sem, D, E, H, J, N, O, U, reduceCtorEq, V, W, Y, Z, zL, encP_eq g, encVal_eq v, hz, lB, hb] <;> refine nf ?_) | (refine stp ?_; intro K hK) | (apply hK; clear hK K) | refine stn ?_ | (clear hK K))
 refine xD (xI 7 901 rfl rfl rfl (by first | rfl | simp [Bx.fresh, freshs_dat])) ?_
 refine xD (xI 8 902 rfl rfl rfl (by first | rfl | simp [Bx.fresh, freshs_dat])) ?_
 refine xE 2 3 rfl rfl fun hlen1 => ?_
 (try rw [lB] at hlen1)
 refine xC (S := ME) (g.kids) encP (fun k s => (12, I .i64 (k : Nat)) :: [(7, .one (.own 901 s.length)), (8, .one (.own 902 s.length)), (9, .one (.dat (.sl 7 (ws.map encVal))))]) (fun k s => [(901, .row 1 (encN s)), (902, .row 7 (encW s))]) [2] [2] (fun k s => refP g v = (refL (g.kids.drop k) (ws.drop k)).map (s ++ ·) ∧ s.length ≤ 1 + cntPs (g.kids.take k)) ([]) (by simp only [go_sem, D, E, H, J, N, O, U, reduceCtorEq, V, W, Y, Z, zL, encP_eq g]; exact Gh.ts []) ?_ ?_ ?_
 ·exact ⟨hfin, by simp⟩
 ·rintro k s x hlt hx hx' hb ⟨hok, hsl⟩
  refine st ?_
  obtain ⟨w, hw, hw', _, _⟩ := at_lt (enc := encVal) (l := ws) (k := k) (by have := hll; omega)
  have hmx : x ∈ g.kids := lP hx
  have hix := ih x hmx w (hws w (lP hw))
  have hct := cntPs_take hx
  have hcl := cntPs_le g.kids (k + 1)
  rw [refL_drop hx hw] at hok
  cases hr : refP x w with
  | none =>
   rw [hr] at hok hix
   rw [refR_none] at hix
   repeat' (first | (simp only [go_sem, D, E, H, J, N, O, U, reduceCtorEq, V, W, Y, Z, zL, encP_eq g, lB, hb] <;> refine nf ?_) | (refine stp ?_; intro K hK) | (apply hK; clear hK K) | refine stn ?_ | (with_reducible first | refine ⟨_, hix, ?_⟩ | refine ⟨by omega, encP x, hx', ?_⟩ | refine ⟨by omega, encVal w, hw', ?_⟩) | (refine stp' ?_; intro K hK) | (clear hK K))
   all_goals (refine ⟨_, Gh.refl _, ?_⟩; simp only [go_sem, D, E, H, J, N, O, U, reduceCtorEq, V, W, Y, Z, zL]; refine fin0 ?_)
   all_goals (rw [hok]; rfl)
  | some a =>
   have hna := refP_names x w (treeP_kid hg hmx) a hr
   have hal : a.length ≤ cntP x := by have := congrArg List.length hna; rw [lB] at this; have := collP_len x; omega
   rw [hr] at hok hix
   rw [refR_some] at hix
   repeat' (first | (simp only [go_sem, D, E, H, J, N, O, U, reduceCtorEq, V, W, Y, Z, zL, encP_eq g, lB, encN_len, encW_len, encN_app, encW_app, hb] <;> refine nf ?_) | (refine stp ?_; intro K hK) | (apply hK; clear hK K) | refine stn ?_ | (with_reducible first | refine ⟨_, hix, ?_⟩ | refine ⟨by omega, encP x, hx', ?_⟩ | refine ⟨by omega, encVal w, hw', ?_⟩ | refine ⟨(by omega : _ ≤ _), ?_⟩) | (refine stp' ?_; intro K hK) | (clear hK K))
   all_goals (rw [wrap_succ hlt hlen1])
   all_goals (refine ⟨s ++ a, ?_, Gh.ts [(901, 162), (902, 165)]⟩)
   all_goals (refine ⟨?_, by rw [lA]; omega⟩; rw [hok]; simp only [Option.map_map]; congr 1; funext z; simp)
 ·rintro s hb ⟨hok, hsl⟩
  refine st ?_
  rw [lL, refL_nil] at hok
  repeat' (first | (simp only [go_sem, D, E, H, J, N, O, U, reduceCtorEq, V, W, Y, Z, zL, encP_eq g, lB, hb] <;> refine nf ?_) | (refine stp ?_; intro K hK) | (apply hK; clear hK K) | refine stn ?_ | (clear hK K))
  refine GhQ.step (xH 901 rfl rfl (by simp only [go_sem, D, E, H, J, N, O, U, reduceCtorEq, V, W, Y, Z, zL, encN_len, encW_len]) (by simp only [go_sem, D, E, H, J, N, O, U, reduceCtorEq, V, W, Y, Z, zL, encN_len, encW_len])) ?_
  simp only [go_sem, D, E, H, J, N, O, U, reduceCtorEq, V, W, Y, Z, zL, encN_len, encW_len]
  refine ⟨_, xH 902 rfl rfl (by simp only [go_sem, D, E, H, J, N, O, U, reduceCtorEq, V, W, Y, Z, zL, encN_len, encW_len]) (by simp only [go_sem, D, E, H, J, N, O, U, reduceCtorEq, V, W, Y, Z, zL, encN_len, encW_len]), ?_⟩
  simp only [go_sem, D, E, H, J, N, O, U, reduceCtorEq, V, W, Y, Z, zL, encN_len, encW_len]
  all_goals (first | exact nn | refine fin0 ?_)
  all_goals (rw [hok]; simp [refR])
theorem refMatch_c (g : Pat) (v : Val) (hs : PSm g) (hg : treeP g = true) (hv : treeB v = true) : PC zP 93 [Pt g, Vt v] (refR (refP g v)) := by
 have ih : ∀ k ∈ g.kids, ∀ w : Val, treeB w = true → PC zP 93 [.st (encP k), .st (encVal w)] (refR (refP k w)) := fun k hk w hw => refMatch_c k w (hs.kid k hk) (treeP_kid hg hk) hw
 have hvp := vP_of hg
 rcases kindsP hvp with hk | hk | hk | hk | hk | hk | hk | hk | hk | hk
 ·
  rw [refP_eq, hk]
  refine PCB.ob Tryz.func93 Tryz.ntmps93 Tryz.results93 ?_
  repeat' (first | (simp only [go_sem, D, E, H, J, N, O, U, reduceCtorEq, V, W, Y, Z, zL, encP_eq g, encVal_eq v, hk, lB] <;> refine nf ?_) | (refine stp ?_; intro K hK) | (apply hK; clear hK K) | refine stn ?_ | (clear hK K))
  all_goals (first | exact nn | refine fin0 ?_)
  all_goals (try simp only [Int.reduceEq, zb, dT, dF, cT, cF, refR_b, *])
  all_goals (first | done | rfl)
 ·
  rw [show refP g v = some [(g.text, v)] from by rw [refP_eq, hk]; rfl]
  refine PCB.ob Tryz.func93 Tryz.ntmps93 Tryz.results93 ?_
  repeat' (first | (simp only [go_sem, D, E, H, J, N, O, U, reduceCtorEq, V, W, Y, Z, zL, encP_eq g, encVal_eq v, hk, lB] <;> refine nf ?_) | (refine stp ?_; intro K hK) | (apply hK; clear hK K) | refine stn ?_ | (refine stp' ?_; intro K hK) | (clear hK K))
  all_goals (first | exact nn | refine fin0 ?_)
  all_goals (show _ = T.tup [.one (.dat (.sl 1 [Sx.encStr g.text])), .one (.dat (.sl 7 [encVal v])), Bo true]; rw [encVal_eq v]; rfl)
 iterate 4
  ·
   rw [refP_eq, hk]
   refine PCB.ob Tryz.func93 Tryz.ntmps93 Tryz.results93 ?_
   repeat' (first | (simp only [go_sem, D, E, H, J, N, O, U, reduceCtorEq, V, W, Y, Z, zL, encP_eq g, encVal_eq v, hk, lB] <;> refine nf ?_) | (refine stp ?_; intro K hK) | (apply hK; clear hK K) | refine stn ?_ | (refine ⟨fun h => ?_, fun h => ?_⟩ <;> (try simp only [zM, zN] at h) <;> try simp only [h]) | (refine stp' ?_; intro K hK) | (clear hK K))
   all_goals (first | exact nn | refine fin0 ?_)
   all_goals (try simp only [Int.reduceEq, zb, dT, dF, cT, cF, refR_b, *])
   all_goals (first | done | rfl)
 ·exact refM_7 g v hs hg hv ih hk
 ·exact refM_8 g v hs hg hv ih hk
 ·exact refM_9 g v hs hg hv ih hk
 ·exact refM_10 g v hs hg hv ih hk
termination_by cntP g
decreasing_by exact cntP_kid hk
def putAll : ME → ME → ME
 | m, [] => m
 | m, p :: l => putAll (putV p.1 p.2 m) l
theorem putAll_app : ∀ (a m b : ME), putAll m (a ++ b) = putAll (putAll m a) b
 | [], m, b => rfl
 | p :: a, m, b => by rw [List.cons_append, putAll, putAll, putAll_app a]
theorem matchL_cons (g : Pat) (l : List Pat) (v : Val) (vs : List Val) (m : ME) : matchL (g :: l) (v :: vs) m = bif (matchP g v m).1 then matchL l vs (matchP g v m).2 else (false, (matchP g v m).2) := by rw [matchL]
theorem matchM_cons (k : KeyD) (ks : List KeyD) (g : Pat) (l : List Pat) (v : Val) (m : ME) : matchM (k :: ks) (g :: l) v m = match valAt v k with
    | some w => bif (matchP g w m).1 then matchM ks l v (matchP g w m).2 else (false, (matchP g w m).2)
    | none => (false, m) := by rw [matchM]; all_goals (cases valAt v k <;> rfl)
def RelM (r : Option ME) (f : ME → MR) : Prop := (∀ l, r = some l → ∀ m, f m = (true, putAll m l)) ∧ (r = none → ∀ m, (f m).1 = false)
theorem rel_L : ∀ (l : List Pat) (vs : List Val), l.length = vs.length → (∀ g ∈ l, ∀ w ∈ vs, RelM (refP g w) (matchP g w)) → RelM (refL l vs) (matchL l vs)
 | [], vs, _, _ => ⟨fun l h m => by rw [refL_nil] at h; cases h; rw [matchL_nil]; rfl, fun h => by rw [refL_nil] at h; cases h⟩
 | g :: l, [], hlen, _ => by simp at hlen
 | g :: l, v :: vs, hlen, h => by
  obtain ⟨a1, a2⟩ := h g (by simp) v (by simp)
  obtain ⟨b1, b2⟩ := rel_L l vs (by simpa using hlen) (fun g hg w hw => h g (List.mem_cons_of_mem _ hg) w (List.mem_cons_of_mem _ hw))
  have hR : refL (g :: l) (v :: vs) = match refP g v with | some a => (refL l vs).map (a ++ ·) | none => none := by rw [refL]; all_goals (cases refP g v <;> rfl)
  rw [hR]
  cases hr : refP g v with
  | none => exact ⟨fun l h => (by cases h), fun _ m => by rw [matchL_cons, a2 hr m]; rfl⟩
  | some a =>
   cases hl : refL l vs with
   | none => exact ⟨fun l h => (by cases h), fun _ m => by rw [matchL_cons, a1 a hr m]; exact b2 hl _⟩
   | some b =>
    refine ⟨fun l h m => ?_, fun h => by cases h⟩
    cases h
    rw [matchL_cons, a1 a hr m]
    exact (b1 b hl _).trans (by rw [putAll_app])
theorem rel_M : ∀ (ks : List KeyD) (l : List Pat) (v : Val), ks.length = l.length → (∀ g ∈ l, ∀ w ∈ v.kids, RelM (refP g w) (matchP g w)) → RelM (match lookV ks v with | some ws => refL l ws | none => none) (matchM ks l v)
 | [], l, v, hlen, _ => by
  have : l = [] := List.length_eq_zero_iff.1 (by simpa using hlen.symm)
  subst this
  exact ⟨fun l h m => (by cases h; rfl), fun h => by cases h⟩
 | k :: ks, [], v, hlen, _ => by simp at hlen
 | k :: ks, g :: l, v, hlen, h => by
  have h2 := rel_M ks l v (by simpa using hlen) (fun g hg w hw => h g (List.mem_cons_of_mem _ hg) w hw)
  have hL : lookV (k :: ks) v = match valAt v k with | some w => (lookV ks v).map (w :: ·) | none => none := by rw [lookV]; all_goals (cases valAt v k <;> rfl)
  rw [hL]
  cases hv : valAt v k with
  | none => exact ⟨fun l h => (by cases h), fun _ m => by rw [matchM_cons, hv]⟩
  | some w =>
   obtain ⟨a1, a2⟩ := h g (by simp) w (valAt_mem hv)
   cases hl : lookV ks v with
   | none =>
    rw [hl] at h2
    refine ⟨fun l h => (by cases h), fun _ m => ?_⟩
    rw [matchM_cons, hv]
    show (bif (matchP g w m).1 then matchM ks l v (matchP g w m).2 else (false, (matchP g w m).2)).1 = false
    cases (matchP g w m).1
    ·rfl
    ·exact h2.2 rfl _
   | some ws =>
    rw [hl] at h2
    obtain ⟨b1, b2⟩ : RelM (refL l ws) (matchM ks l v) := h2
    show RelM (refL (g :: l) (w :: ws)) (matchM (k :: ks) (g :: l) v)
    have hR : refL (g :: l) (w :: ws) = match refP g w with | some a => (refL l ws).map (a ++ ·) | none => none := by rw [refL]; all_goals (cases refP g w <;> rfl)
    rw [hR]
    cases hr : refP g w with
    | none => exact ⟨fun l h => (by cases h), fun _ m => by rw [matchM_cons, hv]; show (bif (matchP g w m).1 then matchM ks l v (matchP g w m).2 else (false, (matchP g w m).2)).1 = false; rw [a2 hr m]; rfl⟩
    | some a =>
     cases hb : refL l ws with
     | none => exact ⟨fun l h => (by cases h), fun _ m => by rw [matchM_cons, hv]; show (bif (matchP g w m).1 then matchM ks l v (matchP g w m).2 else (false, (matchP g w m).2)).1 = false; rw [a1 a hr m]; exact b2 hb _⟩
     | some b =>
      refine ⟨fun l h m => ?_, fun h => by cases h⟩
      cases h
      rw [matchM_cons, hv]
      show (bif (matchP g w m).1 then matchM ks l v (matchP g w m).2 else (false, (matchP g w m).2)) = (true, putAll m (a ++ b))
      rw [a1 a hr m]
      exact (b1 b hb _).trans (by rw [putAll_app])
theorem rel_b (b : Bool) : RelM (bif b then some [] else none) (fun m => (b, m)) := by
 cases b
 ·exact ⟨fun l h => (by cases h), fun _ m => rfl⟩
 ·exact ⟨fun l h m => (by cases h; rfl), fun h => by cases h⟩
theorem rel_none (f : ME → MR) (h : ∀ m, (f m).1 = false) : RelM none f := ⟨fun l h => (by cases h), fun _ m => h m⟩
theorem rel_some (a : ME) (f : ME → MR) (h : ∀ m, f m = (true, putAll m a)) : RelM (some a) f := ⟨fun l e m => (by cases e; exact h m), fun h => by cases h⟩
theorem rel_P (g : Pat) (v : Val) (hg : treeP g = true) (hv : treeB v = true) : RelM (refP g v) (matchP g v) := by
 have ih : ∀ k ∈ g.kids, ∀ w : Val, treeB w = true → RelM (refP k w) (matchP k w) := fun k hk w hw => rel_P k w (treeP_kid hg hk) hw
 have hf : matchP g v = fun m => matchP g v m := rfl
 rw [hf]
 simp only [matchP_eq]
 rw [refP_eq]
 rcases kindsP (vP_of hg) with hk | hk | hk | hk | hk | hk | hk | hk | ⟨hk, hkk⟩ | ⟨hk, k0, hk0⟩
 ·rw [hk]; exact rel_some [] _ fun m => rfl
 ·rw [hk]; exact rel_some [(g.text, v)] _ fun m => rfl
 ·rw [hk]; exact rel_b _
 ·rw [hk]; exact rel_b _
 ·rw [hk]; exact rel_b _
 ·rw [hk]; exact rel_b _
 ·rw [hk]
  show RelM (bif decide (v.kind = 6) && decide (g.kids.length = v.kids.length) then refL g.kids v.kids else none) (fun m => bif decide (v.kind = 6) && decide (g.kids.length = v.kids.length) then matchL g.kids v.kids m else (false, m))
  cases hz : decide (v.kind = 6) && decide (g.kids.length = v.kids.length)
  ·exact rel_none _ fun m => rfl
  ·rw [Bool.and_eq_true, decide_eq_true_eq, decide_eq_true_eq] at hz
   exact rel_L g.kids v.kids hz.2 fun k hk w hw => ih k hk w (treeB_kid hv hw)
 ·rw [hk]
  show RelM (bif decide (v.kind = 7) && decide (g.kids.length = v.kids.length) then refL g.kids v.kids else none) (fun m => bif decide (v.kind = 7) && decide (g.kids.length = v.kids.length) then matchL g.kids v.kids m else (false, m))
  cases hz : decide (v.kind = 7) && decide (g.kids.length = v.kids.length)
  ·exact rel_none _ fun m => rfl
  ·rw [Bool.and_eq_true, decide_eq_true_eq, decide_eq_true_eq] at hz
   exact rel_L g.kids v.kids hz.2 fun k hk w hw => ih k hk w (treeB_kid hv hw)
 ·rw [hk]
  show RelM (bif decide (v.kind = 8) then (match lookV g.keys v with | some ws => refL g.kids ws | none => none) else none) (fun m => bif decide (v.kind = 8) then matchM g.keys g.kids v m else (false, m))
  cases hz : decide (v.kind = 8)
  ·exact rel_none _ fun m => rfl
  ·exact rel_M g.keys g.kids v hkk fun k hk w hw => ih k hk w (treeB_kid hv hw)
 ·rw [hk, hk0]
  have h0 := ih k0 (by rw [hk0]; simp) v hv
  show RelM ((refP k0 v).map ((g.text, v) :: ·)) (fun m => matchP k0 v (putV g.text v m))
  cases hr : refP k0 v with
  | none => exact rel_none _ fun m => h0.2 hr _
  | some a => exact rel_some _ _ fun m => h0.1 a hr _
termination_by cntP g
decreasing_by exact cntP_kid hk
def pickV (l : ME) (n : List UInt8) : List Val := l.flatMap fun p => bif decide (p.1 = n) then [p.2] else []
theorem getV_all : ∀ (l m : ME) (n : List UInt8), n ∉ l.map (·.1) → getV n (putAll m l) = getV n m
 | [], m, n, _ => rfl
 | p :: l, m, n, h => by
  simp only [lE, List.mem_cons, not_or] at h
  rw [putAll, getV_all l _ n h.2, getV_put, if_neg (fun e => h.1 e.symm)]
theorem getV_mem : ∀ (l m : ME) (n : List UInt8) (w : Val), (l.map (·.1)).Nodup → (n, w) ∈ l → getV n (putAll m l) = some w
 | p :: l, m, n, w, hn, h => by
  simp only [lE, List.nodup_cons] at hn
  rw [putAll]
  rcases List.mem_cons.1 h with rfl | h
  ·rw [getV_all l _ n hn.1, getV_put, if_pos rfl]
  ·exact getV_mem l _ n w hn.2 h
theorem pick_none : ∀ (l : ME) (n : List UInt8), n ∉ l.map (·.1) → pickV l n = []
 | [], n, _ => rfl
 | p :: l, n, h => by
  simp only [lE, List.mem_cons, not_or] at h
  have ih := pick_none l n h.2
  unfold pickV at ih ⊢
  rw [List.flatMap_cons, ih, decide_eq_false (fun e => h.1 e.symm)]; rfl
end Go.Proofs.YtajfdbdklphonaaGreat