/- Lemmas; conditions: as each states. -/
import Derived.Test.YtajfdbdklphonaaGreatDm10b
open Go.Proofs.Tryz renaming prog → zP
open List renaming length_append → lA, length_map → lB, length_cons → lC, length_nil → lD, map_nil → lF, take_length → lK, drop_length → lL, flatMap_append → lM, mem_singleton → lN, take_add_one → lO, mem_of_getElem? → lP, length_take → lQ
open Go.Sx.AWP renaming range → xC, gh → xD, lenB → xE, len → xF
open Go.Sx.Gh renaming nilrow → xI
open Nat renaming reduceBEq → zA, reduceBNe → zB, reduceAdd → zC, reduceSub → zD, reduceMul → zE, reduceLeDiff → zF, reduceLT → zG, reduceEqDiff → zH
open Int renaming reduceToNat → zI, reduceLE → zJ, reduceLT → zK, reduceEq → zL
open Bool renaming not_eq_true' → zM, not_eq_false' → zN
set_option linter.unusedVariables false
set_option linter.unusedSimpArgs false
set_option maxRecDepth 20000
set_option maxHeartbeats 16000000
namespace Go.Proofs.YtajfdbdklphonaaGreat
open Go Go.Sx
theorem mat_kids8 (f dep : Nat) (hdp : dep ≤ 1000) (d : Dat) (s : Src) (hs : s.ok) (hl : d.kids.length ≤ 1000000) (hyl : d.keys.length ≤ 1000000) (h0 : kM dep s ≠ 0) (h1 : kM dep s ≠ 1) (h2 : kM dep s ≠ 2) (hk : d.kind = 8) (IH : ∀ x ∈ d.kids, ∀ t : Src, t.ok → rem t ≤ rem (nextS s 7) → MatC f (dep - 1) x t) : MatC (f + 1) dep d s := by
  unfold MatC
  rw [matD_rest h0 h1 h2]
  have hsel : (bif decide (d.kind = 6) || decide (d.kind = 7) || decide (d.kind = 8) then
      (kidsQ (kdP d.kind) [] (bif decide (d.kind = 8) then d.keys else []) (matL (matD f (dep - 1)) d.kids (nextS s 7)).1, (matL (matD f (dep - 1)) d.kids (nextS s 7)).2) else
    bif decide (d.kind = 1) then (leafP 3 d.num [], nextS s 7) else
    bif decide (d.kind = 3) then (leafP 5 0 d.text, nextS s 7) else (leafP 2 0 [86], nextS s 7)) = (kidsQ 9 [] d.keys (matL (matD f (dep - 1)) d.kids (nextS s 7)).1, (matL (matD f (dep - 1)) d.kids (nextS s 7)).2) := by rw [hk]; rfl
  rw [hsel]
  have hs1 := ok_next hs 7
  have hmx : (if (0 : Int) > IntKind.i64.wrap ((dep : Int) - 1) then (0 : Int) else IntKind.i64.wrap ((dep : Int) - 1)) = ((dep - 1 : Nat) : Int) := by
    rw [w64 (by omega)]
    split <;> omega
  have hkd : ∀ n : Int, decide (d.kind = n) = decide (8 = n) := fun n => by rw [hk]
  obtain ⟨e0, e1, e2, hcs⟩ := kM_rest h0 h1 h2
  have hcs' : (decide ((dep : Int) = 0) = false ∧ decide (3 < nextV s 7) = false) ∨ (decide ((dep : Int) = 0) = false ∧ decide (3 < nextV s 7) = true) ∨ (decide ((dep : Int) = 0) = true ∧ decide (3 < nextV s 7) = false) := by
    rcases hcs with ⟨a, b, c⟩ | ⟨a, c⟩
    · cases b
      · exact .inl ⟨a, c⟩
      · exact .inr (.inl ⟨a, c⟩)
    · exact .inr (.inr ⟨a, c⟩)
  rcases hcs' with ⟨hd0, h3⟩ | ⟨hd0, h3⟩ | ⟨hd0, h3⟩
  iterate 3
    ·
      refine PCB.ob Tryz.func5 Tryz.ntmps5 Tryz.results5 ?_
      repeat' (first | (simp only [go_sem, zA, zB, zC, zD, zE, zF, zG, reduceCtorEq, zH, zI, zJ, zK, zL, pin, hd0, h3, e0, e1, e2, hkd, encDat_eq d, lB] <;> refine nf ?_) | (refine stp ?_; intro K hK) | (apply hK; clear hK K) | refine stn ?_ | (with_reducible (refine ⟨(by first | omega | (simp only [lA, lB, lQ, List.length_drop, lC, lD, List.length_replicate]; omega) : _ ≤ _), ?_⟩)) | (refine ⟨1000000, _, _, _, next_k 1000000 s hs _ (by omega), rfl, ?_⟩) | fail)
      refine xD (Gh.fz 64) ?_
      simp only [go_sem, zA, zB, zC, zD, zE, zF, zG, reduceCtorEq, zH, zI, zJ, zK, zL, lB]
      refine xD (Gh.nilcell 8 3 900 rfl rfl rfl (by simp only [go_sem, zA, zB, zC, zD, zE, zF, zG, reduceCtorEq, zH, zI, zJ, zK, zL]) (by simp only [go_sem, zA, zB, zC, zD, zE, zF, zG, reduceCtorEq, zH, zI, zJ, zK, zL])) ?_
      refine xE 4 3 rfl rfl fun hlen0 => ?_
      (try rw [lB] at hlen0)
      refine xC (S := List Pat × Src) (d.kids) encDat (fun k s => (70, I .i64 (k : Nat)) :: [(0, Sp 1000000)]) (fun k s => [(1000000, srcB s.2), (8, patBox 9 s.1.length (.sl 2 (d.keys.map encKey))), (900, .row 5 (s.1.map encP))]) [2, 6, 8, 68, 69] [6] (fun k t => t.2.ok ∧ rem t.2 ≤ rem (nextS s 7) ∧ t.1.length = k ∧ matL (matD f (dep - 1)) d.kids (nextS s 7) = (t.1 ++ (matL (matD f (dep - 1)) (d.kids.drop k) t.2).1, (matL (matD f (dep - 1)) (d.kids.drop k) t.2).2)) (([], nextS s 7)) (by simp only [go_sem, zA, zB, zC, zD, zE, zF, zG, reduceCtorEq, zH, zI, zJ, zK, zL, encDat_eq d]; exact Gh.tt []) ?_ ?_ ?_
      · exact ⟨hs1, Nat.le_refl _, rfl, rfl⟩
      · rintro k t x hlt hx hx' hb ⟨ht, hr, htl, hok⟩
        refine sts ?_
        rw [matL_step _ hx] at hok
        have c1 : PCBk zP 5 [Sp 1000000, Dt x, I .i64 (dep - 1 : Nat)] 1000000 (srcB t.2) (Pt (matD f (dep - 1) x t.2).1) (srcB (matD f (dep - 1) x t.2).2) := PCBk.mk 1000000 (IH x (lP hx) t.2 ht hr)
        have hmo := mat_ok f (dep - 1) x t.2 ht
        have hmr := mat_rem f (dep - 1) x t.2
        repeat' (first | (simp only [go_sem, zA, zB, zC, zD, zE, zF, zG, reduceCtorEq, zH, zI, zJ, zK, zL, pin, hb, hmx, encDat_eq d, lB, pat_snoc] <;> refine nf ?_) | (refine stp ?_; intro K hK) | (apply hK; clear hK K) | refine stn ?_ | (with_reducible first | refine ⟨by omega, encDat x, hx', ?_⟩ | (refine ⟨(by first | omega | (simp only [lA, lB, lQ, List.length_drop, lC, lD, List.length_replicate]; omega) : _ ≤ _), ?_⟩)) | (refine ⟨1000000, _, _, _, c1, rfl, ?_⟩) | (with_reducible refine AWP.genR2 (id := 19) [7,9,11] [1000000,8,900] [1] 11 [1000000,900] mixed (by kernel_rfl) fun K hK => ?_; simp only [Bx.outs, Bx.drop, cond_true, cond_false, Nat.reduceBEq, go_sem]) | (clear hK K))
        all_goals (rw [wrap_succ hlt hlen0])
        all_goals (refine ⟨(t.1 ++ [(matD f (dep - 1) x t.2).1], (matD f (dep - 1) x t.2).2), ?_, Gh.tt [(900, 83)]⟩)
        all_goals exact ⟨hmo, by simp only; omega, by simp [htl], hok⟩
      · rintro t hb ⟨ht, hr, htl, hok⟩
        refine sts ?_
        rw [lL, matL, List.append_nil] at hok
        refine xD (Gh.fz 900) ?_
        simp only [go_sem, zA, zB, zC, zD, zE, zF, zG, reduceCtorEq, zH, zI, zJ, zK, zL, lB]
        repeat' (first | (simp only [go_sem, zA, zB, zC, zD, zE, zF, zG, reduceCtorEq, zH, zI, zJ, zK, zL, pin, hb, encDat_eq d, lB] <;> refine nf ?_) | (refine stp ?_; intro K hK) | (apply hK; clear hK K) | refine stn ?_ | (clear hK K))
        all_goals (rw [hok]; simp only [kidsQ_lit, lF])
        all_goals (refine ⟨by first | trivial | rfl, fun x hx => ?_⟩; simp only [lN] at hx; subst hx; simp)
theorem matcher_c : ∀ (f dep : Nat), dep ≤ 1000 → ∀ (d : Dat), Small d → ∀ s : Src, s.ok → rem s + cntD d < f → MatC f dep d s
 | 0, dep, _, d, _, s, _, h => by omega
 | f + 1, dep, hd, d, hm, s, hs, h => by
  have IH := matcher_c f
  have hs1 := ok_next hs 7
  have hr := rem_next s 7
  by_cases h0 : kM dep s = 0
  ·exact mat_0 f dep d s hs h0
  by_cases h1 : kM dep s = 1
  ·exact mat_1 f dep d s hs h1
  by_cases h2 : kM dep s = 2
  ·refine mat_2 f dep d s hs h2 (IH 0 (by omega) d hm _ hs1 ?_)
   have hv : nextV s 7 ≠ 0 := fun e => by
    unfold kM at h2
    rw [e] at h2
    cases hz : decide ((dep : Int) = 0) && decide ((3 : Int) < 0) <;> rw [hz] at h2 <;> cases h2
   have := rem_less hv
   omega
  have hk : ∀ x ∈ d.kids, ∀ t : Src, t.ok → rem t ≤ rem (nextS s 7) → MatC f (dep - 1) x t := fun x hx t ht htr => IH (dep - 1) (by omega) x (hm.kid x hx) t ht (by have := cntD_kid hx; omega)
  by_cases h6 : d.kind = 6
  ·exact mat_kids6 f dep hd d s hs hm.kids h0 h1 h2 h6 hk
  by_cases h7 : d.kind = 7
  ·exact mat_kids7 f dep hd d s hs hm.kids h0 h1 h2 h7 hk
  by_cases h8 : d.kind = 8
  ·exact mat_kids8 f dep hd d s hs hm.kids hm.keys h0 h1 h2 h8 hk
  exact mat_leaf f dep d s hs h0 h1 h2 (decide_eq_false h6) (decide_eq_false h7) (decide_eq_false h8)
def nameP (k : Int) : Bool := decide (k = 2) || decide (k = 10)
theorem nameP_cases (k : Int) : (decide (k = 2) = true ∧ nameP k = true) ∨ (decide (k = 2) = false ∧ decide (k = 10) = true ∧ nameP k = true) ∨ (decide (k = 2) = false ∧ decide (k = 10) = false ∧ nameP k = false) := by
 unfold nameP; cases decide (k = 2) <;> cases decide (k = 10) <;> simp
theorem str_appP (l m : List (List UInt8)) : l.map encStr ++ m.map encStr = (l ++ m).map encStr := by simp
mutual
def collP : Pat → List (List UInt8)
 | ⟨kind, num, text, kids, keys⟩ => (bif nameP kind then [text] else []) ++ collPs kids
def collPs : List Pat → List (List UInt8)
 | [] => []
 | g :: l => collP g ++ collPs l
end
theorem collPs_flat : ∀ l : List Pat, collPs l = l.flatMap collP
 | [] => by simp only [collPs, List.flatMap_nil]
 | g :: l => by simp only [collPs, List.flatMap_cons, collPs_flat l]
theorem collP_eq (g : Pat) : collP g = (bif nameP g.kind then [g.text] else []) ++ g.kids.flatMap collP := by cases g; simp only [collP, collPs_flat]
mutual
theorem collP_len : ∀ g : Pat, (collP g).length ≤ cntP g
 | ⟨kind, num, text, kids, keys⟩ => by
  have h := collPs_len kids
  simp only [collP, cntP, lA]
  cases nameP kind <;> simp only [cond_true, cond_false, lC, lD] <;> omega
theorem collPs_len : ∀ l : List Pat, (collPs l).length ≤ cntPs l
 | [] => by simp [collPs]
 | g :: l => by have h1 := collP_len g; have h2 := collPs_len l; simp only [collPs, cntPs, lA]; omega
end
theorem collP_flat (l : List Pat) : (l.flatMap collP).length ≤ cntPs l := by rw [← collPs_flat]; exact collPs_len l
abbrev SsP (l : List (List UInt8)) : T := .one (.dat (.sl 1 (l.map encStr)))
theorem collectP_c (g : Pat) (hg : PSm g) : PC zP 46 [Pt g] (SsP (collP g)) := by
 have ih : ∀ k ∈ g.kids, PC zP 46 [Pt k] (SsP (collP k)) := fun k hk => collectP_c k (hg.kid k hk)
 have hce := cntP_eq g
 unfold PSm at hg
 rw [collP_eq]
 rcases nameP_cases g.kind with ⟨c1, ht⟩ | ⟨c1, c2, ht⟩ | ⟨c1, c2, ht⟩ <;> rw [ht]
 iterate 2
  ·
   first | have c3 := c2 | have c2 := c1
   refine PCB.ob Tryz.func46 Tryz.ntmps46 Tryz.results46 ?_
   refine AWP.ghQ ?_
   repeat' (first | (simp only [go_sem, zA, zB, zC, zD, zE, zF, zG, reduceCtorEq, zH, zI, zJ, zK, zL, encP_eq g, c1, c2, cond_true, lB] <;> refine nf ?_) | (refine stp ?_; intro K hK) | (apply hK; clear hK K) | refine stn ?_ | refine stq ?_ | fail)
   refine xD (Gh.rename 18 900 rfl rfl rfl rfl) ?_
   simp only [go_sem, zA, zB, zC, zD, zE, zF, zG, reduceCtorEq, zH, zI, zJ, zK, zL]
   refine xF 20 rfl fun hlen0 => ?_
   (try rw [lB] at hlen0)
   refine xC (S := List (List UInt8)) (g.kids) encP (fun k s => (22, I .i64 (k : Nat)) :: [(3, .one (.own 900 s.length))]) (fun k s => [(900, .row 1 (s.map encStr))]) [20, 21] [] (fun k s => Is s ([g.text] ++ (g.kids.take k).flatMap collP)) ([g.text]) (by simp only [go_sem, zA, zB, zC, zD, zE, zF, zG, reduceCtorEq, zH, zI, zJ, zK, zL, encP_eq]; exact Gh.tt []) ?_ ?_ ?_
   ·simp [Is]
   ·intro k s x hlt hx hx' hb hok
    refine sts ?_
    have hix := ih x (lP hx)
    have hct := cntPs_take hx
    have hcl := cntPs_le g.kids (k + 1)
    have hfl := collP_flat (g.kids.take k)
    have hxl := collP_len x
    have hsl : s.length ≤ 1 + cntPs (g.kids.take k) := by rw [show s = _ from hok, lA]; simp only [lC, lD]; omega
    repeat' (first | (simp only [go_sem, zA, zB, zC, zD, zE, zF, zG, reduceCtorEq, zH, zI, zJ, zK, zL, encP_eq g, lB, hb, str_appP] <;> refine nf ?_) | (refine stp ?_; intro K hK) | (apply hK; clear hK K) | refine stn ?_ | (with_reducible first | refine ⟨_, hix, ?_⟩ | refine ⟨by omega, encP x, hx', ?_⟩ | refine ⟨(by omega : _ ≤ _), ?_⟩) | refine stq ?_ | (clear hK K))
    all_goals (rw [wrap_succ hlt hlen0])
    all_goals (refine ⟨s ++ collP x, ?_, Gh.tt [(900, 29)]⟩)
    all_goals (unfold Is at hok ⊢; rw [lO, hx, lM, hok]; simp)
   ·intro s hb hok
    refine sts ?_
    rw [Is, lK] at hok
    repeat' (first | (simp only [go_sem, zA, zB, zC, zD, zE, zF, zG, reduceCtorEq, zH, zI, zJ, zK, zL, encP_eq g, lB, hb] <;> refine nf ?_) | (refine stp ?_; intro K hK) | (apply hK; clear hK K) | refine stn ?_ | (clear hK K))
    refine ⟨_, Gh.fz 900, ?_⟩
    simp only [go_sem, zA, zB, zC, zD, zE, zF, zG, reduceCtorEq, zH, zI, zJ, zK, zL, lB]
    all_goals (first | exact nn | refine fin0 ?_)
    all_goals (rw [show s = _ from hok]; rfl)
 ·
  refine PCB.ob Tryz.func46 Tryz.ntmps46 Tryz.results46 ?_
  refine AWP.ghQ ?_
  repeat' (first | (simp only [go_sem, zA, zB, zC, zD, zE, zF, zG, reduceCtorEq, zH, zI, zJ, zK, zL, encP_eq g, c1, c2, cond_true, lB] <;> refine nf ?_) | (refine stp ?_; intro K hK) | (apply hK; clear hK K) | refine stn ?_ | fail)
  refine xD (xI 3 900 rfl rfl rfl rfl) ?_
  refine xF 20 rfl fun hlen0 => ?_
  (try rw [lB] at hlen0)
  refine xC (S := List (List UInt8)) (g.kids) encP (fun k s => (22, I .i64 (k : Nat)) :: [(3, .one (.own 900 s.length))]) (fun k s => [(900, .row 1 (s.map encStr))]) [20, 21] [] (fun k s => Is s ([] ++ (g.kids.take k).flatMap collP)) ([]) (by simp only [go_sem, zA, zB, zC, zD, zE, zF, zG, reduceCtorEq, zH, zI, zJ, zK, zL, encP_eq]; exact Gh.tt []) ?_ ?_ ?_
  ·simp [Is]
  ·intro k s x hlt hx hx' hb hok
   refine sts ?_
   have hix := ih x (lP hx)
   have hct := cntPs_take hx
   have hcl := cntPs_le g.kids (k + 1)
   have hfl := collP_flat (g.kids.take k)
   have hxl := collP_len x
   have hsl : s.length ≤ 1 + cntPs (g.kids.take k) := by rw [show s = _ from hok, lA]; simp only [lC, lD]; omega
   repeat' (first | (simp only [go_sem, zA, zB, zC, zD, zE, zF, zG, reduceCtorEq, zH, zI, zJ, zK, zL, encP_eq g, lB, hb, str_appP] <;> refine nf ?_) | (refine stp ?_; intro K hK) | (apply hK; clear hK K) | refine stn ?_ | (with_reducible first | refine ⟨_, hix, ?_⟩ | refine ⟨by omega, encP x, hx', ?_⟩ | refine ⟨(by omega : _ ≤ _), ?_⟩) | refine stq ?_ | (clear hK K))
   all_goals (rw [wrap_succ hlt hlen0])
   all_goals (refine ⟨s ++ collP x, ?_, Gh.tt [(900, 29)]⟩)
   all_goals (unfold Is at hok ⊢; rw [lO, hx, lM, hok]; simp)
  ·intro s hb hok
   refine sts ?_
   rw [Is, lK] at hok
   repeat' (first | (simp only [go_sem, zA, zB, zC, zD, zE, zF, zG, reduceCtorEq, zH, zI, zJ, zK, zL, encP_eq g, lB, hb] <;> refine nf ?_) | (refine stp ?_; intro K hK) | (apply hK; clear hK K) | refine stn ?_ | (clear hK K))
   refine ⟨_, Gh.fz 900, ?_⟩
   simp only [go_sem, zA, zB, zC, zD, zE, zF, zG, reduceCtorEq, zH, zI, zJ, zK, zL, lB]
   all_goals (first | exact nn | refine fin0 ?_)
   all_goals (rw [show s = _ from hok]; rfl)
termination_by cntP g
decreasing_by exact cntP_kid hk
theorem collectP_n (g : Pat) (hg : PSm g) : PCN zP 46 [Pt g] (.one (.own 0 (collP g).length)) (.row 1 ((collP g).map encStr)) := by
 have ih : ∀ k ∈ g.kids, PC zP 46 [Pt k] (SsP (collP k)) := fun k hk => collectP_c k (hg.kid k hk)
 have hce := cntP_eq g
 unfold PSm at hg
 rw [collP_eq]
 rcases nameP_cases g.kind with ⟨c1, ht⟩ | ⟨c1, c2, ht⟩ | ⟨c1, c2, ht⟩ <;> rw [ht]
 iterate 2
  ·
   first | have c3 := c2 | have c2 := c1
   refine PCN.of_body 900 Tryz.func46 rfl (by decide) Tryz.ntmps46 Tryz.results46 rfl rfl ?_
   refine AWP.ghQ ?_
   repeat' (first | (simp only [go_sem, zA, zB, zC, zD, zE, zF, zG, reduceCtorEq, zH, zI, zJ, zK, zL, encP_eq g, c1, c2, cond_true, lB] <;> refine nf ?_) | (refine stp ?_; intro K hK) | (apply hK; clear hK K) | refine stn ?_ | refine stq ?_ | fail)
   refine xD (Gh.rename 18 900 rfl rfl rfl rfl) ?_
   simp only [go_sem, zA, zB, zC, zD, zE, zF, zG, reduceCtorEq, zH, zI, zJ, zK, zL]
   refine xF 20 rfl fun hlen0 => ?_
   (try rw [lB] at hlen0)
   refine xC (S := List (List UInt8)) (g.kids) encP (fun k s => (22, I .i64 (k : Nat)) :: [(3, .one (.own 900 s.length))]) (fun k s => [(900, .row 1 (s.map encStr))]) [20, 21] [] (fun k s => Is s ([g.text] ++ (g.kids.take k).flatMap collP)) ([g.text]) (by simp only [go_sem, zA, zB, zC, zD, zE, zF, zG, reduceCtorEq, zH, zI, zJ, zK, zL, encP_eq]; exact Gh.tt []) ?_ ?_ ?_
   ·simp [Is]
   ·intro k s x hlt hx hx' hb hok
    refine sts ?_
    have hix := ih x (lP hx)
    have hct := cntPs_take hx
    have hcl := cntPs_le g.kids (k + 1)
    have hfl := collP_flat (g.kids.take k)
    have hxl := collP_len x
    have hsl : s.length ≤ 1 + cntPs (g.kids.take k) := by rw [show s = _ from hok, lA]; simp only [lC, lD]; omega
    repeat' (first | (simp only [go_sem, zA, zB, zC, zD, zE, zF, zG, reduceCtorEq, zH, zI, zJ, zK, zL, encP_eq g, lB, hb, str_appP] <;> refine nf ?_) | (refine stp ?_; intro K hK) | (apply hK; clear hK K) | refine stn ?_ | (with_reducible first | refine ⟨_, hix, ?_⟩ | refine ⟨by omega, encP x, hx', ?_⟩ | refine ⟨(by omega : _ ≤ _), ?_⟩) | refine stq ?_ | (clear hK K))
    all_goals (rw [wrap_succ hlt hlen0])
    all_goals (refine ⟨s ++ collP x, ?_, Gh.tt [(900, 29)]⟩)
    all_goals (unfold Is at hok ⊢; rw [lO, hx, lM, hok]; simp)
   ·intro s hb hok
    refine sts ?_
    rw [Is, lK] at hok
    repeat' (first | (simp only [go_sem, zA, zB, zC, zD, zE, zF, zG, reduceCtorEq, zH, zI, zJ, zK, zL, encP_eq g, lB, hb] <;> refine nf ?_) | (refine stp ?_; intro K hK) | (apply hK; clear hK K) | refine stn ?_ | (clear hK K))
    refine ⟨_, Gh.refl _, ?_⟩
    simp only [go_sem, zA, zB, zC, zD, zE, zF, zG, reduceCtorEq, zH, zI, zJ, zK, zL, lB]
    subst hok
    exact ⟨rfl, fun x hx => hx⟩
 ·
  refine PCN.of_body 900 Tryz.func46 rfl (by decide) Tryz.ntmps46 Tryz.results46 rfl rfl ?_
  refine AWP.ghQ ?_
  repeat' (first | (simp only [go_sem, zA, zB, zC, zD, zE, zF, zG, reduceCtorEq, zH, zI, zJ, zK, zL, encP_eq g, c1, c2, cond_true, lB] <;> refine nf ?_) | (refine stp ?_; intro K hK) | (apply hK; clear hK K) | refine stn ?_ | fail)
  refine xD (xI 3 900 rfl rfl rfl rfl) ?_
  refine xF 20 rfl fun hlen0 => ?_
  (try rw [lB] at hlen0)
  refine xC (S := List (List UInt8)) (g.kids) encP (fun k s => (22, I .i64 (k : Nat)) :: [(3, .one (.own 900 s.length))]) (fun k s => [(900, .row 1 (s.map encStr))]) [20, 21] [] (fun k s => Is s ([] ++ (g.kids.take k).flatMap collP)) ([]) (by simp only [go_sem, zA, zB, zC, zD, zE, zF, zG, reduceCtorEq, zH, zI, zJ, zK, zL, encP_eq]; exact Gh.tt []) ?_ ?_ ?_
  ·simp [Is]
  ·intro k s x hlt hx hx' hb hok
   refine sts ?_
   have hix := ih x (lP hx)
   have hct := cntPs_take hx
   have hcl := cntPs_le g.kids (k + 1)
   have hfl := collP_flat (g.kids.take k)
   have hxl := collP_len x
   have hsl : s.length ≤ 1 + cntPs (g.kids.take k) := by rw [show s = _ from hok, lA]; simp only [lC, lD]; omega
   repeat' (first | (simp only [go_sem, zA, zB, zC, zD, zE, zF, zG, reduceCtorEq, zH, zI, zJ, zK, zL, encP_eq g, lB, hb, str_appP] <;> refine nf ?_) | (refine stp ?_; intro K hK) | (apply hK; clear hK K) | refine stn ?_ | (with_reducible first | refine ⟨_, hix, ?_⟩ | refine ⟨by omega, encP x, hx', ?_⟩ | refine ⟨(by omega : _ ≤ _), ?_⟩) | refine stq ?_ | (clear hK K))
   all_goals (rw [wrap_succ hlt hlen0])
   all_goals (refine ⟨s ++ collP x, ?_, Gh.tt [(900, 29)]⟩)
   all_goals (unfold Is at hok ⊢; rw [lO, hx, lM, hok]; simp)
  ·intro s hb hok
   refine sts ?_
   rw [Is, lK] at hok
   repeat' (first | (simp only [go_sem, zA, zB, zC, zD, zE, zF, zG, reduceCtorEq, zH, zI, zJ, zK, zL, encP_eq g, lB, hb] <;> refine nf ?_) | (refine stp ?_; intro K hK) | (apply hK; clear hK K) | refine stn ?_ | (clear hK K))
   refine ⟨_, Gh.refl _, ?_⟩
   simp only [go_sem, zA, zB, zC, zD, zE, zF, zG, reduceCtorEq, zH, zI, zJ, zK, zL, lB]
   subst hok
   exact ⟨rfl, fun x hx => hx⟩
theorem occurrences_c (g : Pat) (hg : PSm g) : PC zP 90 [Pt g] (SsP (collP g)) := by
 have ih : ∀ k ∈ g.kids, PC zP 90 [Pt k] (SsP (collP k)) := fun k hk => occurrences_c k (hg.kid k hk)
 have hce := cntP_eq g
 unfold PSm at hg
 rw [collP_eq]
 rcases nameP_cases g.kind with ⟨c1, ht⟩ | ⟨c1, c2, ht⟩ | ⟨c1, c2, ht⟩ <;> rw [ht]
 iterate 2
  ·
   first | have c3 := c2 | have c2 := c1
   refine PCB.ob Tryz.func90 Tryz.ntmps90 Tryz.results90 ?_
   refine AWP.ghQ ?_
   repeat' (first | (simp only [go_sem, zA, zB, zC, zD, zE, zF, zG, reduceCtorEq, zH, zI, zJ, zK, zL, encP_eq g, c1, c2, cond_true, lB] <;> refine nf ?_) | (refine stp ?_; intro K hK) | (apply hK; clear hK K) | refine stn ?_ | refine stq ?_ | fail)
   refine xD (Gh.rename 17 900 rfl rfl rfl rfl) ?_
   simp only [go_sem, zA, zB, zC, zD, zE, zF, zG, reduceCtorEq, zH, zI, zJ, zK, zL]
   refine xE 1 3 rfl rfl fun hlen0 => ?_
   (try rw [lB] at hlen0)
   refine xC (S := List (List UInt8)) (g.kids) encP (fun k s => (4, I .i64 (k : Nat)) :: [(3, .one (.own 900 s.length))]) (fun k s => [(900, .row 1 (s.map encStr))]) [1] [1] (fun k s => Is s ([g.text] ++ (g.kids.take k).flatMap collP)) ([g.text]) (by simp only [go_sem, zA, zB, zC, zD, zE, zF, zG, reduceCtorEq, zH, zI, zJ, zK, zL, encP_eq]; exact Gh.tt []) ?_ ?_ ?_
   ·simp [Is]
   ·intro k s x hlt hx hx' hb hok
    refine sts ?_
    have hix := ih x (lP hx)
    have hct := cntPs_take hx
    have hcl := cntPs_le g.kids (k + 1)
    have hfl := collP_flat (g.kids.take k)
    have hxl := collP_len x
    have hsl : s.length ≤ 1 + cntPs (g.kids.take k) := by rw [show s = _ from hok, lA]; simp only [lC, lD]; omega
    repeat' (first | (simp only [go_sem, zA, zB, zC, zD, zE, zF, zG, reduceCtorEq, zH, zI, zJ, zK, zL, encP_eq g, lB, hb, str_appP] <;> refine nf ?_) | (refine stp ?_; intro K hK) | (apply hK; clear hK K) | refine stn ?_ | (with_reducible first | refine ⟨_, hix, ?_⟩ | refine ⟨by omega, encP x, hx', ?_⟩ | refine ⟨(by omega : _ ≤ _), ?_⟩) | refine stq ?_ | (clear hK K))
    all_goals (rw [wrap_succ hlt hlen0])
    all_goals (refine ⟨s ++ collP x, ?_, Gh.tt [(900, 32)]⟩)
    all_goals (unfold Is at hok ⊢; rw [lO, hx, lM, hok]; simp)
   ·intro s hb hok
    refine sts ?_
    rw [Is, lK] at hok
    repeat' (first | (simp only [go_sem, zA, zB, zC, zD, zE, zF, zG, reduceCtorEq, zH, zI, zJ, zK, zL, encP_eq g, lB, hb] <;> refine nf ?_) | (refine stp ?_; intro K hK) | (apply hK; clear hK K) | refine stn ?_ | (clear hK K))
    refine ⟨_, Gh.fz 900, ?_⟩
    simp only [go_sem, zA, zB, zC, zD, zE, zF, zG, reduceCtorEq, zH, zI, zJ, zK, zL, lB]
    all_goals (first | exact nn | refine fin0 ?_)
    all_goals (rw [show s = _ from hok]; rfl)
 ·
  refine PCB.ob Tryz.func90 Tryz.ntmps90 Tryz.results90 ?_
  refine AWP.ghQ ?_
  repeat' (first | (simp only [go_sem, zA, zB, zC, zD, zE, zF, zG, reduceCtorEq, zH, zI, zJ, zK, zL, encP_eq g, c1, c2, cond_true, lB] <;> refine nf ?_) | (refine stp ?_; intro K hK) | (apply hK; clear hK K) | refine stn ?_ | fail)
  refine xD (xI 3 900 rfl rfl rfl rfl) ?_
  refine xE 1 3 rfl rfl fun hlen0 => ?_
  (try rw [lB] at hlen0)
  refine xC (S := List (List UInt8)) (g.kids) encP (fun k s => (4, I .i64 (k : Nat)) :: [(3, .one (.own 900 s.length))]) (fun k s => [(900, .row 1 (s.map encStr))]) [1] [1] (fun k s => Is s ([] ++ (g.kids.take k).flatMap collP)) ([]) (by simp only [go_sem, zA, zB, zC, zD, zE, zF, zG, reduceCtorEq, zH, zI, zJ, zK, zL, encP_eq]; exact Gh.tt []) ?_ ?_ ?_
  ·simp [Is]
  ·intro k s x hlt hx hx' hb hok
   refine sts ?_
   have hix := ih x (lP hx)
   have hct := cntPs_take hx
   have hcl := cntPs_le g.kids (k + 1)
   have hfl := collP_flat (g.kids.take k)
   have hxl := collP_len x
   have hsl : s.length ≤ 1 + cntPs (g.kids.take k) := by rw [show s = _ from hok, lA]; simp only [lC, lD]; omega
   repeat' (first | (simp only [go_sem, zA, zB, zC, zD, zE, zF, zG, reduceCtorEq, zH, zI, zJ, zK, zL, encP_eq g, lB, hb, str_appP] <;> refine nf ?_) | (refine stp ?_; intro K hK) | (apply hK; clear hK K) | refine stn ?_ | (with_reducible first | refine ⟨_, hix, ?_⟩ | refine ⟨by omega, encP x, hx', ?_⟩ | refine ⟨(by omega : _ ≤ _), ?_⟩) | refine stq ?_ | (clear hK K))
   all_goals (rw [wrap_succ hlt hlen0])
   all_goals (refine ⟨s ++ collP x, ?_, Gh.tt [(900, 32)]⟩)
   all_goals (unfold Is at hok ⊢; rw [lO, hx, lM, hok]; simp)
  ·intro s hb hok
   refine sts ?_
   rw [Is, lK] at hok
   repeat' (first | (simp only [go_sem, zA, zB, zC, zD, zE, zF, zG, reduceCtorEq, zH, zI, zJ, zK, zL, encP_eq g, lB, hb] <;> refine nf ?_) | (refine stp ?_; intro K hK) | (apply hK; clear hK K) | refine stn ?_ | (clear hK K))
   refine ⟨_, Gh.fz 900, ?_⟩
   simp only [go_sem, zA, zB, zC, zD, zE, zF, zG, reduceCtorEq, zH, zI, zJ, zK, zL, lB]
   all_goals (first | exact nn | refine fin0 ?_)
   all_goals (rw [show s = _ from hok]; rfl)
termination_by cntP g
decreasing_by exact cntP_kid hk
end Go.Proofs.YtajfdbdklphonaaGreat
set_option maxRecDepth 20000
set_option maxHeartbeats 4000000
namespace Go.Proofs.YtajfdbdklphonaaGreat
open Go Go.Sx
inductive NoNodes : Dat → Prop
 | mk (d : Dat) (h : d.nodes = []) (hk : ∀ k ∈ d.kids, NoNodes k) : NoNodes d
theorem NoNodes.nodes {d : Dat} (h : NoNodes d) : d.nodes = [] := by cases h; assumption
theorem NoNodes.kid {d : Dat} (h : NoNodes d) : ∀ k ∈ d.kids, NoNodes k := by cases h; assumption
end Go.Proofs.YtajfdbdklphonaaGreat
set_option maxRecDepth 20000
set_option maxHeartbeats 4000000
namespace Go.Proofs.YtajfdbdklphonaaGreat
open Go Go.Sx
abbrev Ent := List Val × Bool × Val
end Go.Proofs.YtajfdbdklphonaaGreat
set_option maxRecDepth 20000
set_option maxHeartbeats 4000000
namespace Go.Proofs.YtajfdbdklphonaaGreat
open Go Go.Sx
theorem node_123 (v : Val) (hk : v.kind = 1 ∨ v.kind = 2 ∨ v.kind = 3) : PC zP 125 [.st (encVal v)] (Bo (nodeB v)) := by
 rcases hk with hk | hk | hk
 iterate 3
  ·
   have hlab : labelsB v.labels = goB Lib.compareBytes isVarB none v.labels := by rw [goB_none]; rfl
   refine PCB.ob Tryz.func125 Tryz.ntmps125 Tryz.results125 ?_
   repeat' (first | (simp only [go_sem, zA, zB, zC, zD, zE, zF, zG, reduceCtorEq, zH, zI, zJ, zK, zL, encVal_eq, hk] <;> refine nf ?_) | (refine stp ?_; intro K hK) | (apply hK; clear hK K) | refine stn ?_ | fail)
   refine xE 1 6 rfl rfl fun hlen0 => ?_
   (try rw [lB] at hlen0)
   refine xC (S := Unit) (v.labels) encStr (fun k s => (3, I .i64 (k : Nat)) :: []) (fun k s => []) [1] [1] (fun k s => goB Lib.compareBytes isVarB none v.labels = goB Lib.compareBytes isVarB (prevAt v.labels k) (v.labels.drop k)) (()) (by simp only [go_sem, zA, zB, zC, zD, zE, zF, zG, reduceCtorEq, zH, zI, zJ, zK, zL, encVal_eq]; exact Gh.tt []) ?_ ?_ ?_
   ·rfl
   ·intro k s x hlt hx hx' hb hok
    refine sts ?_
    rcases Nat.eq_zero_or_eq_succ_pred k with hk0 | hk0
    ·rw [goB_zero hk0 hx] at hok
     have hp0 : decide ((0 : Int) < (k : Int)) = false := by rw [hk0]; rfl
     cases hz : isVarB x <;> simp only [hz, Bool.true_and, Bool.false_and] at hok
     ·
      repeat' (first | (simp only [go_sem, zA, zB, zC, zD, zE, zF, zG, reduceCtorEq, zH, zI, zJ, zK, zL, encVal_eq, encStr, hk, lB, hb, hz, hp0] <;> refine nf ?_) | (refine stp ?_; intro K hK) | (apply hK; clear hK K) | refine stn ?_ | (with_reducible first | refine ⟨_, refIsVariable_c x, ?_⟩ | refine ⟨by omega, encStr x, hx', ?_⟩) | (refine stp' ?_; intro K hK) | (clear hK K))
      all_goals (first | exact lf | (refine fin0 ?_; simp only [nodeB, hlab, hok, zb, cond_true, cond_false, decide_true, decide_false] <;> rfl))
     ·
      repeat' (first | (simp only [go_sem, zA, zB, zC, zD, zE, zF, zG, reduceCtorEq, zH, zI, zJ, zK, zL, encVal_eq, encStr, hk, lB, hb, hz, hp0] <;> refine nf ?_) | (refine stp ?_; intro K hK) | (apply hK; clear hK K) | refine stn ?_ | (with_reducible first | refine ⟨_, refIsVariable_c x, ?_⟩ | refine ⟨by omega, encStr x, hx', ?_⟩) | (refine stp' ?_; intro K hK) | (clear hK K))
      all_goals (rw [wrap_succ hlt hlen0])
      all_goals (refine ⟨(), ?_, Gh.tt []⟩)
      all_goals exact hok
    ·obtain ⟨j, rfl⟩ : ∃ j, k = j + 1 := ⟨_, hk0⟩
     obtain ⟨y, hy, hy', _, _⟩ := at_lt (enc := encStr) (show j < v.labels.length by omega)
     rw [goB_succ hy hx] at hok
     have hw : IntKind.i64.wrap (((j + 1 : Nat) : Int) - 1) = (j : Int) := by rw [w64 (by omega)]; omega
     have hp0 : decide ((0 : Int) < ((j + 1 : Nat) : Int)) = true := by simp only [decide_eq_true_eq]; omega
     cases hz : isVarB x <;> cases hc : decide (Lib.compareBytes y x < 0) <;> simp only [hz, hc, Bool.true_and, Bool.false_and] at hok
     all_goals
      have hcg : decide (0 ≤ Lib.compareBytes y x) = !decide (Lib.compareBytes y x < 0) := by rw [← Bool.coe_iff_coe]; simp
      rw [hc] at hcg
     all_goals (have hl := less_dec y x; rw [hc] at hl)
     all_goals
      repeat' (first | (simp only [go_sem, zA, zB, zC, zD, zE, zF, zG, reduceCtorEq, zH, zI, zJ, zK, zL, encVal_eq, encStr, hk, lB, hb, hz, hp0, hw, hcg, hl] <;> refine nf ?_) | (refine stp ?_; intro K hK) | (apply hK; clear hK K) | refine stn ?_ | (with_reducible first | refine ⟨_, refIsVariable_c x, ?_⟩ | refine ⟨by omega, encStr x, hx', ?_⟩ | refine ⟨by omega, encStr y, hy', ?_⟩) | (refine stp' ?_; intro K hK) | (clear hK K))
     any_goals (first | exact nn | (refine fin0 ?_; first | (simp only [nodeB, hlab, hok, Bool.and_true, Bool.and_false, Bool.true_and, Bool.false_and, Bool.or_true, Bool.or_false, Bool.true_or, Bool.false_or, Bool.not_true, Bool.not_false, cond_true, cond_false, decide_true, decide_false]; done) | (simp only [nodeB, hlab, hok, Bool.and_true, Bool.and_false, Bool.true_and, Bool.false_and, Bool.or_true, Bool.or_false, Bool.true_or, Bool.false_or, Bool.not_true, Bool.not_false, cond_true, cond_false, decide_true, decide_false]; rfl)))
     all_goals (rw [wrap_succ hlt hlen0])
     all_goals (refine ⟨(), ?_, Gh.tt []⟩)
     all_goals exact hok
   intro s0 hb0 hok0
   refine sts ?_
   rw [goB_end] at hok0
   rw [hok0] at hlab
   repeat' (first | (simp only [go_sem, zA, zB, zC, zD, zE, zF, zG, reduceCtorEq, zH, zI, zJ, zK, zL, encVal_eq, hk, hb0, lB] <;> refine nf ?_) | (refine stp ?_; intro K hK) | (apply hK; clear hK K) | refine stn ?_ | (refine AWP.cnd ?_ ?_ <;> intro h <;> (try simp only [zM, zN] at h)) | (refine ⟨fun h => ?_, fun h => ?_⟩ <;> (try simp only [zM, zN] at h) <;> try simp only [h]) | (with_reducible refine ⟨_, isAtom_c _, ?_⟩) | refine stq ?_ | (clear hK K))
   all_goals (first | exact lf | (refine fin0 ?_; simp only [nodeB, badFields, bodyB, kNum, kText, kKids, kKeys, kEnts, kKnown, hk, Int.reduceEq, Int.reduceLE, hlab, *, zb, cond_true, cond_false, decide_true, decide_false] <;> rfl))
theorem node_1 (v : Val) (hk : v.kind = 1) : PC zP 125 [.st (encVal v)] (Bo (nodeB v)) := node_123 v (.inl hk)
theorem node_2 (v : Val) (hk : v.kind = 2) : PC zP 125 [.st (encVal v)] (Bo (nodeB v)) := node_123 v (.inr (.inl hk))
theorem node_3 (v : Val) (hk : v.kind = 3) : PC zP 125 [.st (encVal v)] (Bo (nodeB v)) := node_123 v (.inr (.inr hk))
end Go.Proofs.YtajfdbdklphonaaGreat
