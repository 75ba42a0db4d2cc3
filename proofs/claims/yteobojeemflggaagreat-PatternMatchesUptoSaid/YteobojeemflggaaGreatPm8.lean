/- A part of the proof. Conditions: those that each lemma states. -/
import Derived.Test.YteobojeemflggaaGreatPm7
open List renaming length_append → lA, length_map → lB, length_cons → lC, length_nil → lD
open Go.Sx renaming seqVC_stepN → yA, seqVC_stepG → yB, parVC_stepN → yC, parVC_stepG → yD, parEVC_stepN → yE, parEVC_stepG → yF, genVC_stepN → yG, genVC_stepG → yH
open Go.Sx.AWP renaming seq → yS, seqR → yT, block → yU, cond → yV, skip → yW, ret → yX, exit → yY, parR → yZ
open Go.Sx.Gh renaming to → xG
open Nat renaming reduceBEq → zA, reduceBNe → zB, reduceAdd → zC, reduceSub → zD, reduceMul → zE, reduceLeDiff → zF, reduceLT → zG, reduceEqDiff → zH
open Int renaming reduceToNat → zI, reduceLE → zJ, reduceLT → zK, reduceEq → zL
open Bool renaming not_eq_true' → zM, not_eq_false' → zN
set_option linter.unusedSimpArgs false
set_option linter.unusedVariables false
set_option maxRecDepth 20000
set_option maxHeartbeats 64000000
namespace Go.Proofs.YteobojeemflggaaGreat
open Go Go.Sx
def lastO {α : Type} : Option α → List α → Option α
  | o, [] => o
  | _, z :: l => lastO (some z) l
theorem lastO_snoc {α : Type} (y : α) : ∀ (l : List α) (o : Option α), lastO o (l ++ [y]) = some y
  | [], _ => rfl
  | _ :: l, _ => lastO_snoc y l _
theorem goB_snoc {α : Type} (f : α → α → Int) (p : α → Bool) (x : α) : ∀ (l : List α) (o : Option α), goB f p o (l ++ [x]) = (goB f p o l && (p x && (match lastO o l with | none => true | some y => decide (f y x < 0))))
  | [], none => by simp [goB, lastO]
  | [], some y => by simp [goB, lastO]
  | z :: l, none => by simp only [List.cons_append, goB, goB_snoc f p x l, lastO, Bool.and_assoc]
  | z :: l, some y => by simp only [List.cons_append, goB, goB_snoc f p x l, lastO, Bool.and_assoc]
theorem goB_take0 {α : Type} {f : α → α → Int} {p : α → Bool} {l : List α} {k : Nat} {x : α} (h0 : k = 0) (hx : l[k]? = some x) : goB f p none (l.take (k + 1)) = (goB f p none (l.take k) && p x) := by
  subst h0
  cases l with
  | nil => simp at hx
  | cons z l => simp at hx; subst hx; simp [goB]
theorem goB_takeS {α : Type} {f : α → α → Int} {p : α → Bool} {l : List α} {k : Nat} {x y : α} (hy : l[k]? = some y) (hx : l[k + 1]? = some x) : goB f p none (l.take (k + 2)) = (goB f p none (l.take (k + 1)) && (p x && decide (f y x < 0))) := by
  rw [List.take_add_one (i := k + 1), hx, Option.toList_some, goB_snoc]
  have : lastO none (l.take (k + 1)) = some y := by rw [List.take_add_one, hy, Option.toList_some, lastO_snoc]
  rw [this]
set_option maxHeartbeats 64000000 in
theorem goodP_a (g : Pat) (ih : ∀ k ∈ g.kids, PC Tryz.prog 84 [Pt k] (Bo (treeP k))) (hk : g.kind = 1 ∨ g.kind = 2 ∨ g.kind = 3 ∨ g.kind = 4) : PC Tryz.prog 84 [Pt g] (Bo (treeP g)) := by
  have htr := treeP_eq g
  have hz0 : decide ((0 : Int) < (g.kids.length : Int)) = !decide ((g.kids.length : Int) = 0) := by rw [← Bool.coe_iff_coe]; simp only [decide_eq_true_eq, Bool.not_eq_true', decide_eq_false_iff_not]; omega
  rcases hk with hk | hk | hk | hk
  iterate 4
    ·
      refine PCB.of_body Tryz.func84 rfl (by decide) Tryz.ntmps84 Tryz.results84 rfl rfl rfl ?_ rfl rfl
      repeat' (first | (with_reducible refine AWP.join (id := 6) (fun b : Bool => [(5, Bo b)]) (fun _ => []) [1, 3] [1] (fun b => Is (vP g) b) ?_ ?_) | (simp only [go_sem, zA, zB, zC, zD, zE, zF, zG, reduceCtorEq, zH, zI, zJ, zK, zL, encP_eq g, hk, lB]; all_goals fail_if_success guard_target =ₛ False) | (with_reducible first | ((first | refine yA rfl ?_ | refine yB rfl ?_ | refine yS ?_ | refine yT (by kernel_rfl) ?_ | refine yC rfl ?_ | refine yD rfl ?_ | refine yE rfl ?_ | refine yF rfl ?_ | refine yG rfl ?_ | refine yH rfl ?_); intro K hK) | (apply hK; clear hK K) | refine yU ?_ | (refine yV (by with_unfolding_all rfl) ?_ ?_ <;> intro h <;> (try simp only [zM, zN] at h) <;> try exact absurd h (by decide)) | refine yW ?_ | refine yX ?_ | refine yY ?_ | (refine ⟨fun h => ?_, fun h => ?_⟩ <;> (try simp only [zM, zN] at h) <;> try simp only [h]) | refine ⟨_, refIsVariable_c _, ?_⟩ | refine ⟨_, isAtom_c _, ?_⟩ | refine ⟨_, validKey_c _, ?_⟩ | refine yZ mixed (by kernel_rfl) fun K hK => ?_ | refine ⟨(by kernel_rfl : depB _ _ _ = true), ?_⟩ | refine Or.inl ?_) | (clear hK K))
      any_goals (refine fin0 ?_; rw [htr]; simp only [vP, badP, bodyP, numP, textP, kidsP, keysP, hk, hz0, Int.reduceEq, Int.reduceLE, *, zb, Bool.not_not, cond_true, cond_false, decide_true, decide_false]; done)
      any_goals (refine ⟨_, ?_, (by refine xG [] ?_ ?_ rfl rfl rfl <;> repeat first | exact trivial | refine ⟨rfl, ?_⟩ | refine ⟨by (simp only [go_sem, zA, zB, zC, zD, zE, zF, zG, reduceCtorEq, zH, zI, zJ, zK, zL, lA, lB, lC, lD, Nat.zero_add]) <;> rfl, ?_⟩)⟩; unfold Is; simp only [vP, badP, bodyP, numP, textP, kidsP, keysP, hk, hz0, Int.reduceEq, Int.reduceLE, *, zb, Bool.not_not, cond_true, cond_false, decide_true, decide_false]; done)
      intro b hvb
      try simp only [go_sem, zA, zB, zC, zD, zE, zF, zG, reduceCtorEq, zH, zI, zJ, zK, zL]
      repeat' (first | (simp only [go_sem, zA, zB, zC, zD, zE, zF, zG, reduceCtorEq, zH, zI, zJ, zK, zL, encP_eq g, lB]; all_goals fail_if_success guard_target =ₛ False) | (with_reducible first | ((first | refine yA rfl ?_ | refine yB rfl ?_ | refine yS ?_ | refine yT (by kernel_rfl) ?_ | refine yC rfl ?_ | refine yD rfl ?_ | refine yE rfl ?_ | refine yF rfl ?_ | refine yG rfl ?_ | refine yH rfl ?_); intro K hK) | (apply hK; clear hK K) | refine yU ?_ | (refine yV (by with_unfolding_all rfl) ?_ ?_ <;> intro h <;> (try simp only [zM, zN] at h) <;> try exact absurd h (by decide)) | refine yW ?_ | refine yX ?_ | refine yY ?_ | (refine ⟨fun h => ?_, fun h => ?_⟩ <;> (try simp only [zM, zN] at h) <;> try simp only [h]) | refine yZ mixed (by kernel_rfl) fun K hK => ?_ | refine ⟨(by kernel_rfl : depB _ _ _ = true), ?_⟩ | refine Or.inl ?_) | (clear hK K))
      refine AWP.lenB 1 3 rfl rfl fun hlen1 => ?_
      (try rw [lB] at hlen1)
      refine AWP.range (S := Bool) (g.kids) encP (fun k s => (7, I .i64 (k : Nat)) :: [(5, Bo s)]) (fun k s => []) [1, 3] [1] (fun k s => Is s (b && (g.kids.take k).all treeP)) (b) (by simp only [go_sem, zA, zB, zC, zD, zE, zF, zG, reduceCtorEq, zH, zI, zJ, zK, zL, encP_eq]; exact (by refine xG [] ?_ ?_ rfl rfl rfl <;> repeat first | exact trivial | refine ⟨rfl, ?_⟩ | refine ⟨by (simp only [go_sem, zA, zB, zC, zD, zE, zF, zG, reduceCtorEq, zH, zI, zJ, zK, zL, lA, lB, lC, lD, Nat.zero_add]) <;> rfl, ?_⟩)) ?_ ?_ ?_
      · simp [Is]
      · intro k s x hlt hx hx' hb hok
        simp only [go_sem, zA, zB, zC, zD, zE, zF, zG, reduceCtorEq, zH, zI, zJ, zK, zL]
        have hix := ih x (List.mem_of_getElem? hx)
        have hat := all_takeP (p := treeP) hx
        cases s
        ·
          repeat' (first | (simp only [go_sem, zA, zB, zC, zD, zE, zF, zG, reduceCtorEq, zH, zI, zJ, zK, zL, encP_eq g, lB, hb]; all_goals fail_if_success guard_target =ₛ False) | (with_reducible first | ((first | refine yA rfl ?_ | refine yB rfl ?_ | refine yS ?_ | refine yT (by kernel_rfl) ?_ | refine yC rfl ?_ | refine yD rfl ?_ | refine yE rfl ?_ | refine yF rfl ?_ | refine yG rfl ?_ | refine yH rfl ?_); intro K hK) | (apply hK; clear hK K) | refine yU ?_ | (refine yV (by with_unfolding_all rfl) ?_ ?_ <;> intro h <;> (try simp only [zM, zN] at h) <;> try exact absurd h (by decide)) | refine yW ?_ | refine yX ?_ | refine yY ?_ | (refine ⟨fun h => ?_, fun h => ?_⟩ <;> (try simp only [zM, zN] at h) <;> try simp only [h]) | refine yZ mixed (by kernel_rfl) fun K hK => ?_ | refine ⟨(by kernel_rfl : depB _ _ _ = true), ?_⟩ | refine Or.inl ?_) | (clear hK K))
          all_goals (rw [wrap_succ hlt hlen1])
          all_goals (refine ⟨false, ?_, (by refine xG [] ?_ ?_ rfl rfl rfl <;> repeat first | exact trivial | refine ⟨rfl, ?_⟩ | refine ⟨by (simp only [go_sem, zA, zB, zC, zD, zE, zF, zG, reduceCtorEq, zH, zI, zJ, zK, zL, lA, lB, lC, lD, Nat.zero_add]) <;> rfl, ?_⟩)⟩)
          all_goals (show false = _; rw [hat, ← Bool.and_assoc, ← show false = _ from hok]; rfl)
        ·
          repeat' (first | (simp only [go_sem, zA, zB, zC, zD, zE, zF, zG, reduceCtorEq, zH, zI, zJ, zK, zL, encP_eq g, lB, hb]; all_goals fail_if_success guard_target =ₛ False) | (with_reducible first | ((first | refine yA rfl ?_ | refine yB rfl ?_ | refine yS ?_ | refine yT (by kernel_rfl) ?_ | refine yC rfl ?_ | refine yD rfl ?_ | refine yE rfl ?_ | refine yF rfl ?_ | refine yG rfl ?_ | refine yH rfl ?_); intro K hK) | (apply hK; clear hK K) | refine yU ?_ | (refine yV (by with_unfolding_all rfl) ?_ ?_ <;> intro h <;> (try simp only [zM, zN] at h) <;> try exact absurd h (by decide)) | refine yW ?_ | refine yX ?_ | refine yY ?_ | (refine ⟨fun h => ?_, fun h => ?_⟩ <;> (try simp only [zM, zN] at h) <;> try simp only [h]) | refine ⟨_, hix, ?_⟩ | refine ⟨by omega, encP x, hx', ?_⟩ | refine yZ mixed (by kernel_rfl) fun K hK => ?_ | refine ⟨(by kernel_rfl : depB _ _ _ = true), ?_⟩ | refine Or.inl ?_) | (clear hK K))
          all_goals (rw [wrap_succ hlt hlen1])
          all_goals (refine ⟨treeP x, ?_, (by refine xG [] ?_ ?_ rfl rfl rfl <;> repeat first | exact trivial | refine ⟨rfl, ?_⟩ | refine ⟨by (simp only [go_sem, zA, zB, zC, zD, zE, zF, zG, reduceCtorEq, zH, zI, zJ, zK, zL, lA, lB, lC, lD, Nat.zero_add]) <;> rfl, ?_⟩)⟩)
          all_goals (show treeP x = _; rw [hat, ← Bool.and_assoc, ← show true = _ from hok]; rfl)
      · intro s hb hok
        simp only [go_sem, zA, zB, zC, zD, zE, zF, zG, reduceCtorEq, zH, zI, zJ, zK, zL]
        rw [Is, List.take_length] at hok
        repeat' (first | (simp only [go_sem, zA, zB, zC, zD, zE, zF, zG, reduceCtorEq, zH, zI, zJ, zK, zL, encP_eq g, lB, hb]; all_goals fail_if_success guard_target =ₛ False) | (with_reducible first | ((first | refine yA rfl ?_ | refine yB rfl ?_ | refine yS ?_ | refine yT (by kernel_rfl) ?_ | refine yC rfl ?_ | refine yD rfl ?_ | refine yE rfl ?_ | refine yF rfl ?_ | refine yG rfl ?_ | refine yH rfl ?_); intro K hK) | (apply hK; clear hK K) | refine yU ?_ | (refine yV (by with_unfolding_all rfl) ?_ ?_ <;> intro h <;> (try simp only [zM, zN] at h) <;> try exact absurd h (by decide)) | refine yW ?_ | refine yX ?_ | refine yY ?_ | (refine ⟨fun h => ?_, fun h => ?_⟩ <;> (try simp only [zM, zN] at h) <;> try simp only [h]) | refine yZ mixed (by kernel_rfl) fun K hK => ?_ | refine ⟨(by kernel_rfl : depB _ _ _ = true), ?_⟩ | refine Or.inl ?_) | (clear hK K))
        all_goals (refine fin0 ?_; rw [htr, show vP g = b from hvb, show s = _ from hok])
end Go.Proofs.YteobojeemflggaaGreat
set_option linter.unusedSimpArgs false
set_option linter.unusedVariables false
set_option maxRecDepth 20000
set_option maxHeartbeats 64000000
namespace Go.Proofs.YteobojeemflggaaGreat
open Go Go.Sx
set_option maxHeartbeats 64000000 in
theorem goodP_b (g : Pat) (ih : ∀ k ∈ g.kids, PC Tryz.prog 84 [Pt k] (Bo (treeP k))) (hk : g.kind = 5 ∨ g.kind = 6 ∨ g.kind = 7 ∨ g.kind = 8 ∨ g.kind = 10) : PC Tryz.prog 84 [Pt g] (Bo (treeP g)) := by
  have htr := treeP_eq g
  have hz0 : decide ((0 : Int) < (g.kids.length : Int)) = !decide ((g.kids.length : Int) = 0) := by rw [← Bool.coe_iff_coe]; simp only [decide_eq_true_eq, Bool.not_eq_true', decide_eq_false_iff_not]; omega
  rcases hk with hk | hk | hk | hk | hk
  iterate 5
    ·
      refine PCB.of_body Tryz.func84 rfl (by decide) Tryz.ntmps84 Tryz.results84 rfl rfl rfl ?_ rfl rfl
      repeat' (first | (with_reducible refine AWP.join (id := 6) (fun b : Bool => [(5, Bo b)]) (fun _ => []) [1, 3] [1] (fun b => Is (vP g) b) ?_ ?_) | (simp only [go_sem, zA, zB, zC, zD, zE, zF, zG, reduceCtorEq, zH, zI, zJ, zK, zL, encP_eq g, hk, lB]; all_goals fail_if_success guard_target =ₛ False) | (with_reducible first | ((first | refine yA rfl ?_ | refine yB rfl ?_ | refine yS ?_ | refine yT (by kernel_rfl) ?_ | refine yC rfl ?_ | refine yD rfl ?_ | refine yE rfl ?_ | refine yF rfl ?_ | refine yG rfl ?_ | refine yH rfl ?_); intro K hK) | (apply hK; clear hK K) | refine yU ?_ | (refine yV (by with_unfolding_all rfl) ?_ ?_ <;> intro h <;> (try simp only [zM, zN] at h) <;> try exact absurd h (by decide)) | refine yW ?_ | refine yX ?_ | refine yY ?_ | (refine ⟨fun h => ?_, fun h => ?_⟩ <;> (try simp only [zM, zN] at h) <;> try simp only [h]) | refine ⟨_, refIsVariable_c _, ?_⟩ | refine ⟨_, isAtom_c _, ?_⟩ | refine ⟨_, validKey_c _, ?_⟩ | refine yZ mixed (by kernel_rfl) fun K hK => ?_ | refine ⟨(by kernel_rfl : depB _ _ _ = true), ?_⟩ | refine Or.inl ?_) | (clear hK K))
      any_goals (refine fin0 ?_; rw [htr]; simp only [vP, badP, bodyP, numP, textP, kidsP, keysP, hk, hz0, Int.reduceEq, Int.reduceLE, *, zb, Bool.not_not, cond_true, cond_false, decide_true, decide_false]; done)
      any_goals (refine ⟨_, ?_, (by refine xG [] ?_ ?_ rfl rfl rfl <;> repeat first | exact trivial | refine ⟨rfl, ?_⟩ | refine ⟨by (simp only [go_sem, zA, zB, zC, zD, zE, zF, zG, reduceCtorEq, zH, zI, zJ, zK, zL, lA, lB, lC, lD, Nat.zero_add]) <;> rfl, ?_⟩)⟩; unfold Is; simp only [vP, badP, bodyP, numP, textP, kidsP, keysP, hk, hz0, Int.reduceEq, Int.reduceLE, *, zb, Bool.not_not, cond_true, cond_false, decide_true, decide_false]; done)
      intro b hvb
      try simp only [go_sem, zA, zB, zC, zD, zE, zF, zG, reduceCtorEq, zH, zI, zJ, zK, zL]
      repeat' (first | (simp only [go_sem, zA, zB, zC, zD, zE, zF, zG, reduceCtorEq, zH, zI, zJ, zK, zL, encP_eq g, lB]; all_goals fail_if_success guard_target =ₛ False) | (with_reducible first | ((first | refine yA rfl ?_ | refine yB rfl ?_ | refine yS ?_ | refine yT (by kernel_rfl) ?_ | refine yC rfl ?_ | refine yD rfl ?_ | refine yE rfl ?_ | refine yF rfl ?_ | refine yG rfl ?_ | refine yH rfl ?_); intro K hK) | (apply hK; clear hK K) | refine yU ?_ | (refine yV (by with_unfolding_all rfl) ?_ ?_ <;> intro h <;> (try simp only [zM, zN] at h) <;> try exact absurd h (by decide)) | refine yW ?_ | refine yX ?_ | refine yY ?_ | (refine ⟨fun h => ?_, fun h => ?_⟩ <;> (try simp only [zM, zN] at h) <;> try simp only [h]) | refine yZ mixed (by kernel_rfl) fun K hK => ?_ | refine ⟨(by kernel_rfl : depB _ _ _ = true), ?_⟩ | refine Or.inl ?_) | (clear hK K))
      refine AWP.lenB 1 3 rfl rfl fun hlen1 => ?_
      (try rw [lB] at hlen1)
      refine AWP.range (S := Bool) (g.kids) encP (fun k s => (7, I .i64 (k : Nat)) :: [(5, Bo s)]) (fun k s => []) [1, 3] [1] (fun k s => Is s (b && (g.kids.take k).all treeP)) (b) (by simp only [go_sem, zA, zB, zC, zD, zE, zF, zG, reduceCtorEq, zH, zI, zJ, zK, zL, encP_eq]; exact (by refine xG [] ?_ ?_ rfl rfl rfl <;> repeat first | exact trivial | refine ⟨rfl, ?_⟩ | refine ⟨by (simp only [go_sem, zA, zB, zC, zD, zE, zF, zG, reduceCtorEq, zH, zI, zJ, zK, zL, lA, lB, lC, lD, Nat.zero_add]) <;> rfl, ?_⟩)) ?_ ?_ ?_
      · simp [Is]
      · intro k s x hlt hx hx' hb hok
        simp only [go_sem, zA, zB, zC, zD, zE, zF, zG, reduceCtorEq, zH, zI, zJ, zK, zL]
        have hix := ih x (List.mem_of_getElem? hx)
        have hat := all_takeP (p := treeP) hx
        cases s
        ·
          repeat' (first | (simp only [go_sem, zA, zB, zC, zD, zE, zF, zG, reduceCtorEq, zH, zI, zJ, zK, zL, encP_eq g, lB, hb]; all_goals fail_if_success guard_target =ₛ False) | (with_reducible first | ((first | refine yA rfl ?_ | refine yB rfl ?_ | refine yS ?_ | refine yT (by kernel_rfl) ?_ | refine yC rfl ?_ | refine yD rfl ?_ | refine yE rfl ?_ | refine yF rfl ?_ | refine yG rfl ?_ | refine yH rfl ?_); intro K hK) | (apply hK; clear hK K) | refine yU ?_ | (refine yV (by with_unfolding_all rfl) ?_ ?_ <;> intro h <;> (try simp only [zM, zN] at h) <;> try exact absurd h (by decide)) | refine yW ?_ | refine yX ?_ | refine yY ?_ | (refine ⟨fun h => ?_, fun h => ?_⟩ <;> (try simp only [zM, zN] at h) <;> try simp only [h]) | refine yZ mixed (by kernel_rfl) fun K hK => ?_ | refine ⟨(by kernel_rfl : depB _ _ _ = true), ?_⟩ | refine Or.inl ?_) | (clear hK K))
          all_goals (rw [wrap_succ hlt hlen1])
          all_goals (refine ⟨false, ?_, (by refine xG [] ?_ ?_ rfl rfl rfl <;> repeat first | exact trivial | refine ⟨rfl, ?_⟩ | refine ⟨by (simp only [go_sem, zA, zB, zC, zD, zE, zF, zG, reduceCtorEq, zH, zI, zJ, zK, zL, lA, lB, lC, lD, Nat.zero_add]) <;> rfl, ?_⟩)⟩)
          all_goals (show false = _; rw [hat, ← Bool.and_assoc, ← show false = _ from hok]; rfl)
        ·
          repeat' (first | (simp only [go_sem, zA, zB, zC, zD, zE, zF, zG, reduceCtorEq, zH, zI, zJ, zK, zL, encP_eq g, lB, hb]; all_goals fail_if_success guard_target =ₛ False) | (with_reducible first | ((first | refine yA rfl ?_ | refine yB rfl ?_ | refine yS ?_ | refine yT (by kernel_rfl) ?_ | refine yC rfl ?_ | refine yD rfl ?_ | refine yE rfl ?_ | refine yF rfl ?_ | refine yG rfl ?_ | refine yH rfl ?_); intro K hK) | (apply hK; clear hK K) | refine yU ?_ | (refine yV (by with_unfolding_all rfl) ?_ ?_ <;> intro h <;> (try simp only [zM, zN] at h) <;> try exact absurd h (by decide)) | refine yW ?_ | refine yX ?_ | refine yY ?_ | (refine ⟨fun h => ?_, fun h => ?_⟩ <;> (try simp only [zM, zN] at h) <;> try simp only [h]) | refine ⟨_, hix, ?_⟩ | refine ⟨by omega, encP x, hx', ?_⟩ | refine yZ mixed (by kernel_rfl) fun K hK => ?_ | refine ⟨(by kernel_rfl : depB _ _ _ = true), ?_⟩ | refine Or.inl ?_) | (clear hK K))
          all_goals (rw [wrap_succ hlt hlen1])
          all_goals (refine ⟨treeP x, ?_, (by refine xG [] ?_ ?_ rfl rfl rfl <;> repeat first | exact trivial | refine ⟨rfl, ?_⟩ | refine ⟨by (simp only [go_sem, zA, zB, zC, zD, zE, zF, zG, reduceCtorEq, zH, zI, zJ, zK, zL, lA, lB, lC, lD, Nat.zero_add]) <;> rfl, ?_⟩)⟩)
          all_goals (show treeP x = _; rw [hat, ← Bool.and_assoc, ← show true = _ from hok]; rfl)
      · intro s hb hok
        simp only [go_sem, zA, zB, zC, zD, zE, zF, zG, reduceCtorEq, zH, zI, zJ, zK, zL]
        rw [Is, List.take_length] at hok
        repeat' (first | (simp only [go_sem, zA, zB, zC, zD, zE, zF, zG, reduceCtorEq, zH, zI, zJ, zK, zL, encP_eq g, lB, hb]; all_goals fail_if_success guard_target =ₛ False) | (with_reducible first | ((first | refine yA rfl ?_ | refine yB rfl ?_ | refine yS ?_ | refine yT (by kernel_rfl) ?_ | refine yC rfl ?_ | refine yD rfl ?_ | refine yE rfl ?_ | refine yF rfl ?_ | refine yG rfl ?_ | refine yH rfl ?_); intro K hK) | (apply hK; clear hK K) | refine yU ?_ | (refine yV (by with_unfolding_all rfl) ?_ ?_ <;> intro h <;> (try simp only [zM, zN] at h) <;> try exact absurd h (by decide)) | refine yW ?_ | refine yX ?_ | refine yY ?_ | (refine ⟨fun h => ?_, fun h => ?_⟩ <;> (try simp only [zM, zN] at h) <;> try simp only [h]) | refine yZ mixed (by kernel_rfl) fun K hK => ?_ | refine ⟨(by kernel_rfl : depB _ _ _ = true), ?_⟩ | refine Or.inl ?_) | (clear hK K))
        all_goals (refine fin0 ?_; rw [htr, show vP g = b from hvb, show s = _ from hok])
end Go.Proofs.YteobojeemflggaaGreat
