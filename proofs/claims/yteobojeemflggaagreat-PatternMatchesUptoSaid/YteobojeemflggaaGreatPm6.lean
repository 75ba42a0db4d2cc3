/- A part of the proof. Conditions: those that each lemma states. -/
import Derived.Test.YteobojeemflggaaGreatPm5
import Derived.Test.YteobojeemflggaaGreatPm4
open Go.Proofs.Tryz renaming prog → zP
open List renaming length_append → lA, length_map → lB, length_cons → lC, length_nil → lD, mem_of_getElem? → lP
open Go.Sx renaming seqVC_stepN → yA, seqVC_stepG → yB, parVC_stepN → yC, parEVC_stepN → yE, genVC_stepN → yG
open Go.Sx.AWP renaming seq → yS, seqR → yT, block → yU, cond → yV, skip → yW, ret → yX, exit → yY, parR → yZ, range → xC, len → xF
open Go.Sx.Gh renaming to → xG
open Nat renaming reduceBEq → zA, reduceBNe → zB, reduceAdd → zC, reduceSub → zD, reduceMul → zE, reduceLeDiff → zF, reduceLT → zG, reduceEqDiff → zH
open Int renaming reduceToNat → zI, reduceLE → zJ, reduceLT → zK, reduceEq → zL
open Bool renaming not_eq_true' → zM, not_eq_false' → zN
set_option linter.unusedSimpArgs false
set_option linter.unusedVariables false
set_option maxRecDepth 20000
set_option maxHeartbeats 64000000
namespace Go.Proofs.YteobojeemflggaaGreat
open Go Go.Sx
def ascB {α : Type} (f : α → α → Int) : List α → Bool
  | [] => true
  | x :: l => match l with
    | [] => true
    | y :: m => decide (f x y < 0) && ascB f (y :: m)
theorem ascB_step {α : Type} {f : α → α → Int} {l : List α} {k : Nat} {x y : α} (hx : l[k]? = some x) (hy : l[k + 1]? = some y) : ascB f (l.drop k) = (decide (f x y < 0) && ascB f (l.drop (k + 1))) := by
  obtain ⟨h1, e1⟩ := List.getElem?_eq_some_iff.1 hx
  obtain ⟨h2, e2⟩ := List.getElem?_eq_some_iff.1 hy
  rw [List.drop_eq_getElem_cons h1, List.drop_eq_getElem_cons h2, e1, e2]
  rfl
theorem ascB_end {α : Type} {f : α → α → Int} {l : List α} {k : Nat} (h : l.length ≤ k + 1) : ascB f (l.drop k) = true := by
  have : (l.drop k).length ≤ 1 := by simp; omega
  match l.drop k, this with
  | [], _ => rfl
  | [x], _ => rfl
  | _ :: _ :: _, h => simp at h
theorem ascStr_c (g : FuncId) (f : List UInt8 → List UInt8 → Int) (l : List (List UInt8)) (hg : ∀ x ∈ l, ∀ y ∈ l, PC zP g [S x, S y] (I .i64 (f x y))) :
    PC zP 162 [.one (.dat (.sl 1 (l.map encStr))), .one (.dat (.fn g))] (Bo (ascB f l)) := by
  refine PCB.of_body Tryz.func162 rfl (by decide) Tryz.ntmps162 Tryz.results162 rfl rfl rfl ?_ rfl rfl
  refine xF 0 rfl fun hlen => ?_
  rw [lB] at hlen
  repeat' (first | (simp only [go_sem, zA, zB, zC, zD, zE, zF, zG, reduceCtorEq, zH, zI, zJ, zK, zL, lB]; all_goals fail_if_success guard_target =ₛ False) | (with_reducible first | ((first | refine yA rfl ?_ | refine yS ?_ | refine yT (by kernel_rfl) ?_ | refine yC rfl ?_ | refine yE rfl ?_ | refine yG rfl ?_); intro K hK) | (apply hK; clear hK K) | refine yU ?_ | (refine yV (by with_unfolding_all rfl) ?_ ?_ <;> intro h <;> (try simp only [zM, zN] at h) <;> try exact absurd h (by decide)) | refine yW ?_ | refine yX ?_ | refine yY ?_ | refine yZ mixed (by kernel_rfl) fun K hK => ?_ | refine ⟨(by kernel_rfl : depB _ _ _ = true), ?_⟩ | refine Or.inl ?_) | (clear hK K))
  refine AWP.loopF (X := Nat) (fun k => [(5, I .i64 (k + 1 : Nat))]) (fun _ => []) [0, 1] [] (fun k => k ≤ l.length ∧ ascB f l = ascB f (l.drop k)) (fun k => l.length - k) (0) (by simp only [go_sem, zA, zB, zC, zD, zE, zF, zG, reduceCtorEq, zH, zI, zJ, zK, zL]; exact (by refine xG [] ?_ ?_ rfl rfl rfl <;> repeat first | exact trivial | refine ⟨rfl, ?_⟩ | refine ⟨by (simp only [go_sem, zA, zB, zC, zD, zE, zF, zG, reduceCtorEq, zH, zI, zJ, zK, zL, lA, lB, lC, lD, Nat.zero_add]) <;> rfl, ?_⟩)) ?_ ?_
  · exact ⟨Nat.zero_le _, rfl⟩
  rintro k ⟨hk, hp⟩
  simp only [go_sem, zA, zB, zC, zD, zE, zF, zG, reduceCtorEq, zH, zI, zJ, zK, zL]
  by_cases hlt : k + 1 < l.length
  · obtain ⟨y, hy, hy', hb, _⟩ := at_lt (enc := encStr) hlt
    obtain ⟨x, hx, hx', _, _⟩ := at_lt (enc := encStr) (show k < l.length by omega)
    have hw : IntKind.i64.wrap (((k + 1 : Nat) : Int) - 1) = (k : Int) := by rw [w64 (by omega)]; omega
    have hxy := hg x (lP hx) y (lP hy)
    rw [ascB_step hx hy] at hp
    cases hz : decide (f x y < 0) <;> simp only [hz, Bool.true_and, Bool.false_and] at hp
    · have hz' : decide (0 ≤ f x y) = true := by simp at hz ⊢; omega
      repeat' (first | (simp only [go_sem, zA, zB, zC, zD, zE, zF, zG, reduceCtorEq, zH, zI, zJ, zK, zL, lB, hb, hz', hw, encStr]; all_goals fail_if_success guard_target =ₛ False) | (with_reducible first | ((first | refine yA rfl ?_ | refine yS ?_ | refine yT (by kernel_rfl) ?_ | refine yC rfl ?_ | refine yE rfl ?_ | refine yG rfl ?_); intro K hK) | (apply hK; clear hK K) | refine yU ?_ | (refine yV (by with_unfolding_all rfl) ?_ ?_ <;> intro h <;> (try simp only [zM, zN] at h) <;> try exact absurd h (by decide)) | refine yW ?_ | refine yX ?_ | refine yY ?_ | refine ⟨_, hxy, ?_⟩ | refine ⟨by omega, encStr x, hx', ?_⟩ | refine ⟨by omega, encStr y, hy', ?_⟩ | refine yZ mixed (by kernel_rfl) fun K hK => ?_ | refine ⟨(by kernel_rfl : depB _ _ _ = true), ?_⟩ | refine Or.inl ?_) | (clear hK K))
      all_goals (first | exact fun _ h => (by cases h) | (refine fin0 ?_; first | rfl | (simp only [hp, zb, cond_true, cond_false, decide_true, decide_false] <;> rfl)))
    · have hz' : decide (0 ≤ f x y) = false := by simp at hz ⊢; omega
      repeat' (first | (simp only [go_sem, zA, zB, zC, zD, zE, zF, zG, reduceCtorEq, zH, zI, zJ, zK, zL, lB, hb, hz', hw, encStr]; all_goals fail_if_success guard_target =ₛ False) | (with_reducible first | ((first | refine yA rfl ?_ | refine yS ?_ | refine yT (by kernel_rfl) ?_ | refine yC rfl ?_ | refine yE rfl ?_ | refine yG rfl ?_); intro K hK) | (apply hK; clear hK K) | refine yU ?_ | (refine yV (by with_unfolding_all rfl) ?_ ?_ <;> intro h <;> (try simp only [zM, zN] at h) <;> try exact absurd h (by decide)) | refine yW ?_ | refine yX ?_ | refine yY ?_ | refine ⟨_, hxy, ?_⟩ | refine ⟨by omega, encStr x, hx', ?_⟩ | refine ⟨by omega, encStr y, hy', ?_⟩ | refine yZ mixed (by kernel_rfl) fun K hK => ?_ | refine ⟨(by kernel_rfl : depB _ _ _ = true), ?_⟩ | refine Or.inl ?_) | (clear hK K))
      all_goals (rw [wrap_succ hlt hlen])
      all_goals (refine ⟨k + 1, by omega, ⟨by omega, hp⟩, (by refine xG [] ?_ ?_ rfl rfl rfl <;> repeat first | exact trivial | refine ⟨rfl, ?_⟩ | refine ⟨by (simp only [go_sem, zA, zB, zC, zD, zE, zF, zG, reduceCtorEq, zH, zI, zJ, zK, zL, lA, lB, lC, lD, Nat.zero_add]) <;> rfl, ?_⟩)⟩)
  · have hb : decide (((k + 1 : Nat) : Int) < (l.length : Int)) = false := by simp; omega
    rw [ascB_end (by omega)] at hp
    repeat' (first | (simp only [go_sem, zA, zB, zC, zD, zE, zF, zG, reduceCtorEq, zH, zI, zJ, zK, zL, lB, hb]; all_goals fail_if_success guard_target =ₛ False) | (with_reducible first | ((first | refine yA rfl ?_ | refine yS ?_ | refine yT (by kernel_rfl) ?_ | refine yC rfl ?_ | refine yE rfl ?_ | refine yG rfl ?_); intro K hK) | (apply hK; clear hK K) | refine yU ?_ | (refine yV (by with_unfolding_all rfl) ?_ ?_ <;> intro h <;> (try simp only [zM, zN] at h) <;> try exact absurd h (by decide)) | refine yW ?_ | refine yX ?_ | refine yY ?_ | refine yZ mixed (by kernel_rfl) fun K hK => ?_ | refine ⟨(by kernel_rfl : depB _ _ _ = true), ?_⟩ | refine Or.inl ?_) | (clear hK K))
    all_goals (first | exact fun _ h => (by cases h) | (refine fin0 ?_; first | rfl | (simp only [hp, zb, cond_true, cond_false, decide_true, decide_false] <;> rfl)))
theorem ascKey_c (g : FuncId) (f : KeyD → KeyD → Int) (l : List (KeyD)) (hg : ∀ x ∈ l, ∀ y ∈ l, PC zP g [T.st (encKey x), T.st (encKey y)] (I .i64 (f x y))) :
    PC zP 164 [.one (.dat (.sl 2 (l.map encKey))), .one (.dat (.fn g))] (Bo (ascB f l)) := by
  refine PCB.of_body Tryz.func164 rfl (by decide) Tryz.ntmps164 Tryz.results164 rfl rfl rfl ?_ rfl rfl
  refine xF 0 rfl fun hlen => ?_
  rw [lB] at hlen
  repeat' (first | (simp only [go_sem, zA, zB, zC, zD, zE, zF, zG, reduceCtorEq, zH, zI, zJ, zK, zL, lB]; all_goals fail_if_success guard_target =ₛ False) | (with_reducible first | ((first | refine yA rfl ?_ | refine yS ?_ | refine yT (by kernel_rfl) ?_ | refine yC rfl ?_ | refine yE rfl ?_ | refine yG rfl ?_); intro K hK) | (apply hK; clear hK K) | refine yU ?_ | (refine yV (by with_unfolding_all rfl) ?_ ?_ <;> intro h <;> (try simp only [zM, zN] at h) <;> try exact absurd h (by decide)) | refine yW ?_ | refine yX ?_ | refine yY ?_ | refine yZ mixed (by kernel_rfl) fun K hK => ?_ | refine ⟨(by kernel_rfl : depB _ _ _ = true), ?_⟩ | refine Or.inl ?_) | (clear hK K))
  refine AWP.loopF (X := Nat) (fun k => [(5, I .i64 (k + 1 : Nat))]) (fun _ => []) [0, 1] [] (fun k => k ≤ l.length ∧ ascB f l = ascB f (l.drop k)) (fun k => l.length - k) (0) (by simp only [go_sem, zA, zB, zC, zD, zE, zF, zG, reduceCtorEq, zH, zI, zJ, zK, zL]; exact (by refine xG [] ?_ ?_ rfl rfl rfl <;> repeat first | exact trivial | refine ⟨rfl, ?_⟩ | refine ⟨by (simp only [go_sem, zA, zB, zC, zD, zE, zF, zG, reduceCtorEq, zH, zI, zJ, zK, zL, lA, lB, lC, lD, Nat.zero_add]) <;> rfl, ?_⟩)) ?_ ?_
  · exact ⟨Nat.zero_le _, rfl⟩
  rintro k ⟨hk, hp⟩
  simp only [go_sem, zA, zB, zC, zD, zE, zF, zG, reduceCtorEq, zH, zI, zJ, zK, zL]
  by_cases hlt : k + 1 < l.length
  · obtain ⟨y, hy, hy', hb, _⟩ := at_lt (enc := encKey) hlt
    obtain ⟨x, hx, hx', _, _⟩ := at_lt (enc := encKey) (show k < l.length by omega)
    have hw : IntKind.i64.wrap (((k + 1 : Nat) : Int) - 1) = (k : Int) := by rw [w64 (by omega)]; omega
    have hxy := hg x (lP hx) y (lP hy)
    rw [ascB_step hx hy] at hp
    cases hz : decide (f x y < 0) <;> simp only [hz, Bool.true_and, Bool.false_and] at hp
    · have hz' : decide (0 ≤ f x y) = true := by simp at hz ⊢; omega
      repeat' (first | (simp only [go_sem, zA, zB, zC, zD, zE, zF, zG, reduceCtorEq, zH, zI, zJ, zK, zL, lB, hb, hz', hw, cond_true]; all_goals fail_if_success guard_target =ₛ False) | (with_reducible first | ((first | refine yA rfl ?_ | refine yS ?_ | refine yT (by kernel_rfl) ?_ | refine yC rfl ?_ | refine yE rfl ?_ | refine yG rfl ?_); intro K hK) | (apply hK; clear hK K) | refine yU ?_ | (refine yV (by with_unfolding_all rfl) ?_ ?_ <;> intro h <;> (try simp only [zM, zN] at h) <;> try exact absurd h (by decide)) | refine yW ?_ | refine yX ?_ | refine yY ?_ | refine ⟨_, hxy, ?_⟩ | refine ⟨by omega, encKey x, hx', ?_⟩ | refine ⟨by omega, encKey y, hy', ?_⟩ | refine yZ mixed (by kernel_rfl) fun K hK => ?_ | refine ⟨(by kernel_rfl : depB _ _ _ = true), ?_⟩ | refine Or.inl ?_) | (clear hK K))
      all_goals (first | exact fun _ h => (by cases h) | (refine fin0 ?_; first | rfl | (simp only [hp, zb, cond_true, cond_false, decide_true, decide_false] <;> rfl)))
    · have hz' : decide (0 ≤ f x y) = false := by simp at hz ⊢; omega
      repeat' (first | (simp only [go_sem, zA, zB, zC, zD, zE, zF, zG, reduceCtorEq, zH, zI, zJ, zK, zL, lB, hb, hz', hw, cond_true]; all_goals fail_if_success guard_target =ₛ False) | (with_reducible first | ((first | refine yA rfl ?_ | refine yS ?_ | refine yT (by kernel_rfl) ?_ | refine yC rfl ?_ | refine yE rfl ?_ | refine yG rfl ?_); intro K hK) | (apply hK; clear hK K) | refine yU ?_ | (refine yV (by with_unfolding_all rfl) ?_ ?_ <;> intro h <;> (try simp only [zM, zN] at h) <;> try exact absurd h (by decide)) | refine yW ?_ | refine yX ?_ | refine yY ?_ | refine ⟨_, hxy, ?_⟩ | refine ⟨by omega, encKey x, hx', ?_⟩ | refine ⟨by omega, encKey y, hy', ?_⟩ | refine yZ mixed (by kernel_rfl) fun K hK => ?_ | refine ⟨(by kernel_rfl : depB _ _ _ = true), ?_⟩ | refine Or.inl ?_) | (clear hK K))
      all_goals (rw [wrap_succ hlt hlen])
      all_goals (refine ⟨k + 1, by omega, ⟨by omega, hp⟩, (by refine xG [] ?_ ?_ rfl rfl rfl <;> repeat first | exact trivial | refine ⟨rfl, ?_⟩ | refine ⟨by (simp only [go_sem, zA, zB, zC, zD, zE, zF, zG, reduceCtorEq, zH, zI, zJ, zK, zL, lA, lB, lC, lD, Nat.zero_add]) <;> rfl, ?_⟩)⟩)
  · have hb : decide (((k + 1 : Nat) : Int) < (l.length : Int)) = false := by simp; omega
    rw [ascB_end (by omega)] at hp
    repeat' (first | (simp only [go_sem, zA, zB, zC, zD, zE, zF, zG, reduceCtorEq, zH, zI, zJ, zK, zL, lB, hb]; all_goals fail_if_success guard_target =ₛ False) | (with_reducible first | ((first | refine yA rfl ?_ | refine yS ?_ | refine yT (by kernel_rfl) ?_ | refine yC rfl ?_ | refine yE rfl ?_ | refine yG rfl ?_); intro K hK) | (apply hK; clear hK K) | refine yU ?_ | (refine yV (by with_unfolding_all rfl) ?_ ?_ <;> intro h <;> (try simp only [zM, zN] at h) <;> try exact absurd h (by decide)) | refine yW ?_ | refine yX ?_ | refine yY ?_ | refine yZ mixed (by kernel_rfl) fun K hK => ?_ | refine ⟨(by kernel_rfl : depB _ _ _ = true), ?_⟩ | refine Or.inl ?_) | (clear hK K))
    all_goals (first | exact fun _ h => (by cases h) | (refine fin0 ?_; first | rfl | (simp only [hp, zb, cond_true, cond_false, decide_true, decide_false] <;> rfl)))
theorem ascEnt_c (g : FuncId) (f : List Val × Bool × Val → List Val × Bool × Val → Int) (l : List (List Val × Bool × Val)) (hg : ∀ x ∈ l, ∀ y ∈ l, PC zP g [T.st (encEnt x), T.st (encEnt y)] (I .i64 (f x y))) :
    PC zP 165 [.one (.dat (.sl 9 (l.map encEnt))), .one (.dat (.fn g))] (Bo (ascB f l)) := by
  refine PCB.of_body Tryz.func165 rfl (by decide) Tryz.ntmps165 Tryz.results165 rfl rfl rfl ?_ rfl rfl
  refine xF 0 rfl fun hlen => ?_
  rw [lB] at hlen
  repeat' (first | (simp only [go_sem, zA, zB, zC, zD, zE, zF, zG, reduceCtorEq, zH, zI, zJ, zK, zL, lB]; all_goals fail_if_success guard_target =ₛ False) | (with_reducible first | ((first | refine yA rfl ?_ | refine yS ?_ | refine yT (by kernel_rfl) ?_ | refine yC rfl ?_ | refine yE rfl ?_ | refine yG rfl ?_); intro K hK) | (apply hK; clear hK K) | refine yU ?_ | (refine yV (by with_unfolding_all rfl) ?_ ?_ <;> intro h <;> (try simp only [zM, zN] at h) <;> try exact absurd h (by decide)) | refine yW ?_ | refine yX ?_ | refine yY ?_ | refine yZ mixed (by kernel_rfl) fun K hK => ?_ | refine ⟨(by kernel_rfl : depB _ _ _ = true), ?_⟩ | refine Or.inl ?_) | (clear hK K))
  refine AWP.loopF (X := Nat) (fun k => [(5, I .i64 (k + 1 : Nat))]) (fun _ => []) [0, 1] [] (fun k => k ≤ l.length ∧ ascB f l = ascB f (l.drop k)) (fun k => l.length - k) (0) (by simp only [go_sem, zA, zB, zC, zD, zE, zF, zG, reduceCtorEq, zH, zI, zJ, zK, zL]; exact (by refine xG [] ?_ ?_ rfl rfl rfl <;> repeat first | exact trivial | refine ⟨rfl, ?_⟩ | refine ⟨by (simp only [go_sem, zA, zB, zC, zD, zE, zF, zG, reduceCtorEq, zH, zI, zJ, zK, zL, lA, lB, lC, lD, Nat.zero_add]) <;> rfl, ?_⟩)) ?_ ?_
  · exact ⟨Nat.zero_le _, rfl⟩
  rintro k ⟨hk, hp⟩
  simp only [go_sem, zA, zB, zC, zD, zE, zF, zG, reduceCtorEq, zH, zI, zJ, zK, zL]
  by_cases hlt : k + 1 < l.length
  · obtain ⟨y, hy, hy', hb, _⟩ := at_lt (enc := encEnt) hlt
    obtain ⟨x, hx, hx', _, _⟩ := at_lt (enc := encEnt) (show k < l.length by omega)
    have hw : IntKind.i64.wrap (((k + 1 : Nat) : Int) - 1) = (k : Int) := by rw [w64 (by omega)]; omega
    have hxy := hg x (lP hx) y (lP hy)
    rw [ascB_step hx hy] at hp
    cases hz : decide (f x y < 0) <;> simp only [hz, Bool.true_and, Bool.false_and] at hp
    · have hz' : decide (0 ≤ f x y) = true := by simp at hz ⊢; omega
      repeat' (first | (simp only [go_sem, zA, zB, zC, zD, zE, zF, zG, reduceCtorEq, zH, zI, zJ, zK, zL, lB, hb, hz', hw, cond_true]; all_goals fail_if_success guard_target =ₛ False) | (with_reducible first | ((first | refine yA rfl ?_ | refine yS ?_ | refine yT (by kernel_rfl) ?_ | refine yC rfl ?_ | refine yE rfl ?_ | refine yG rfl ?_); intro K hK) | (apply hK; clear hK K) | refine yU ?_ | (refine yV (by with_unfolding_all rfl) ?_ ?_ <;> intro h <;> (try simp only [zM, zN] at h) <;> try exact absurd h (by decide)) | refine yW ?_ | refine yX ?_ | refine yY ?_ | refine ⟨_, hxy, ?_⟩ | refine ⟨by omega, encEnt x, hx', ?_⟩ | refine ⟨by omega, encEnt y, hy', ?_⟩ | refine yZ mixed (by kernel_rfl) fun K hK => ?_ | refine ⟨(by kernel_rfl : depB _ _ _ = true), ?_⟩ | refine Or.inl ?_) | (clear hK K))
      all_goals (first | exact fun _ h => (by cases h) | (refine fin0 ?_; first | rfl | (simp only [hp, zb, cond_true, cond_false, decide_true, decide_false] <;> rfl)))
    · have hz' : decide (0 ≤ f x y) = false := by simp at hz ⊢; omega
      repeat' (first | (simp only [go_sem, zA, zB, zC, zD, zE, zF, zG, reduceCtorEq, zH, zI, zJ, zK, zL, lB, hb, hz', hw, cond_true]; all_goals fail_if_success guard_target =ₛ False) | (with_reducible first | ((first | refine yA rfl ?_ | refine yS ?_ | refine yT (by kernel_rfl) ?_ | refine yC rfl ?_ | refine yE rfl ?_ | refine yG rfl ?_); intro K hK) | (apply hK; clear hK K) | refine yU ?_ | (refine yV (by with_unfolding_all rfl) ?_ ?_ <;> intro h <;> (try simp only [zM, zN] at h) <;> try exact absurd h (by decide)) | refine yW ?_ | refine yX ?_ | refine yY ?_ | refine ⟨_, hxy, ?_⟩ | refine ⟨by omega, encEnt x, hx', ?_⟩ | refine ⟨by omega, encEnt y, hy', ?_⟩ | refine yZ mixed (by kernel_rfl) fun K hK => ?_ | refine ⟨(by kernel_rfl : depB _ _ _ = true), ?_⟩ | refine Or.inl ?_) | (clear hK K))
      all_goals (rw [wrap_succ hlt hlen])
      all_goals (refine ⟨k + 1, by omega, ⟨by omega, hp⟩, (by refine xG [] ?_ ?_ rfl rfl rfl <;> repeat first | exact trivial | refine ⟨rfl, ?_⟩ | refine ⟨by (simp only [go_sem, zA, zB, zC, zD, zE, zF, zG, reduceCtorEq, zH, zI, zJ, zK, zL, lA, lB, lC, lD, Nat.zero_add]) <;> rfl, ?_⟩)⟩)
  · have hb : decide (((k + 1 : Nat) : Int) < (l.length : Int)) = false := by simp; omega
    rw [ascB_end (by omega)] at hp
    repeat' (first | (simp only [go_sem, zA, zB, zC, zD, zE, zF, zG, reduceCtorEq, zH, zI, zJ, zK, zL, lB, hb]; all_goals fail_if_success guard_target =ₛ False) | (with_reducible first | ((first | refine yA rfl ?_ | refine yS ?_ | refine yT (by kernel_rfl) ?_ | refine yC rfl ?_ | refine yE rfl ?_ | refine yG rfl ?_); intro K hK) | (apply hK; clear hK K) | refine yU ?_ | (refine yV (by with_unfolding_all rfl) ?_ ?_ <;> intro h <;> (try simp only [zM, zN] at h) <;> try exact absurd h (by decide)) | refine yW ?_ | refine yX ?_ | refine yY ?_ | refine yZ mixed (by kernel_rfl) fun K hK => ?_ | refine ⟨(by kernel_rfl : depB _ _ _ = true), ?_⟩ | refine Or.inl ?_) | (clear hK K))
    all_goals (first | exact fun _ h => (by cases h) | (refine fin0 ?_; first | rfl | (simp only [hp, zb, cond_true, cond_false, decide_true, decide_false] <;> rfl)))
def labelsB (l : List (List UInt8)) : Bool := ascB Lib.compareBytes l && l.all isVarB
theorem all_step {α : Type} {p : α → Bool} {l : List α} {k : Nat} {x : α} (hx : l[k]? = some x) : (l.drop k).all p = (p x && (l.drop (k + 1)).all p) := by
  obtain ⟨h1, e1⟩ := List.getElem?_eq_some_iff.1 hx
  rw [List.drop_eq_getElem_cons h1, e1, List.all_cons]
theorem all_end {α : Type} {p : α → Bool} {l : List α} : (l.drop l.length).all p = true := by rw [List.drop_length]; rfl
theorem validLabels_c (l : List (List UInt8)) : PC zP 151 [.one (.dat (.sl 1 (l.map encStr)))] (Bo (labelsB l)) := by
  have h1 := ascStr_c 163 Lib.compareBytes l (fun x _ y _ => stringsCompare_c x y)
  refine PCB.of_body Tryz.func151 rfl (by decide) Tryz.ntmps151 Tryz.results151 rfl rfl rfl ?_ rfl rfl
  unfold labelsB
  cases ha : ascB Lib.compareBytes l
  ·
    repeat' (first | (simp only [go_sem, zA, zB, zC, zD, zE, zF, zG, reduceCtorEq, zH, zI, zJ, zK, zL, ha]; all_goals fail_if_success guard_target =ₛ False) | (with_reducible first | ((first | refine yA rfl ?_ | refine yS ?_ | refine yT (by kernel_rfl) ?_); intro K hK) | (apply hK; clear hK K) | refine yU ?_ | (refine yV (by with_unfolding_all rfl) ?_ ?_ <;> intro h <;> (try simp only [zM, zN] at h) <;> try exact absurd h (by decide)) | refine yW ?_ | refine yX ?_ | refine yY ?_ | refine ⟨_, h1, ?_⟩ | refine Or.inl ?_) | (clear hK K))
    all_goals (first | exact fun _ h => (by cases h) | (refine fin0 ?_; first | rfl | (simp only [zb, cond_true, cond_false, decide_true, decide_false] <;> rfl)))
  ·
    repeat' (first | (simp only [go_sem, zA, zB, zC, zD, zE, zF, zG, reduceCtorEq, zH, zI, zJ, zK, zL, ha, lB]; all_goals fail_if_success guard_target =ₛ False) | (with_reducible first | ((first | refine yA rfl ?_ | refine yS ?_ | refine yT (by kernel_rfl) ?_); intro K hK) | (apply hK; clear hK K) | refine yU ?_ | (refine yV (by with_unfolding_all rfl) ?_ ?_ <;> intro h <;> (try simp only [zM, zN] at h) <;> try exact absurd h (by decide)) | refine yW ?_ | refine yX ?_ | refine yY ?_ | refine ⟨_, h1, ?_⟩ | refine Or.inl ?_) | (clear hK K))
    refine xF 8 rfl fun hlen0 => ?_
    (try rw [lB] at hlen0)
    refine xC (S := Unit) (l) encStr (fun k s => (10, I .i64 (k : Nat)) :: []) (fun k s => []) [8, 9] [] (fun k s => l.all isVarB = (l.drop k).all isVarB) (()) (by simp only [go_sem, zA, zB, zC, zD, zE, zF, zG, reduceCtorEq, zH, zI, zJ, zK, zL]; exact (by refine xG [] ?_ ?_ rfl rfl rfl <;> repeat first | exact trivial | refine ⟨rfl, ?_⟩ | refine ⟨by (simp only [go_sem, zA, zB, zC, zD, zE, zF, zG, reduceCtorEq, zH, zI, zJ, zK, zL, lA, lB, lC, lD, Nat.zero_add]) <;> rfl, ?_⟩)) ?_ ?_ ?_
    · rfl
    · intro k s x hlt hx hx' hb hok
      simp only [go_sem, zA, zB, zC, zD, zE, zF, zG, reduceCtorEq, zH, zI, zJ, zK, zL]
      rw [all_step hx] at hok
      cases hz : isVarB x <;> simp only [hz, Bool.true_and, Bool.false_and] at hok
      all_goals
        repeat' (first | (simp only [go_sem, zA, zB, zC, zD, zE, zF, zG, reduceCtorEq, zH, zI, zJ, zK, zL, lB, hb, hz, encStr]; all_goals fail_if_success guard_target =ₛ False) | (with_reducible first | ((first | refine yA rfl ?_ | refine yS ?_ | refine yT (by kernel_rfl) ?_); intro K hK) | (apply hK; clear hK K) | refine yU ?_ | (refine yV (by with_unfolding_all rfl) ?_ ?_ <;> intro h <;> (try simp only [zM, zN] at h) <;> try exact absurd h (by decide)) | refine yW ?_ | refine yX ?_ | refine yY ?_ | refine ⟨_, identIsVariable_c x, ?_⟩ | refine ⟨by omega, encStr x, hx', ?_⟩ | refine Or.inl ?_) | (clear hK K))
      ·
        all_goals (first | exact fun _ h => (by cases h) | (refine fin0 ?_; first | rfl | (simp only [hok, ha, zb, cond_true, cond_false, decide_true, decide_false] <;> rfl)))
      ·
        all_goals (rw [wrap_succ hlt hlen0])
        all_goals (refine ⟨(), ?_, (by refine xG [] ?_ ?_ rfl rfl rfl <;> repeat first | exact trivial | refine ⟨rfl, ?_⟩ | refine ⟨by (simp only [go_sem, zA, zB, zC, zD, zE, zF, zG, reduceCtorEq, zH, zI, zJ, zK, zL, lA, lB, lC, lD, Nat.zero_add]) <;> rfl, ?_⟩)⟩)
        all_goals exact hok
    · intro s hb hok
      simp only [go_sem, zA, zB, zC, zD, zE, zF, zG, reduceCtorEq, zH, zI, zJ, zK, zL]
      rw [all_end] at hok
      repeat' (first | (simp only [go_sem, zA, zB, zC, zD, zE, zF, zG, reduceCtorEq, zH, zI, zJ, zK, zL, lB, hb]; all_goals fail_if_success guard_target =ₛ False) | (with_reducible first | ((first | refine yA rfl ?_ | refine yS ?_ | refine yT (by kernel_rfl) ?_); intro K hK) | (apply hK; clear hK K) | refine yU ?_ | (refine yV (by with_unfolding_all rfl) ?_ ?_ <;> intro h <;> (try simp only [zM, zN] at h) <;> try exact absurd h (by decide)) | refine yW ?_ | refine yX ?_ | refine yY ?_ | refine Or.inl ?_) | (clear hK K))
      all_goals (first | exact fun _ h => (by cases h) | (refine fin0 ?_; first | rfl | (simp only [hok, ha, zb, cond_true, cond_false, decide_true, decide_false] <;> rfl)))
def mapB (v : Val) : Bool := decide ((v.keys.length : Int) = (v.kids.length : Int)) && (ascB keyC v.keys && v.keys.all validKeyB)
theorem validMap_c (v : Val) : PC zP 152 [.st (encVal v)] (Bo (mapB v)) := by
  have h1 := ascKey_c 161 keyC v.keys (fun x _ y _ => identCompareKeys_c x y)
  refine PCB.of_body Tryz.func152 rfl (by decide) Tryz.ntmps152 Tryz.results152 rfl rfl rfl ?_ rfl rfl
  unfold mapB
  cases hl : decide ((v.keys.length : Int) = (v.kids.length : Int))
  ·
    repeat' (first | (simp only [go_sem, zA, zB, zC, zD, zE, zF, zG, reduceCtorEq, zH, zI, zJ, zK, zL, encVal_eq, hl, lB]; all_goals fail_if_success guard_target =ₛ False) | (with_reducible first | ((first | refine yA rfl ?_ | refine yB rfl ?_ | refine yS ?_ | refine yT (by kernel_rfl) ?_); intro K hK) | (apply hK; clear hK K) | refine yU ?_ | (refine yV (by with_unfolding_all rfl) ?_ ?_ <;> intro h <;> (try simp only [zM, zN] at h) <;> try exact absurd h (by decide)) | refine yW ?_ | refine yX ?_ | refine yY ?_ | (refine ⟨fun h => ?_, fun h => ?_⟩ <;> (try simp only [zM, zN] at h) <;> try simp only [h]) | refine Or.inl ?_) | (clear hK K))
    all_goals (first | exact fun _ h => (by cases h) | (refine fin0 ?_; first | rfl | (simp only [zb, cond_true, cond_false, decide_true, decide_false] <;> rfl)))
  cases ha : ascB keyC v.keys
  all_goals
    repeat' (first | (simp only [go_sem, zA, zB, zC, zD, zE, zF, zG, reduceCtorEq, zH, zI, zJ, zK, zL, encVal_eq, hl, ha, lB]; all_goals fail_if_success guard_target =ₛ False) | (with_reducible first | ((first | refine yA rfl ?_ | refine yB rfl ?_ | refine yS ?_ | refine yT (by kernel_rfl) ?_); intro K hK) | (apply hK; clear hK K) | refine yU ?_ | (refine yV (by with_unfolding_all rfl) ?_ ?_ <;> intro h <;> (try simp only [zM, zN] at h) <;> try exact absurd h (by decide)) | refine yW ?_ | refine yX ?_ | refine yY ?_ | (refine ⟨fun h => ?_, fun h => ?_⟩ <;> (try simp only [zM, zN] at h) <;> try simp only [h]) | refine ⟨_, h1, ?_⟩ | refine Or.inl ?_) | (clear hK K))
  ·
    all_goals (first | exact fun _ h => (by cases h) | (refine fin0 ?_; first | rfl | (simp only [zb, cond_true, cond_false, decide_true, decide_false] <;> rfl)))
  ·
    refine xF 19 rfl fun hlen0 => ?_
    (try rw [lB] at hlen0)
    refine xC (S := Unit) (v.keys) encKey (fun k s => (21, I .i64 (k : Nat)) :: []) (fun k s => []) [19, 20] [] (fun k s => v.keys.all validKeyB = (v.keys.drop k).all validKeyB) (()) (by simp only [go_sem, zA, zB, zC, zD, zE, zF, zG, reduceCtorEq, zH, zI, zJ, zK, zL]; exact (by refine xG [] ?_ ?_ rfl rfl rfl <;> repeat first | exact trivial | refine ⟨rfl, ?_⟩ | refine ⟨by (simp only [go_sem, zA, zB, zC, zD, zE, zF, zG, reduceCtorEq, zH, zI, zJ, zK, zL, lA, lB, lC, lD, Nat.zero_add]) <;> rfl, ?_⟩)) ?_ ?_ ?_
    · rfl
    · intro k s x hlt hx hx' hb hok
      simp only [go_sem, zA, zB, zC, zD, zE, zF, zG, reduceCtorEq, zH, zI, zJ, zK, zL]
      rw [all_step hx] at hok
      cases hz : validKeyB x <;> simp only [hz, Bool.true_and, Bool.false_and] at hok
      ·
        repeat' (first | (simp only [go_sem, zA, zB, zC, zD, zE, zF, zG, reduceCtorEq, zH, zI, zJ, zK, zL, lB, hb, hz]; all_goals fail_if_success guard_target =ₛ False) | (with_reducible first | ((first | refine yA rfl ?_ | refine yB rfl ?_ | refine yS ?_ | refine yT (by kernel_rfl) ?_); intro K hK) | (apply hK; clear hK K) | refine yU ?_ | (refine yV (by with_unfolding_all rfl) ?_ ?_ <;> intro h <;> (try simp only [zM, zN] at h) <;> try exact absurd h (by decide)) | refine yW ?_ | refine yX ?_ | refine yY ?_ | (refine ⟨fun h => ?_, fun h => ?_⟩ <;> (try simp only [zM, zN] at h) <;> try simp only [h]) | refine ⟨_, identValidKey_c x, ?_⟩ | refine ⟨by omega, encKey x, hx', ?_⟩ | refine Or.inl ?_) | (clear hK K))
        all_goals (first | exact fun _ h => (by cases h) | (refine fin0 ?_; first | rfl | (simp only [hok, ha, zb, cond_true, cond_false, decide_true, decide_false] <;> rfl)))
      ·
        repeat' (first | (simp only [go_sem, zA, zB, zC, zD, zE, zF, zG, reduceCtorEq, zH, zI, zJ, zK, zL, lB, hb, hz]; all_goals fail_if_success guard_target =ₛ False) | (with_reducible first | ((first | refine yA rfl ?_ | refine yB rfl ?_ | refine yS ?_ | refine yT (by kernel_rfl) ?_); intro K hK) | (apply hK; clear hK K) | refine yU ?_ | (refine yV (by with_unfolding_all rfl) ?_ ?_ <;> intro h <;> (try simp only [zM, zN] at h) <;> try exact absurd h (by decide)) | refine yW ?_ | refine yX ?_ | refine yY ?_ | (refine ⟨fun h => ?_, fun h => ?_⟩ <;> (try simp only [zM, zN] at h) <;> try simp only [h]) | refine ⟨_, identValidKey_c x, ?_⟩ | refine ⟨by omega, encKey x, hx', ?_⟩ | refine Or.inl ?_) | (clear hK K))
        all_goals (rw [wrap_succ hlt hlen0])
        all_goals (refine ⟨(), ?_, (by refine xG [] ?_ ?_ rfl rfl rfl <;> repeat first | exact trivial | refine ⟨rfl, ?_⟩ | refine ⟨by (simp only [go_sem, zA, zB, zC, zD, zE, zF, zG, reduceCtorEq, zH, zI, zJ, zK, zL, lA, lB, lC, lD, Nat.zero_add]) <;> rfl, ?_⟩)⟩)
        all_goals exact hok
    · intro s hb hok
      simp only [go_sem, zA, zB, zC, zD, zE, zF, zG, reduceCtorEq, zH, zI, zJ, zK, zL]
      rw [all_end] at hok
      repeat' (first | (simp only [go_sem, zA, zB, zC, zD, zE, zF, zG, reduceCtorEq, zH, zI, zJ, zK, zL, lB, hb]; all_goals fail_if_success guard_target =ₛ False) | (with_reducible first | ((first | refine yA rfl ?_ | refine yB rfl ?_ | refine yS ?_ | refine yT (by kernel_rfl) ?_); intro K hK) | (apply hK; clear hK K) | refine yU ?_ | (refine yV (by with_unfolding_all rfl) ?_ ?_ <;> intro h <;> (try simp only [zM, zN] at h) <;> try exact absurd h (by decide)) | refine yW ?_ | refine yX ?_ | refine yY ?_ | (refine ⟨fun h => ?_, fun h => ?_⟩ <;> (try simp only [zM, zN] at h) <;> try simp only [h]) | refine Or.inl ?_) | (clear hK K))
      all_goals (first | exact fun _ h => (by cases h) | (refine fin0 ?_; first | rfl | (simp only [hok, ha, zb, cond_true, cond_false, decide_true, decide_false] <;> rfl)))
def zeroVal : Val := ⟨0, 0, [], [], [], [], []⟩
theorem zeroVal_lit : encVal zeroVal = [.int .i64 0, .int .i64 0, .str [], .sl 7 [], .sl 2 [], .sl 9 [], .sl 1 []] := by rw [encVal_eq]; rfl
def isZeroB (v : Val) : Bool := decide (valC v zeroVal = 0)
theorem isZero_c (v : Val) : PC zP 173 [.st (encVal v)] (Bo (isZeroB v)) := by
  have h1 := equal_c v zeroVal
  rw [zeroVal_lit] at h1
  refine PCB.of_body Tryz.func173 rfl (by decide) Tryz.ntmps173 Tryz.results173 rfl rfl rfl ?_ rfl rfl
  repeat' (first | (simp only [go_sem, zA, zB, zC, zD, zE, zF, zG, reduceCtorEq, zH, zI, zJ, zK, zL]; all_goals fail_if_success guard_target =ₛ False) | (with_reducible first | ((first | refine yA rfl ?_ | refine yS ?_ | refine yT (by kernel_rfl) ?_); intro K hK) | (apply hK; clear hK K) | refine yU ?_ | (refine yV (by with_unfolding_all rfl) ?_ ?_ <;> intro h <;> (try simp only [zM, zN] at h) <;> try exact absurd h (by decide)) | refine yW ?_ | refine yX ?_ | refine yY ?_ | refine ⟨_, h1, ?_⟩ | refine Or.inl ?_) | (clear hK K))
  all_goals (first | exact fun _ h => (by cases h) | refine fin0 ?_)
  all_goals rfl
def entB (e : List Val × Bool × Val) (n : Int) : Bool := decide ((e.1.length : Int) = n) && (!e.2.1 || isZeroB e.2.2)
theorem validEntry_c (e : List Val × Bool × Val) (n : Int) : PC zP 167 [.st (encEnt e), I .i64 n] (Bo (entB e n)) := by
  have h1 := isZero_c e.2.2
  rw [encVal_eq] at h1
  refine PCB.of_body Tryz.func167 rfl (by decide) Tryz.ntmps167 Tryz.results167 rfl rfl rfl ?_ rfl rfl
  unfold entB
  cases hl : decide ((e.1.length : Int) = n) <;> cases hf : e.2.1
  all_goals
    repeat' (first | (simp only [go_sem, zA, zB, zC, zD, zE, zF, zG, reduceCtorEq, zH, zI, zJ, zK, zL, encEnt_eq, hl, hf, lB]; all_goals fail_if_success guard_target =ₛ False) | (with_reducible first | ((first | refine yA rfl ?_ | refine yB rfl ?_ | refine yS ?_ | refine yT (by kernel_rfl) ?_); intro K hK) | (apply hK; clear hK K) | refine yU ?_ | (refine yV (by with_unfolding_all rfl) ?_ ?_ <;> intro h <;> (try simp only [zM, zN] at h) <;> try exact absurd h (by decide)) | refine yW ?_ | refine yX ?_ | refine yY ?_ | (refine ⟨fun h => ?_, fun h => ?_⟩ <;> (try simp only [zM, zN] at h) <;> try simp only [h]) | refine ⟨_, h1, ?_⟩ | refine Or.inl ?_) | (clear hK K))
  all_goals (first | exact fun _ h => (by cases h) | (refine fin0 ?_; first | rfl | (simp only [zb, cond_true, cond_false, decide_true, decide_false] <;> rfl)))
def funB (v : Val) : Bool := !(decide (v.num < 0) || (decide (4 < v.num) || !ascB entC v.ents)) && v.ents.all fun e => entB e v.num
theorem validFunction_c (v : Val) : PC zP 153 [.st (encVal v)] (Bo (funB v)) := by
  have h1 := ascEnt_c 166 entC v.ents (fun x _ y _ => compareEntries_c x y (fun a _ b => compare_c a b) (fun b => compare_c _ b))
  refine PCB.of_body Tryz.func153 rfl (by decide) Tryz.ntmps153 Tryz.results153 rfl rfl rfl ?_ rfl rfl
  unfold funB
  cases hn : decide (v.num < 0)
  · cases hm : decide (4 < v.num)
    · cases ha : ascB entC v.ents
      all_goals
        repeat' (first | (simp only [go_sem, zA, zB, zC, zD, zE, zF, zG, reduceCtorEq, zH, zI, zJ, zK, zL, encVal_eq, hn, hm, ha, lB]; all_goals fail_if_success guard_target =ₛ False) | (with_reducible first | ((first | refine yA rfl ?_ | refine yB rfl ?_ | refine yS ?_ | refine yT (by kernel_rfl) ?_); intro K hK) | (apply hK; clear hK K) | refine yU ?_ | (refine yV (by with_unfolding_all rfl) ?_ ?_ <;> intro h <;> (try simp only [zM, zN] at h) <;> try exact absurd h (by decide)) | refine yW ?_ | refine yX ?_ | refine yY ?_ | (refine ⟨fun h => ?_, fun h => ?_⟩ <;> (try simp only [zM, zN] at h) <;> try simp only [h]) | refine ⟨_, h1, ?_⟩ | refine Or.inl ?_) | (clear hK K))
      ·
        all_goals (first | exact fun _ h => (by cases h) | (refine fin0 ?_; first | rfl | (simp only [zb, cond_true, cond_false, decide_true, decide_false] <;> rfl)))
      ·
        refine xF 20 rfl fun hlen0 => ?_
        (try rw [lB] at hlen0)
        refine xC (S := Unit) (v.ents) encEnt (fun k s => (22, I .i64 (k : Nat)) :: []) (fun k s => []) [1, 20, 21] [1] (fun k s => (v.ents.all fun e => entB e v.num) = ((v.ents.drop k).all fun e => entB e v.num)) (()) (by simp only [go_sem, zA, zB, zC, zD, zE, zF, zG, reduceCtorEq, zH, zI, zJ, zK, zL, encVal_eq]; exact (by refine xG [] ?_ ?_ rfl rfl rfl <;> repeat first | exact trivial | refine ⟨rfl, ?_⟩ | refine ⟨by (simp only [go_sem, zA, zB, zC, zD, zE, zF, zG, reduceCtorEq, zH, zI, zJ, zK, zL, lA, lB, lC, lD, Nat.zero_add]) <;> rfl, ?_⟩)) ?_ ?_ ?_
        · rfl
        · intro k s x hlt hx hx' hb hok
          simp only [go_sem, zA, zB, zC, zD, zE, zF, zG, reduceCtorEq, zH, zI, zJ, zK, zL]
          rw [all_step hx] at hok
          cases hz : entB x v.num <;> simp only [hz, Bool.true_and, Bool.false_and] at hok
          ·
            repeat' (first | (simp only [go_sem, zA, zB, zC, zD, zE, zF, zG, reduceCtorEq, zH, zI, zJ, zK, zL, lB, hb, hz, encVal_eq]; all_goals fail_if_success guard_target =ₛ False) | (with_reducible first | ((first | refine yA rfl ?_ | refine yB rfl ?_ | refine yS ?_ | refine yT (by kernel_rfl) ?_); intro K hK) | (apply hK; clear hK K) | refine yU ?_ | (refine yV (by with_unfolding_all rfl) ?_ ?_ <;> intro h <;> (try simp only [zM, zN] at h) <;> try exact absurd h (by decide)) | refine yW ?_ | refine yX ?_ | refine yY ?_ | (refine ⟨fun h => ?_, fun h => ?_⟩ <;> (try simp only [zM, zN] at h) <;> try simp only [h]) | refine ⟨_, validEntry_c x v.num, ?_⟩ | refine ⟨by omega, encEnt x, hx', ?_⟩ | refine Or.inl ?_) | (clear hK K))
            all_goals (first | exact fun _ h => (by cases h) | (refine fin0 ?_; first | rfl | (simp only [hok, ha, zb, cond_true, cond_false, decide_true, decide_false] <;> rfl)))
          ·
            repeat' (first | (simp only [go_sem, zA, zB, zC, zD, zE, zF, zG, reduceCtorEq, zH, zI, zJ, zK, zL, lB, hb, hz, encVal_eq]; all_goals fail_if_success guard_target =ₛ False) | (with_reducible first | ((first | refine yA rfl ?_ | refine yB rfl ?_ | refine yS ?_ | refine yT (by kernel_rfl) ?_); intro K hK) | (apply hK; clear hK K) | refine yU ?_ | (refine yV (by with_unfolding_all rfl) ?_ ?_ <;> intro h <;> (try simp only [zM, zN] at h) <;> try exact absurd h (by decide)) | refine yW ?_ | refine yX ?_ | refine yY ?_ | (refine ⟨fun h => ?_, fun h => ?_⟩ <;> (try simp only [zM, zN] at h) <;> try simp only [h]) | refine ⟨_, validEntry_c x v.num, ?_⟩ | refine ⟨by omega, encEnt x, hx', ?_⟩ | refine Or.inl ?_) | (clear hK K))
            all_goals (rw [wrap_succ hlt hlen0])
            all_goals (refine ⟨(), ?_, (by refine xG [] ?_ ?_ rfl rfl rfl <;> repeat first | exact trivial | refine ⟨rfl, ?_⟩ | refine ⟨by (simp only [go_sem, zA, zB, zC, zD, zE, zF, zG, reduceCtorEq, zH, zI, zJ, zK, zL, lA, lB, lC, lD, Nat.zero_add]) <;> rfl, ?_⟩)⟩)
            all_goals exact hok
        · intro s hb hok
          simp only [go_sem, zA, zB, zC, zD, zE, zF, zG, reduceCtorEq, zH, zI, zJ, zK, zL]
          rw [all_end] at hok
          repeat' (first | (simp only [go_sem, zA, zB, zC, zD, zE, zF, zG, reduceCtorEq, zH, zI, zJ, zK, zL, lB, hb]; all_goals fail_if_success guard_target =ₛ False) | (with_reducible first | ((first | refine yA rfl ?_ | refine yB rfl ?_ | refine yS ?_ | refine yT (by kernel_rfl) ?_); intro K hK) | (apply hK; clear hK K) | refine yU ?_ | (refine yV (by with_unfolding_all rfl) ?_ ?_ <;> intro h <;> (try simp only [zM, zN] at h) <;> try exact absurd h (by decide)) | refine yW ?_ | refine yX ?_ | refine yY ?_ | (refine ⟨fun h => ?_, fun h => ?_⟩ <;> (try simp only [zM, zN] at h) <;> try simp only [h]) | refine Or.inl ?_) | (clear hK K))
          all_goals (first | exact fun _ h => (by cases h) | (refine fin0 ?_; first | rfl | (simp only [hok, ha, zb, cond_true, cond_false, decide_true, decide_false] <;> rfl)))
    ·
      repeat' (first | (simp only [go_sem, zA, zB, zC, zD, zE, zF, zG, reduceCtorEq, zH, zI, zJ, zK, zL, encVal_eq, hn, hm]; all_goals fail_if_success guard_target =ₛ False) | (with_reducible first | ((first | refine yA rfl ?_ | refine yB rfl ?_ | refine yS ?_ | refine yT (by kernel_rfl) ?_); intro K hK) | (apply hK; clear hK K) | refine yU ?_ | (refine yV (by with_unfolding_all rfl) ?_ ?_ <;> intro h <;> (try simp only [zM, zN] at h) <;> try exact absurd h (by decide)) | refine yW ?_ | refine yX ?_ | refine yY ?_ | (refine ⟨fun h => ?_, fun h => ?_⟩ <;> (try simp only [zM, zN] at h) <;> try simp only [h]) | refine Or.inl ?_) | (clear hK K))
      all_goals (first | exact fun _ h => (by cases h) | (refine fin0 ?_; first | rfl | (simp only [zb, cond_true, cond_false, decide_true, decide_false] <;> rfl)))
  ·
    repeat' (first | (simp only [go_sem, zA, zB, zC, zD, zE, zF, zG, reduceCtorEq, zH, zI, zJ, zK, zL, encVal_eq, hn]; all_goals fail_if_success guard_target =ₛ False) | (with_reducible first | ((first | refine yA rfl ?_ | refine yB rfl ?_ | refine yS ?_ | refine yT (by kernel_rfl) ?_); intro K hK) | (apply hK; clear hK K) | refine yU ?_ | (refine yV (by with_unfolding_all rfl) ?_ ?_ <;> intro h <;> (try simp only [zM, zN] at h) <;> try exact absurd h (by decide)) | refine yW ?_ | refine yX ?_ | refine yY ?_ | (refine ⟨fun h => ?_, fun h => ?_⟩ <;> (try simp only [zM, zN] at h) <;> try simp only [h]) | refine Or.inl ?_) | (clear hK K))
    all_goals (first | exact fun _ h => (by cases h) | (refine fin0 ?_; first | rfl | (simp only [zb, cond_true, cond_false, decide_true, decide_false] <;> rfl)))
end Go.Proofs.YteobojeemflggaaGreat
set_option linter.unusedVariables false
set_option linter.unusedSimpArgs false
namespace Go.Sx
variable {P : Program} {n : Nat} {Q : Exit → AS → Prop}
mutual
def Cell.rfOk (k len : Nat) : Cell → Prop
  | .ptr j o => (j == k) = true → o ≤ len
  | .clo _ caps => Cell.rfOks k len caps
  | _ => True
def Cell.rfOks (k len : Nat) : List Cell → Prop
  | [] => True
  | c :: cs => Cell.rfOk k len c ∧ Cell.rfOks k len cs
end
mutual
def Cell.rf (k : Nat) (row : List C) : Cell → Cell
  | .ptr j o => bif j == k then .ref (row.drop o) else .ptr j o
  | .clo f caps => .clo f (Cell.rfs k row caps)
  | .dat c => .dat c
  | .own j m => .own j m
  | .rp j s i f => .rp j s i f
  | .arr j n => .arr j n
  | .ref r => .ref r
  | .mp j => .mp j
def Cell.rfs (k : Nat) (row : List C) : List Cell → List Cell
  | [] => []
  | c :: cs => Cell.rf k row c :: Cell.rfs k row cs
end
mutual
def T.rfOk (k len : Nat) : T → Prop
  | .one c => c.rfOk k len
  | .agg cs => Cell.rfOks k len cs
  | .tup ts => T.rfOks k len ts
  | _ => True
def T.rfOks (k len : Nat) : List T → Prop
  | [] => True
  | t :: ts => T.rfOk k len t ∧ T.rfOks k len ts
end
mutual
def T.rf (k : Nat) (row : List C) : T → T
  | .one c => .one (c.rf k row)
  | .agg cs => mkAgg (Cell.rfs k row cs)
  | .tup ts => .tup (T.rfs k row ts)
  | .st r => .st r
  | .un => .un
def T.rfs (k : Nat) (row : List C) : List T → List T
  | [] => []
  | t :: ts => T.rf k row t :: T.rfs k row ts
end
theorem At.drop {M : Mem} {b : Nat} {mid : List Value} (h : At (M b) 0 mid) (o : Nat) (ho : o ≤ mid.length) : At (M b) o (mid.drop o) := by
  obtain ⟨c, et, fz, pre, post, e, h1, h2⟩ := h
  have : pre = [] := List.length_eq_zero_iff.1 h2
  subst this
  refine ⟨c, et, fz, mid.take o, post, e, ?_, by simp; omega⟩
  rw [h1, List.nil_append, ← List.append_assoc, List.take_append_drop]
def rfE (k : Nat) (row : List C) : Env → Env
  | [] => []
  | p :: env => (p.1, p.2.rf k row) :: rfE k row env
def Env.rfOk (k len : Nat) : Env → Prop
  | [] => True
  | p :: env => p.2.rfOk k len ∧ Env.rfOk k len env
def rfB (k : Nat) (row : List C) : Bx → Bx
  | [] => []
  | p :: B => (match p.2 with
    | .cells cs => (p.1, .cells (Cell.rfs k row cs))
    | r => (p.1, r)) :: rfB k row B
def Bx.rfOk (k len : Nat) : Bx → Prop
  | [] => True
  | p :: B => (match p.2 with
    | .cells cs => Cell.rfOks k len cs
    | _ => True) ∧ Bx.rfOk k len B
def datRow : List Cell → Option (List C)
  | [] => some []
  | .dat c :: cs => match datRow cs with
    | some r => some (c :: r)
    | none => none
  | _ => none
attribute [go_sem] rfE rfB Env.rfOk Bx.rfOk T.rf T.rfs Cell.rf Cell.rfs T.rfOk T.rfOks Cell.rfOk Cell.rfOks datRow List.drop_zero
end Go.Sx
set_option linter.unusedSimpArgs false
set_option linter.unusedVariables false
set_option maxRecDepth 20000
set_option maxHeartbeats 64000000
namespace Go.Proofs.YteobojeemflggaaGreat
open Go Go.Sx
structure Pat where
  kind : Int
  num : Int
  text : List UInt8
  kids : List Pat
  keys : List KeyD
mutual
def encP : Pat → List C
  | ⟨kind, num, text, kids, keys⟩ => [.int .i64 kind, .int .i64 num, .str text, .sl 5 (encPs kids), .sl 2 (keys.map encKey)]
def encPs : List Pat → List (List C)
  | [] => []
  | g :: l => encP g :: encPs l
end
theorem encPs_eq : ∀ l : List Pat, encPs l = l.map encP
  | [] => by simp only [encPs, List.map_nil]
  | g :: l => by simp only [encPs, List.map_cons, encPs_eq l]
theorem encP_eq (g : Pat) : encP g = [.int .i64 g.kind, .int .i64 g.num, .str g.text, .sl 5 (g.kids.map encP), .sl 2 (g.keys.map encKey)] := by cases g; simp only [encP, encPs_eq]
theorem encP_lit (x : Pat) : encP x = [.int .i64 x.kind, .int .i64 x.num, .str x.text, .sl 5 (x.kids.map encP), .sl 2 (x.keys.map encKey)] := encP_eq x
@[go_sem] theorem encP_cut (x : Pat) : cutC 5 (encP x) = some (encP x, []) := by rw [encP_eq]; rfl
@[go_sem low] theorem encP_cutk (x : Pat) (k : Nat) : cutC k (encP x) = cutC k [.int .i64 x.kind, .int .i64 x.num, .str x.text, .sl 5 (x.kids.map encP), .sl 2 (x.keys.map encKey)] := by rw [encP_lit]
@[go_sem] theorem encP_cutm (x : Pat) : cutC 5 ((encP x).map Cell.dat) = some ((encP x).map Cell.dat, []) := by rw [encP_eq]; rfl
@[go_sem low] theorem encP_cutmk (x : Pat) (k : Nat) : cutC k ((encP x).map Cell.dat) = cutC k (([.int .i64 x.kind, .int .i64 x.num, .str x.text, .sl 5 (x.kids.map encP), .sl 2 (x.keys.map encKey)] : List C).map Cell.dat) := by rw [encP_lit]
@[go_sem] theorem encP_soft (x : Pat) : (encP x).map C.soft = encP x := by rw [encP_eq]; rfl
@[go_sem] theorem encP_len (x : Pat) : lenIs 5 (encP x) = true := by rw [encP_eq]; rfl
@[go_sem high] theorem encP_takeP (x : Pat) (n : Nat) (K : T → Prop) : takeP false n (encP x) K = K (.one (.dat (.int .i64 x.kind))) := by rw [encP_lit]; rfl
@[go_sem high] theorem encP_takeT (x : Pat) (n : Nat) (K : T → Prop) : takeT false n ((encP x).map Cell.dat) K = K (.one (.dat (.int .i64 x.kind))) := by rw [encP_lit]; rfl
@[go_sem] theorem encP_lenm (x : Pat) : lenIs 5 ((encP x).map Cell.dat) = true := by rw [encP_eq]; rfl
mutual
def cntP : Pat → Nat
  | ⟨_, _, _, kids, _⟩ => 1 + cntPs kids
def cntPs : List Pat → Nat
  | [] => 0
  | g :: l => cntP g + cntPs l
end
theorem cntP_eq (g : Pat) : cntP g = 1 + cntPs g.kids := by cases g; simp only [cntP]
theorem cntPs_mem : ∀ {l : List Pat} {g : Pat}, g ∈ l → cntP g ≤ cntPs l
  | x :: l, g, h => by
    simp only [cntPs]
    rcases List.mem_cons.1 h with rfl | h
    · omega
    · have := cntPs_mem h; omega
theorem cntPs_take {l : List Pat} {k : Nat} {x : Pat} (hx : l[k]? = some x) : cntPs (l.take (k + 1)) = cntPs (l.take k) + cntP x := by
  induction l generalizing k with
  | nil => simp at hx
  | cons y l ih =>
    cases k with
    | zero => simp at hx; subst hx; simp [cntPs]
    | succ k => have := ih (k := k) (by simpa using hx); simp only [List.take_succ_cons, cntPs, this]; omega
theorem cntPs_le (l : List Pat) (k : Nat) : cntPs (l.take k) ≤ cntPs l := by
  induction l generalizing k with
  | nil => simp
  | cons y l ih => cases k with
    | zero => simp [cntPs]
    | succ k => have := ih k; simp only [List.take_succ_cons, cntPs]; omega
abbrev PSm (g : Pat) : Prop := cntP g ≤ 100000000
theorem cntP_kid {g k : Pat} (h : k ∈ g.kids) : cntP k < cntP g := by have := cntP_eq g; have := cntPs_mem h; omega
theorem PSm.kid {g : Pat} (h : PSm g) : ∀ k ∈ g.kids, PSm k := fun k hk => by have := cntP_kid hk; unfold PSm at *; omega
theorem wrap_addP {a b : Nat} (h : a + b ≤ 1000000000) : IntKind.i64.wrap ((a : Int) + (b : Int)) = ((a + b : Nat) : Int) := by rw [w64 (by omega)]; omega
abbrev Pt (g : Pat) : T := .st (encP g)
theorem count_p (g : Pat) (hg : PSm g) : PC zP 78 [Pt g] (I .i64 (cntP g)) := by
  have ih : ∀ k ∈ g.kids, PC zP 78 [Pt k] (I .i64 (cntP k)) := fun k hk => count_p k (hg.kid k hk)
  unfold PSm at hg
  have hce := cntP_eq g
  refine PCB.of_body Tryz.func78 rfl (by decide) Tryz.ntmps78 Tryz.results78 rfl rfl rfl ?_ rfl rfl
  repeat' (first | (simp only [go_sem, zA, zB, zC, zD, zE, zF, zG, reduceCtorEq, zH, zI, zJ, zK, zL, encP_eq g, lB]; all_goals fail_if_success guard_target =ₛ False) | (with_reducible first | ((first | refine yA rfl ?_ | refine yS ?_ | refine yT (by kernel_rfl) ?_); intro K hK) | (apply hK; clear hK K) | refine yU ?_ | (refine yV (by with_unfolding_all rfl) ?_ ?_ <;> intro h <;> (try simp only [zM, zN] at h) <;> try exact absurd h (by decide)) | refine yW ?_ | refine yX ?_ | refine yY ?_ | refine Or.inl ?_) | (clear hK K))
  refine xF 7 rfl fun hlen0 => ?_
  (try rw [lB] at hlen0)
  refine xC (S := Nat) (g.kids) encP (fun k s => (9, I .i64 (k : Nat)) :: [(3, I .i64 (s : Nat))]) (fun k s => []) [7, 8] [] (fun k s => Is s (1 + cntPs (g.kids.take k))) (1) (by simp only [go_sem, zA, zB, zC, zD, zE, zF, zG, reduceCtorEq, zH, zI, zJ, zK, zL, encP_eq]; exact (by refine xG [] ?_ ?_ rfl rfl rfl <;> repeat first | exact trivial | refine ⟨rfl, ?_⟩ | refine ⟨by (simp only [go_sem, zA, zB, zC, zD, zE, zF, zG, reduceCtorEq, zH, zI, zJ, zK, zL, lA, lB, lC, lD, Nat.zero_add]) <;> rfl, ?_⟩)) ?_ ?_ ?_
  · simp [Is, cntPs]
  · intro k s x hlt hx hx' hb hok
    unfold Is at hok
    simp only [go_sem, zA, zB, zC, zD, zE, zF, zG, reduceCtorEq, zH, zI, zJ, zK, zL]
    have hix := ih x (lP hx)
    have hct := cntPs_take hx
    have hcl := cntPs_le g.kids (k + 1)
    have hw := wrap_addP (a := s) (b := cntP x) (by omega)
    repeat' (first | (simp only [go_sem, zA, zB, zC, zD, zE, zF, zG, reduceCtorEq, zH, zI, zJ, zK, zL, lB, hb, hw]; all_goals fail_if_success guard_target =ₛ False) | (with_reducible first | ((first | refine yA rfl ?_ | refine yS ?_ | refine yT (by kernel_rfl) ?_); intro K hK) | (apply hK; clear hK K) | refine yU ?_ | (refine yV (by with_unfolding_all rfl) ?_ ?_ <;> intro h <;> (try simp only [zM, zN] at h) <;> try exact absurd h (by decide)) | refine yW ?_ | refine yX ?_ | refine yY ?_ | refine ⟨_, hix, ?_⟩ | refine ⟨by omega, encP x, hx', ?_⟩ | refine Or.inl ?_) | (clear hK K))
    all_goals (rw [wrap_succ hlt hlen0])
    all_goals (refine ⟨s + cntP x, ?_, (by refine xG [] ?_ ?_ rfl rfl rfl <;> repeat first | exact trivial | refine ⟨rfl, ?_⟩ | refine ⟨by (simp only [go_sem, zA, zB, zC, zD, zE, zF, zG, reduceCtorEq, zH, zI, zJ, zK, zL, lA, lB, lC, lD, Nat.zero_add]) <;> rfl, ?_⟩)⟩)
    all_goals (show _ = _; omega)
  intro s0 hb0 hok0
  simp only [go_sem, zA, zB, zC, zD, zE, zF, zG, reduceCtorEq, zH, zI, zJ, zK, zL]
  rw [Is, List.take_length] at hok0
  repeat' (first | (simp only [go_sem, zA, zB, zC, zD, zE, zF, zG, reduceCtorEq, zH, zI, zJ, zK, zL, lB, hb0]; all_goals fail_if_success guard_target =ₛ False) | (with_reducible first | ((first | refine yA rfl ?_ | refine yS ?_ | refine yT (by kernel_rfl) ?_); intro K hK) | (apply hK; clear hK K) | refine yU ?_ | (refine yV (by with_unfolding_all rfl) ?_ ?_ <;> intro h <;> (try simp only [zM, zN] at h) <;> try exact absurd h (by decide)) | refine yW ?_ | refine yX ?_ | refine yY ?_ | refine Or.inl ?_) | (clear hK K))
  all_goals (refine fin0 ?_; rw [show cntP g = s0 by omega])
termination_by cntP g
decreasing_by exact cntP_kid hk
theorem patterns_c (g : Pat) (hg : PSm g) : PC zP 83 [Pt g] (I .i64 (cntP g)) := by
  have ih : ∀ k ∈ g.kids, PC zP 83 [Pt k] (I .i64 (cntP k)) := fun k hk => patterns_c k (hg.kid k hk)
  unfold PSm at hg
  have hce := cntP_eq g
  refine PCB.of_body Tryz.func83 rfl (by decide) Tryz.ntmps83 Tryz.results83 rfl rfl rfl ?_ rfl rfl
  repeat' (first | (simp only [go_sem, zA, zB, zC, zD, zE, zF, zG, reduceCtorEq, zH, zI, zJ, zK, zL, encP_eq g, lB]; all_goals fail_if_success guard_target =ₛ False) | (with_reducible first | ((first | refine yA rfl ?_ | refine yS ?_ | refine yT (by kernel_rfl) ?_); intro K hK) | (apply hK; clear hK K) | refine yU ?_ | (refine yV (by with_unfolding_all rfl) ?_ ?_ <;> intro h <;> (try simp only [zM, zN] at h) <;> try exact absurd h (by decide)) | refine yW ?_ | refine yX ?_ | refine yY ?_ | refine Or.inl ?_) | (clear hK K))
  refine AWP.lenB 1 3 rfl rfl fun hlen0 => ?_
  (try rw [lB] at hlen0)
  refine xC (S := Nat) (g.kids) encP (fun k s => (4, I .i64 (k : Nat)) :: [(3, I .i64 (s : Nat))]) (fun k s => []) [1] [1] (fun k s => Is s (1 + cntPs (g.kids.take k))) (1) (by simp only [go_sem, zA, zB, zC, zD, zE, zF, zG, reduceCtorEq, zH, zI, zJ, zK, zL, encP_eq]; exact (by refine xG [] ?_ ?_ rfl rfl rfl <;> repeat first | exact trivial | refine ⟨rfl, ?_⟩ | refine ⟨by (simp only [go_sem, zA, zB, zC, zD, zE, zF, zG, reduceCtorEq, zH, zI, zJ, zK, zL, lA, lB, lC, lD, Nat.zero_add]) <;> rfl, ?_⟩)) ?_ ?_ ?_
  · simp [Is, cntPs]
  · intro k s x hlt hx hx' hb hok
    unfold Is at hok
    simp only [go_sem, zA, zB, zC, zD, zE, zF, zG, reduceCtorEq, zH, zI, zJ, zK, zL]
    have hix := ih x (lP hx)
    have hct := cntPs_take hx
    have hcl := cntPs_le g.kids (k + 1)
    have hw := wrap_addP (a := s) (b := cntP x) (by omega)
    repeat' (first | (simp only [go_sem, zA, zB, zC, zD, zE, zF, zG, reduceCtorEq, zH, zI, zJ, zK, zL, encP_eq g, lB, hb, hw]; all_goals fail_if_success guard_target =ₛ False) | (with_reducible first | ((first | refine yA rfl ?_ | refine yS ?_ | refine yT (by kernel_rfl) ?_); intro K hK) | (apply hK; clear hK K) | refine yU ?_ | (refine yV (by with_unfolding_all rfl) ?_ ?_ <;> intro h <;> (try simp only [zM, zN] at h) <;> try exact absurd h (by decide)) | refine yW ?_ | refine yX ?_ | refine yY ?_ | refine ⟨_, hix, ?_⟩ | refine ⟨by omega, encP x, hx', ?_⟩ | refine Or.inl ?_) | (clear hK K))
    all_goals (rw [wrap_succ hlt hlen0])
    all_goals (refine ⟨s + cntP x, ?_, (by refine xG [] ?_ ?_ rfl rfl rfl <;> repeat first | exact trivial | refine ⟨rfl, ?_⟩ | refine ⟨by (simp only [go_sem, zA, zB, zC, zD, zE, zF, zG, reduceCtorEq, zH, zI, zJ, zK, zL, lA, lB, lC, lD, Nat.zero_add]) <;> rfl, ?_⟩)⟩)
    all_goals (show _ = _; omega)
  intro s0 hb0 hok0
  simp only [go_sem, zA, zB, zC, zD, zE, zF, zG, reduceCtorEq, zH, zI, zJ, zK, zL]
  rw [Is, List.take_length] at hok0
  repeat' (first | (simp only [go_sem, zA, zB, zC, zD, zE, zF, zG, reduceCtorEq, zH, zI, zJ, zK, zL, encP_eq g, lB, hb0]; all_goals fail_if_success guard_target =ₛ False) | (with_reducible first | ((first | refine yA rfl ?_ | refine yS ?_ | refine yT (by kernel_rfl) ?_); intro K hK) | (apply hK; clear hK K) | refine yU ?_ | (refine yV (by with_unfolding_all rfl) ?_ ?_ <;> intro h <;> (try simp only [zM, zN] at h) <;> try exact absurd h (by decide)) | refine yW ?_ | refine yX ?_ | refine yY ?_ | refine Or.inl ?_) | (clear hK K))
  all_goals (refine fin0 ?_; rw [show cntP g = s0 by omega])
termination_by cntP g
decreasing_by exact cntP_kid hk
theorem sizeP_c (g : Pat) (hg : PSm g) : PC zP 16 [Pt g] (I .i64 (cntP g)) := by
  have ih : ∀ k ∈ g.kids, PC zP 16 [Pt k] (I .i64 (cntP k)) := fun k hk => sizeP_c k (hg.kid k hk)
  unfold PSm at hg
  have hce := cntP_eq g
  refine PCB.of_body Tryz.func16 rfl (by decide) Tryz.ntmps16 Tryz.results16 rfl rfl rfl ?_ rfl rfl
  repeat' (first | (simp only [go_sem, zA, zB, zC, zD, zE, zF, zG, reduceCtorEq, zH, zI, zJ, zK, zL, encP_eq g, lB]; all_goals fail_if_success guard_target =ₛ False) | (with_reducible first | ((first | refine yA rfl ?_ | refine yS ?_ | refine yT (by kernel_rfl) ?_); intro K hK) | (apply hK; clear hK K) | refine yU ?_ | (refine yV (by with_unfolding_all rfl) ?_ ?_ <;> intro h <;> (try simp only [zM, zN] at h) <;> try exact absurd h (by decide)) | refine yW ?_ | refine yX ?_ | refine yY ?_ | refine Or.inl ?_) | (clear hK K))
  refine AWP.lenB 1 3 rfl rfl fun hlen0 => ?_
  (try rw [lB] at hlen0)
  refine xC (S := Nat) (g.kids) encP (fun k s => (4, I .i64 (k : Nat)) :: [(3, I .i64 (s : Nat))]) (fun k s => []) [1] [1] (fun k s => Is s (1 + cntPs (g.kids.take k))) (1) (by simp only [go_sem, zA, zB, zC, zD, zE, zF, zG, reduceCtorEq, zH, zI, zJ, zK, zL, encP_eq]; exact (by refine xG [] ?_ ?_ rfl rfl rfl <;> repeat first | exact trivial | refine ⟨rfl, ?_⟩ | refine ⟨by (simp only [go_sem, zA, zB, zC, zD, zE, zF, zG, reduceCtorEq, zH, zI, zJ, zK, zL, lA, lB, lC, lD, Nat.zero_add]) <;> rfl, ?_⟩)) ?_ ?_ ?_
  · simp [Is, cntPs]
  · intro k s x hlt hx hx' hb hok
    unfold Is at hok
    simp only [go_sem, zA, zB, zC, zD, zE, zF, zG, reduceCtorEq, zH, zI, zJ, zK, zL]
    have hix := ih x (lP hx)
    have hct := cntPs_take hx
    have hcl := cntPs_le g.kids (k + 1)
    have hw := wrap_addP (a := s) (b := cntP x) (by omega)
    repeat' (first | (simp only [go_sem, zA, zB, zC, zD, zE, zF, zG, reduceCtorEq, zH, zI, zJ, zK, zL, encP_eq g, lB, hb, hw]; all_goals fail_if_success guard_target =ₛ False) | (with_reducible first | ((first | refine yA rfl ?_ | refine yS ?_ | refine yT (by kernel_rfl) ?_); intro K hK) | (apply hK; clear hK K) | refine yU ?_ | (refine yV (by with_unfolding_all rfl) ?_ ?_ <;> intro h <;> (try simp only [zM, zN] at h) <;> try exact absurd h (by decide)) | refine yW ?_ | refine yX ?_ | refine yY ?_ | refine ⟨_, hix, ?_⟩ | refine ⟨by omega, encP x, hx', ?_⟩ | refine Or.inl ?_) | (clear hK K))
    all_goals (rw [wrap_succ hlt hlen0])
    all_goals (refine ⟨s + cntP x, ?_, (by refine xG [] ?_ ?_ rfl rfl rfl <;> repeat first | exact trivial | refine ⟨rfl, ?_⟩ | refine ⟨by (simp only [go_sem, zA, zB, zC, zD, zE, zF, zG, reduceCtorEq, zH, zI, zJ, zK, zL, lA, lB, lC, lD, Nat.zero_add]) <;> rfl, ?_⟩)⟩)
    all_goals (show _ = _; omega)
  intro s0 hb0 hok0
  simp only [go_sem, zA, zB, zC, zD, zE, zF, zG, reduceCtorEq, zH, zI, zJ, zK, zL]
  rw [Is, List.take_length] at hok0
  repeat' (first | (simp only [go_sem, zA, zB, zC, zD, zE, zF, zG, reduceCtorEq, zH, zI, zJ, zK, zL, encP_eq g, lB, hb0]; all_goals fail_if_success guard_target =ₛ False) | (with_reducible first | ((first | refine yA rfl ?_ | refine yS ?_ | refine yT (by kernel_rfl) ?_); intro K hK) | (apply hK; clear hK K) | refine yU ?_ | (refine yV (by with_unfolding_all rfl) ?_ ?_ <;> intro h <;> (try simp only [zM, zN] at h) <;> try exact absurd h (by decide)) | refine yW ?_ | refine yX ?_ | refine yY ?_ | refine Or.inl ?_) | (clear hK K))
  all_goals (refine fin0 ?_; rw [show cntP g = s0 by omega])
termination_by cntP g
decreasing_by exact cntP_kid hk
theorem indexFuncP0 (F : FuncId) (p : Pat → Bool) (l : List Pat) (hp : ∀ g ∈ l, PC zP F [Pt g] (Bo (p g))) :
    PC zP 143 [.one (.dat (.sl 5 (l.map encP))), .one (.dat (.fn F))] (I .i64 (findI p 0 l)) := by
  refine PCB.of_body Tryz.func143 rfl (by decide) Tryz.ntmps143 Tryz.results143 rfl rfl rfl ?_ rfl rfl
  repeat' (first | (simp only [go_sem, zA, zB, zC, zD, zE, zF, zG, reduceCtorEq, zH, zI, zJ, zK, zL, lB]; all_goals fail_if_success guard_target =ₛ False) | (with_reducible first | ((first | refine yA rfl ?_ | refine yS ?_ | refine yT (by kernel_rfl) ?_); intro K hK) | (apply hK; clear hK K) | refine yU ?_ | (refine yV (by with_unfolding_all rfl) ?_ ?_ <;> intro h <;> (try simp only [zM, zN] at h) <;> try exact absurd h (by decide)) | refine yW ?_ | refine yX ?_ | refine yY ?_ | refine Or.inl ?_) | (clear hK K))
  refine xF 0 rfl fun hlen0 => ?_
  (try rw [lB] at hlen0)
  refine xC (S := Unit) (l) encP (fun k s => (8, I .i64 (k : Nat)) :: []) (fun k s => []) [0, 1, 7] [] (fun k s => findI p 0 l = findI p k (l.drop k)) (()) (by simp only [go_sem, zA, zB, zC, zD, zE, zF, zG, reduceCtorEq, zH, zI, zJ, zK, zL]; exact (by refine xG [] ?_ ?_ rfl rfl rfl <;> repeat first | exact trivial | refine ⟨rfl, ?_⟩ | refine ⟨by (simp only [go_sem, zA, zB, zC, zD, zE, zF, zG, reduceCtorEq, zH, zI, zJ, zK, zL, lA, lB, lC, lD, Nat.zero_add]) <;> rfl, ?_⟩)) ?_ ?_ ?_
  · rfl
  · intro k s x hlt hx hx' hb hok
    simp only [go_sem, zA, zB, zC, zD, zE, zF, zG, reduceCtorEq, zH, zI, zJ, zK, zL]
    have hix := hp x (lP hx)
    rw [findI_drop p l k x hx] at hok
    cases hz : p x <;> simp only [hz, cond_true, cond_false] at hok
    all_goals
      repeat' (first | (simp only [go_sem, zA, zB, zC, zD, zE, zF, zG, reduceCtorEq, zH, zI, zJ, zK, zL, lB, hb, hz]; all_goals fail_if_success guard_target =ₛ False) | (with_reducible first | ((first | refine yA rfl ?_ | refine yS ?_ | refine yT (by kernel_rfl) ?_); intro K hK) | (apply hK; clear hK K) | refine yU ?_ | (refine yV (by with_unfolding_all rfl) ?_ ?_ <;> intro h <;> (try simp only [zM, zN] at h) <;> try exact absurd h (by decide)) | refine yW ?_ | refine yX ?_ | refine yY ?_ | refine ⟨_, hix, ?_⟩ | refine ⟨by omega, encP x, hx', ?_⟩ | refine Or.inl ?_) | (clear hK K))
    ·
      all_goals (rw [wrap_succ hlt hlen0])
      all_goals (refine ⟨(), ?_, (by refine xG [] ?_ ?_ rfl rfl rfl <;> repeat first | exact trivial | refine ⟨rfl, ?_⟩ | refine ⟨by (simp only [go_sem, zA, zB, zC, zD, zE, zF, zG, reduceCtorEq, zH, zI, zJ, zK, zL, lA, lB, lC, lD, Nat.zero_add]) <;> rfl, ?_⟩)⟩)
      all_goals exact hok
    ·
      all_goals (first | exact fun _ h => (by cases h) | (refine fin0 ?_; first | rfl | (simp only [hok, zb, cond_true, cond_false, decide_true, decide_false] <;> rfl)))
  intro s0 hb0 hok0
  simp only [go_sem, zA, zB, zC, zD, zE, zF, zG, reduceCtorEq, zH, zI, zJ, zK, zL]
  rw [List.drop_length] at hok0
  repeat' (first | (simp only [go_sem, zA, zB, zC, zD, zE, zF, zG, reduceCtorEq, zH, zI, zJ, zK, zL, lB, hb0]; all_goals fail_if_success guard_target =ₛ False) | (with_reducible first | ((first | refine yA rfl ?_ | refine yS ?_ | refine yT (by kernel_rfl) ?_); intro K hK) | (apply hK; clear hK K) | refine yU ?_ | (refine yV (by with_unfolding_all rfl) ?_ ?_ <;> intro h <;> (try simp only [zM, zN] at h) <;> try exact absurd h (by decide)) | refine yW ?_ | refine yX ?_ | refine yY ?_ | refine Or.inl ?_) | (clear hK K))
  all_goals (refine fin0 ?_; rw [hok0]; rfl)
theorem containsP0 (F : FuncId) (p : Pat → Bool) (l : List Pat) (hp : ∀ g ∈ l, PC zP F [Pt g] (Bo (p g))) :
    PC zP 110 [.one (.dat (.sl 5 (l.map encP))), .one (.dat (.fn F))] (Bo (l.any p)) := by
  have h := indexFuncP0 F p l hp
  refine PCB.of_body Tryz.func110 rfl (by decide) Tryz.ntmps110 Tryz.results110 rfl rfl rfl ?_ rfl rfl
  repeat' (first | (simp only [go_sem, zA, zB, zC, zD, zE, zF, zG, reduceCtorEq, zH, zI, zJ, zK, zL]; all_goals fail_if_success guard_target =ₛ False) | (with_reducible first | ((first | refine yA rfl ?_ | refine yS ?_ | refine yT (by kernel_rfl) ?_); intro K hK) | (apply hK; clear hK K) | refine yU ?_ | (refine yV (by with_unfolding_all rfl) ?_ ?_ <;> intro h <;> (try simp only [zM, zN] at h) <;> try exact absurd h (by decide)) | refine yW ?_ | refine yX ?_ | refine yY ?_ | refine ⟨_, h, ?_⟩ | refine Or.inl ?_) | (clear hK K))
  all_goals (refine fin0 ?_; rw [show decide (0 ≤ findI p 0 l) = l.any p from by rw [← Bool.coe_iff_coe]; simpa using findI_any p l 0])
mutual
def bulkV : Val → Nat
  | ⟨_, _, _, kids, keys, ents, labels⟩ => 1 + bulkVs kids + keys.length + bulkEs ents + labels.length
def bulkVs : List Val → Nat
  | [] => 0
  | v :: l => bulkV v + bulkVs l
def bulkE : List Val × Bool × Val → Nat
  | (a, _, r) => 1 + bulkVs a + bulkV r
def bulkEs : List (List Val × Bool × Val) → Nat
  | [] => 0
  | e :: l => bulkE e + bulkEs l
end
theorem bulkV_eq (v : Val) : bulkV v = 1 + bulkVs v.kids + v.keys.length + bulkEs v.ents + v.labels.length := by cases v; simp only [bulkV]
theorem bulkE_eq (e : List Val × Bool × Val) : bulkE e = 1 + bulkVs e.1 + bulkV e.2.2 := by obtain ⟨a, f, r⟩ := e; simp only [bulkE]
theorem bulkV_pos (v : Val) : 1 ≤ bulkV v := by rw [bulkV_eq]; omega
theorem bulkVs_len : ∀ l : List Val, l.length ≤ bulkVs l
  | [] => by simp [bulkVs]
  | v :: l => by have := bulkVs_len l; have := bulkV_pos v; simp only [bulkVs, lC]; omega
theorem bulkVs_mem : ∀ {l : List Val} {v : Val}, v ∈ l → bulkV v ≤ bulkVs l
  | w :: l, v, h => by
    simp only [bulkVs]
    rcases List.mem_cons.1 h with rfl | h
    · omega
    · have := bulkVs_mem h; omega
theorem bulkEs_len : ∀ l : List (List Val × Bool × Val), l.length ≤ bulkEs l
  | [] => by simp [bulkEs]
  | e :: l => by have := bulkEs_len l; have := bulkE_eq e; simp only [bulkEs, lC]; omega
theorem bulkEs_mem : ∀ {l : List (List Val × Bool × Val)} {e : List Val × Bool × Val}, e ∈ l → bulkE e ≤ bulkEs l
  | w :: l, e, h => by
    simp only [bulkEs]
    rcases List.mem_cons.1 h with rfl | h
    · omega
    · have := bulkEs_mem h; omega
theorem bulkVs_append : ∀ a b : List Val, bulkVs (a ++ b) = bulkVs a + bulkVs b
  | [], b => by simp [bulkVs]
  | v :: a, b => by simp only [List.cons_append, bulkVs, bulkVs_append a b]; omega
abbrev Sm (v : Val) : Prop := bulkV v ≤ 100000000
theorem Sm.kids {v : Val} (h : Sm v) : v.kids.length ≤ 100000000 := by unfold Sm at h; have := bulkV_eq v; have := bulkVs_len v.kids; omega
theorem Sm.kid {v : Val} (h : Sm v) : ∀ k ∈ v.kids, Sm k := fun k hk => by unfold Sm at *; have := bulkV_eq v; have := bulkVs_mem hk; omega
theorem Sm.keys {v : Val} (h : Sm v) : v.keys.length ≤ 100000000 := by unfold Sm at h; have := bulkV_eq v; omega
def partE (e : List Val × Bool × Val) : List Val := bif e.2.1 then e.1 else e.1 ++ [e.2.2]
def partsV (v : Val) : List Val := v.kids ++ v.ents.flatMap partE
theorem bulk_partE (e : List Val × Bool × Val) : bulkVs (partE e) ≤ bulkE e := by
  unfold partE; rw [bulkE_eq]
  cases e.2.1 <;> simp only [cond_true, cond_false, bulkVs_append, bulkVs] <;> omega
theorem bulk_flat : ∀ l : List (List Val × Bool × Val), bulkVs (l.flatMap partE) ≤ bulkEs l
  | [] => by simp [bulkVs]
  | e :: l => by have := bulk_flat l; have := bulk_partE e; simp only [List.flatMap_cons, bulkVs_append, bulkEs]; omega
theorem bulk_parts (v : Val) : bulkVs (partsV v) + 1 ≤ bulkV v := by
  have := bulk_flat v.ents
  rw [bulkV_eq, partsV, bulkVs_append]; omega
theorem bulk_part {v p : Val} (h : p ∈ partsV v) : bulkV p < bulkV v := by
  have := bulk_parts v; have := bulkVs_mem h; omega
theorem cloneVals_n (l : List Val) (hl : l.length ≤ 100000000) : PCN zP 154 [.one (.dat (.sl 7 (l.map encVal)))] (.one (.own 0 l.length)) (.row 7 (l.map encVal)) := by
  refine PCN.of_body 7 Tryz.func154 rfl (by decide) Tryz.ntmps154 Tryz.results154 rfl rfl ?_
  refine AWP.ghQ ?_
  repeat' (first | ( refine AWP.nilR (e := 31) rfl (by decide) (by decide) rfl (fun hnil => ?_) ?_) | (simp only [go_sem, zA, zB, zC, zD, zE, zF, zG, reduceCtorEq, zH, zI, zJ, zK, zL, lB]; all_goals fail_if_success guard_target =ₛ False) | (with_reducible first | ((first | refine yA rfl ?_ | refine yS ?_ | refine yT (by kernel_rfl) ?_); intro K hK) | (apply hK; clear hK K) | refine yU ?_ | (refine yV (by with_unfolding_all rfl) ?_ ?_ <;> intro h <;> (try simp only [zM, zN] at h) <;> try exact absurd h (by decide)) | refine yW ?_ | refine yX ?_ | refine yY ?_ | (refine Or.inr (show vBuildOwn _ 5 _ _ _ _ _ _ from ?_); unfold vBuildOwn; with_reducible refine Or.inr ?_; simp only [vBuildRow, go_sem, zA, zB, zC, zD, zE, zF, zG, reduceCtorEq, zH, zI, zJ, zK, zL, lB]) | refine ⟨(by omega : _ ≤ _), ?_⟩ | refine Or.inl ?_) | (clear hK K))
  · refine GhQ.step (Gh.nilrow 2 7 rfl rfl rfl rfl) ?_
    refine ⟨_, Gh.refl _, ?_⟩
    have : l = [] := by simpa using hnil
    subst this
    simp only [go_sem, zA, zB, zC, zD, zE, zF, zG, reduceCtorEq, zH, zI, zJ, zK, zL, List.map_nil, lD]
    first | exact ⟨rfl, fun x hx => hx⟩ | exact fun x hx => hx
  · refine ⟨_, Gh.refl _, ?_⟩
    simp only [go_sem, zA, zB, zC, zD, zE, zF, zG, reduceCtorEq, zH, zI, zJ, zK, zL, lB]
    first | exact ⟨rfl, fun x hx => hx⟩ | exact fun x hx => hx
theorem flat_take {l : List (List Val × Bool × Val)} {k : Nat} {x : List Val × Bool × Val} (hx : l[k]? = some x) : (l.take (k + 1)).flatMap partE = (l.take k).flatMap partE ++ partE x := by
  rw [List.take_add_one, hx]; simp
theorem flat_len {l : List (List Val × Bool × Val)} (k : Nat) : ((l.take k).flatMap partE).length ≤ bulkEs l := by
  have h1 := bulkVs_len ((l.take k).flatMap partE)
  have h2 := bulk_flat (l.take k)
  have h3 : ∀ (l : List (List Val × Bool × Val)) (k : Nat), bulkEs (l.take k) ≤ bulkEs l := by
    intro l
    induction l with
    | nil => intro k; simp
    | cons a l ih => intro k; cases k with
      | zero => simp [bulkEs]
      | succ k => have := ih k; simp only [List.take_succ_cons, bulkEs]; omega
  have := h3 l k
  omega
theorem val_snoc' (l : List Val) (x : Val) : l.map encVal ++ [[.int .i64 x.kind, .int .i64 x.num, .str x.text, .sl 7 (x.kids.map encVal), .sl 2 (x.keys.map encKey), .sl 9 (x.ents.map encEnt), .sl 1 (x.labels.map encStr)]] = (l ++ [x]).map encVal := by rw [← encVal_eq]; simp
theorem val_app (l m : List Val) : l.map encVal ++ m.map encVal = (l ++ m).map encVal := by simp
theorem parts_c (v : Val) (hv : Sm v) : PC zP 122 [.st (encVal v)] (.one (.dat (.sl 7 ((partsV v).map encVal)))) := by
  have hk := hv.kids
  have hb0 := bulkV_eq v
  have hb1 := bulkVs_len v.kids
  unfold Sm at hv
  refine PCB.of_body Tryz.func122 rfl (by decide) Tryz.ntmps122 Tryz.results122 rfl rfl rfl ?_ rfl rfl
  refine AWP.ghQ ?_
  repeat' (first | (simp only [go_sem, zA, zB, zC, zD, zE, zF, zG, reduceCtorEq, zH, zI, zJ, zK, zL, encVal_eq, lB]; all_goals fail_if_success guard_target =ₛ False) | (with_reducible first | ((first | refine yA rfl ?_ | refine yS ?_ | refine yT (by kernel_rfl) ?_); intro K hK) | (apply hK; clear hK K) | refine yU ?_ | (refine yV (by with_unfolding_all rfl) ?_ ?_ <;> intro h <;> (try simp only [zM, zN] at h) <;> try exact absurd h (by decide)) | refine yW ?_ | refine yX ?_ | refine yY ?_ | refine Or.inr ⟨_, _, cloneVals_n v.kids hk, ?_⟩ | refine Or.inl ?_) | (clear hK K))
  refine xF 10 rfl fun hlen0 => ?_
  (try rw [lB] at hlen0)
  refine xC (S := List Val) (v.ents) encEnt (fun k s => (12, I .i64 (k : Nat)) :: [(3, .one (.own 8 s.length))]) (fun k s => [(8, .row 7 (s.map encVal))]) [10, 11] [] (fun k s => Is s (v.kids ++ (v.ents.take k).flatMap partE)) (v.kids) (by simp only [go_sem, zA, zB, zC, zD, zE, zF, zG, reduceCtorEq, zH, zI, zJ, zK, zL, encVal_eq]; exact (by refine xG [] ?_ ?_ rfl rfl rfl <;> repeat first | exact trivial | refine ⟨rfl, ?_⟩ | refine ⟨by (simp only [go_sem, zA, zB, zC, zD, zE, zF, zG, reduceCtorEq, zH, zI, zJ, zK, zL, lA, lB, lC, lD, Nat.zero_add]) <;> rfl, ?_⟩)) ?_ ?_ ?_
  · simp [Is]
  · intro k s x hlt hx hx' hb hok
    simp only [go_sem, zA, zB, zC, zD, zE, zF, zG, reduceCtorEq, zH, zI, zJ, zK, zL]
    have hf := flat_len (l := v.ents) k
    have hbx : bulkE x ≤ bulkEs v.ents := bulkEs_mem (lP hx)
    have hbe := bulkE_eq x
    have hb2 := bulkVs_len x.1
    have hsl : s.length ≤ bulkV v := by rw [show s = _ from hok, lA]; omega
    cases hz : x.2.1
    ·
      repeat' (first | (simp only [go_sem, zA, zB, zC, zD, zE, zF, zG, reduceCtorEq, zH, zI, zJ, zK, zL, lB, lA, hb, hz, encVal_eq, encEnt_eq, val_app, val_snoc']; all_goals fail_if_success guard_target =ₛ False) | (with_reducible first | ((first | refine yA rfl ?_ | refine yS ?_ | refine yT (by kernel_rfl) ?_); intro K hK) | (apply hK; clear hK K) | refine yU ?_ | (refine yV (by with_unfolding_all rfl) ?_ ?_ <;> intro h <;> (try simp only [zM, zN] at h) <;> try exact absurd h (by decide)) | refine yW ?_ | refine yX ?_ | refine yY ?_ | refine ⟨by omega, encEnt x, hx', ?_⟩ | refine ⟨(by omega : _ ≤ _), ?_⟩ | refine Or.inl ?_) | (clear hK K))
      all_goals (rw [wrap_succ hlt hlen0])
      all_goals (refine ⟨s ++ x.1 ++ [x.2.2], ?_, (by refine xG [(8, 27)] ?_ ?_ rfl rfl rfl <;> repeat first | exact trivial | refine ⟨rfl, ?_⟩ | refine ⟨by (simp only [go_sem, zA, zB, zC, zD, zE, zF, zG, reduceCtorEq, zH, zI, zJ, zK, zL, lA, lB, lC, lD, Nat.zero_add]) <;> rfl, ?_⟩)⟩)
      rw [Is, flat_take hx, show s = _ from hok, partE, hz]; simp
    ·
      repeat' (first | (simp only [go_sem, zA, zB, zC, zD, zE, zF, zG, reduceCtorEq, zH, zI, zJ, zK, zL, lB, lA, hb, hz, encVal_eq, encEnt_eq, val_app]; all_goals fail_if_success guard_target =ₛ False) | (with_reducible first | ((first | refine yA rfl ?_ | refine yS ?_ | refine yT (by kernel_rfl) ?_); intro K hK) | (apply hK; clear hK K) | refine yU ?_ | (refine yV (by with_unfolding_all rfl) ?_ ?_ <;> intro h <;> (try simp only [zM, zN] at h) <;> try exact absurd h (by decide)) | refine yW ?_ | refine yX ?_ | refine yY ?_ | refine ⟨by omega, encEnt x, hx', ?_⟩ | refine ⟨(by omega : _ ≤ _), ?_⟩ | refine Or.inl ?_) | (clear hK K))
      all_goals (rw [wrap_succ hlt hlen0])
      all_goals (refine ⟨s ++ x.1, ?_, (by refine xG [(8, 19)] ?_ ?_ rfl rfl rfl <;> repeat first | exact trivial | refine ⟨rfl, ?_⟩ | refine ⟨by (simp only [go_sem, zA, zB, zC, zD, zE, zF, zG, reduceCtorEq, zH, zI, zJ, zK, zL, lA, lB, lC, lD, Nat.zero_add]) <;> rfl, ?_⟩)⟩)
      rw [Is, flat_take hx, show s = _ from hok, partE, hz]; simp
  · intro s hb hok
    simp only [go_sem, zA, zB, zC, zD, zE, zF, zG, reduceCtorEq, zH, zI, zJ, zK, zL]
    rw [List.take_length] at hok
    repeat' (first | (simp only [go_sem, zA, zB, zC, zD, zE, zF, zG, reduceCtorEq, zH, zI, zJ, zK, zL, lB, hb]; all_goals fail_if_success guard_target =ₛ False) | (with_reducible first | ((first | refine yA rfl ?_ | refine yS ?_ | refine yT (by kernel_rfl) ?_); intro K hK) | (apply hK; clear hK K) | refine yU ?_ | (refine yV (by with_unfolding_all rfl) ?_ ?_ <;> intro h <;> (try simp only [zM, zN] at h) <;> try exact absurd h (by decide)) | refine yW ?_ | refine yX ?_ | refine yY ?_ | refine Or.inl ?_) | (clear hK K))
    refine ⟨_, Gh.freeze 8 rfl rfl (by simp only [go_sem, zA, zB, zC, zD, zE, zF, zG, reduceCtorEq, zH, zI, zJ, zK, zL, lB]) (by simp only [go_sem, zA, zB, zC, zD, zE, zF, zG, reduceCtorEq, zH, zI, zJ, zK, zL, lB]), ?_⟩
    simp only [go_sem, zA, zB, zC, zD, zE, zF, zG, reduceCtorEq, zH, zI, zJ, zK, zL, lB]
    all_goals (first | exact fun _ h => (by cases h) | refine fin0 ?_)
    all_goals (rw [show s = _ from hok]; rfl)
end Go.Proofs.YteobojeemflggaaGreat
