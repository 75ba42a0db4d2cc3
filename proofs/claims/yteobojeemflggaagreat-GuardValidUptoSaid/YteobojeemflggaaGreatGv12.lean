/- A part of the proof: lemmas about the walk of the program and about plain integers and lists. No conditions beyond those that each lemma states. -/
import Derived.Test.YteobojeemflggaaGreatGv11
import Derived.Test.YteobojeemflggaaGreatGv10
set_option linter.unusedSimpArgs false
set_option linter.unusedVariables false
set_option maxRecDepth 20000
set_option maxHeartbeats 16000000
namespace Go.Proofs.YteobojeemflggaaGreat
open Go Go.Sx
open Nat renaming reduceBEq → zA, reduceBNe → zB, reduceAdd → zC, reduceSub → zD, reduceMul → zE, reduceLeDiff → zF, reduceLT → zG, reduceEqDiff → zH
open Int renaming reduceToNat → zI, reduceLE → zJ, reduceLT → zK, reduceEq → zL
open Bool renaming not_eq_true' → zM, not_eq_false' → zN
abbrev Ns (ns : List (List UInt8)) : T := .one (.dat (.sl 1 (ns.map encStr)))
abbrev Vs (vs : List Val) : T := .one (.dat (.sl 7 (vs.map encVal)))
/-- the value at a place, tested -/
def atV (vs : List Val) (g : Grd) (i : Int) : Bool :=
  decide (0 ≤ i) && (decide (i < (vs.length : Int)) && (match vs[i.toNat]? with
    | some v => treeB v && testV g v
    | none => false))
def nameAt (ns : List (List UInt8)) (g : Grd) : Int := findI (fun x => decide (g.name = x)) 0 ns
mutual
def evG (ns : List (List UInt8)) (vs : List Val) : Grd → Bool
  | ⟨kind, name, num, text, key, kids⟩ =>
    bif decide (kind = 1) then true else
    bif decide (kind = 2) then evAll ns vs kids else
    bif decide (kind = 3) then evAny ns vs kids else
    bif decide (kind = 4) then !evHd ns vs kids else
    atV vs ⟨kind, name, num, text, key, kids⟩ (nameAt ns ⟨kind, name, num, text, key, kids⟩)
def evAll (ns : List (List UInt8)) (vs : List Val) : List Grd → Bool
  | [] => true
  | g :: l => evG ns vs g && evAll ns vs l
def evAny (ns : List (List UInt8)) (vs : List Val) : List Grd → Bool
  | [] => false
  | g :: l => evG ns vs g || evAny ns vs l
def evHd (ns : List (List UInt8)) (vs : List Val) : List Grd → Bool
  | [] => false
  | g :: _ => evG ns vs g
end
theorem evAll_all (ns : List (List UInt8)) (vs : List Val) : ∀ l : List Grd, evAll ns vs l = l.all (evG ns vs)
  | [] => by simp only [evAll, List.all_nil]
  | g :: l => by simp only [evAll, List.all_cons, evAll_all ns vs l]
theorem evAny_any (ns : List (List UInt8)) (vs : List Val) : ∀ l : List Grd, evAny ns vs l = l.any (evG ns vs)
  | [] => by simp only [evAny, List.any_nil]
  | g :: l => by simp only [evAny, List.any_cons, evAny_any ns vs l]
theorem evG_eq (ns : List (List UInt8)) (vs : List Val) (g : Grd) : evG ns vs g = bif decide (g.kind = 1) then true else bif decide (g.kind = 2) then g.kids.all (evG ns vs) else bif decide (g.kind = 3) then g.kids.any (evG ns vs) else bif decide (g.kind = 4) then !evHd ns vs g.kids else atV vs g (nameAt ns g) := by
  cases g; simp only [evG, evAll_all, evAny_any]
theorem kindsV {g : Grd} (h : vG g = true) : g.kind = 1 ∨ g.kind = 2 ∨ g.kind = 3 ∨ (g.kind = 4 ∧ ∃ k, g.kids = [k]) ∨ (testG g.kind = true ∧ decide (g.kind = 1) = false ∧ decide (g.kind = 2) = false ∧ decide (g.kind = 3) = false ∧ decide (g.kind = 4) = false) := by
  have hb : bodyG g = true := by unfold vG at h; simp only [Bool.and_eq_true] at h; exact h.2
  by_cases h1 : g.kind = 1
  · exact .inl h1
  by_cases h2 : g.kind = 2
  · exact .inr (.inl h2)
  by_cases h3 : g.kind = 3
  · exact .inr (.inr (.inl h3))
  by_cases h4 : g.kind = 4
  · refine .inr (.inr (.inr (.inl ⟨h4, ?_⟩)))
    simp only [bodyG, h4, decide_eq_true_eq, show decide ((4 : Int) = 1) = false from rfl, show decide ((4 : Int) = 2) = false from rfl, show decide ((4 : Int) = 3) = false from rfl, show decide ((4 : Int) = 4) = true from rfl, cond_false, cond_true, Bool.or_false] at hb
    match hk : g.kids, hb with
    | [k], _ => exact ⟨k, rfl⟩
    | [], hb => simp at hb
    | _ :: _ :: _, hb => simp at hb; omega
  · have e1 : decide (g.kind = 1) = false := by simpa using h1
    have e2 : decide (g.kind = 2) = false := by simpa using h2
    have e3 : decide (g.kind = 3) = false := by simpa using h3
    have e4 : decide (g.kind = 4) = false := by simpa using h4
    refine .inr (.inr (.inr (.inr ⟨?_, e1, e2, e3, e4⟩)))
    simp only [bodyG, e1, e2, e3, e4, cond_false, Bool.or_false, Bool.and_eq_true] at hb
    exact hb.1
theorem tree_kid {g k : Grd} (h : treeG g = true) (hk : k ∈ g.kids) : treeG k = true := by
  rw [treeG_eq, Bool.and_eq_true, List.all_eq_true] at h
  exact h.2 k hk
theorem tree_v {g : Grd} (h : treeG g = true) : vG g = true := by
  rw [treeG_eq, Bool.and_eq_true] at h
  exact h.1
theorem find_cases {α : Type} (p : α → Bool) : ∀ (l : List α) (k : Nat), findI p k l = -1 ∨ ∃ n : Nat, findI p k l = n ∧ k ≤ n ∧ n < k + l.length
  | [], k => .inl rfl
  | x :: l, k => by
    simp only [findI]
    cases p x
    · rcases find_cases p l (k + 1) with h | ⟨n, h, h1, h2⟩
      · exact .inl h
      · exact .inr ⟨n, h, by omega, by simp only [List.length_cons]; omega⟩
    · exact .inr ⟨k, rfl, by omega, by simp only [List.length_cons]; omega⟩
theorem place_cases (ns : List (List UInt8)) (vs : List Val) (g : Grd) : nameAt ns g = -1 ∨ (∃ n : Nat, nameAt ns g = n ∧ n < ns.length ∧ ¬ n < vs.length) ∨ ∃ n : Nat, nameAt ns g = n ∧ n < ns.length ∧ n < vs.length := by
  unfold nameAt
  rcases find_cases (fun x => decide (g.name = x)) ns 0 with h | ⟨n, h, _, h2⟩
  · exact .inl h
  · by_cases hv : n < vs.length
    · exact .inr (.inr ⟨n, h, by omega, hv⟩)
    · exact .inr (.inl ⟨n, h, by omega, hv⟩)
/-- evaluation of a valid guard, in the program -/
theorem evaluate_c (ns : List (List UInt8)) (vs : List Val) (hvs : ∀ v ∈ vs, Sm v) (g : Grd) (hg : treeG g = true) : PC Tryz.prog 33 [Gt g, Ns ns, Vs vs] (Bo (evG ns vs g)) := by
  have ih : ∀ k ∈ g.kids, PC Tryz.prog 33 [Gt k, Ns ns, Vs vs] (Bo (evG ns vs k)) := fun k hk => evaluate_c ns vs hvs k (tree_kid hg hk)
  have i1 : ∀ k ∈ g.kids, PC Tryz.prog 61 [Gt k, .one (.ref [.sl 1 (ns.map encStr)]), .one (.ref [.sl 7 (vs.map encVal)])] (Bo (evG ns vs k)) := fun k hk => by
    have h := ih k hk
    refine PCB.of_body Tryz.func61 rfl (by decide) Tryz.ntmps61 Tryz.results61 rfl rfl rfl ?_ rfl rfl
    repeat' (first | (simp only [go_sem, zA, zB, zC, zD, zE, zF, zG, reduceCtorEq, zH, zI, zJ, zK, zL]; all_goals fail_if_success guard_target =ₛ False) | (with_reducible first | ((first | refine seqVC_stepN rfl ?_ | refine AWP.seq ?_ | refine AWP.seqR (by kernel_rfl) ?_); intro K hK) | ((first | refine hK _ _ _ ?_ | refine hK _ _ ?_ | refine hK _ ?_); clear hK K) | refine seqVC_nil ?_ | refine AWP.block ?_ | (refine AWP.cond (by with_unfolding_all rfl) ?_ ?_ <;> intro h <;> (try simp only [zM, zN] at h) <;> try exact absurd h (by decide)) | refine AWP.skip ?_ | refine AWP.ret ?_ | refine AWP.exit ?_ | refine ⟨_, h, ?_⟩ | refine Or.inl ?_) | (clear hK K))
    all_goals (first | exact fun _ h => (by cases h) | (refine fin0 ?_; first | rfl | (simp only [zb, cond_true, cond_false, decide_true, decide_false] <;> rfl)))
  have i2 : ∀ k ∈ g.kids, PC Tryz.prog 63 [Gt k, .one (.ref [.fnc 61 [[.sl 1 (ns.map encStr)], [.sl 7 (vs.map encVal)]]])] (Bo (!evG ns vs k)) := fun k hk => by
    have h := i1 k hk
    refine PCB.of_body Tryz.func63 rfl (by decide) Tryz.ntmps63 Tryz.results63 rfl rfl rfl ?_ rfl rfl
    repeat' (first | (simp only [go_sem, zA, zB, zC, zD, zE, zF, zG, reduceCtorEq, zH, zI, zJ, zK, zL]; all_goals fail_if_success guard_target =ₛ False) | (with_reducible first | ((first | refine seqVC_stepN rfl ?_ | refine AWP.seq ?_ | refine AWP.seqR (by kernel_rfl) ?_); intro K hK) | ((first | refine hK _ _ _ ?_ | refine hK _ _ ?_ | refine hK _ ?_); clear hK K) | refine seqVC_nil ?_ | refine AWP.block ?_ | (refine AWP.cond (by with_unfolding_all rfl) ?_ ?_ <;> intro h <;> (try simp only [zM, zN] at h) <;> try exact absurd h (by decide)) | refine AWP.skip ?_ | refine AWP.ret ?_ | refine AWP.exit ?_ | refine ⟨_, h, ?_⟩ | refine Or.inl ?_) | (clear hK K))
    all_goals (first | exact fun _ h => (by cases h) | (refine fin0 ?_; first | rfl | (simp only [zb, cond_true, cond_false, decide_true, decide_false] <;> rfl)))
  have c1 := containsG2 61 [.sl 1 (ns.map encStr)] [.sl 7 (vs.map encVal)] (evG ns vs) g.kids i1
  have c2 := containsG1 63 [.fnc 61 [[.sl 1 (ns.map encStr)], [.sl 7 (vs.map encVal)]]] (fun k => !evG ns vs k) g.kids i2
  have ha := any_not (evG ns vs) g.kids
  have hix := indexStr_c ns g.name
  rw [evG_eq]
  rcases kindsV (tree_v hg) with hk | hk | hk | ⟨hk, k0, hk0⟩ | ⟨ht, d1, d2, d3, d4⟩
  iterate 3
    ·
      refine PCB.of_body Tryz.func33 rfl (by decide) Tryz.ntmps33 Tryz.results33 rfl rfl rfl ?_ rfl rfl
      repeat' (first | (with_reducible refine AWP.refer (id := 1) 4 (by with_unfolding_all rfl) (by with_unfolding_all rfl) (by with_unfolding_all rfl) (by simp only [go_sem, zA, zB, zC, zD, zE, zF, zG, reduceCtorEq, zH, zI, zJ, zK, zL, encG_eq g, hk, Int.reduceEq]) (by simp only [go_sem, zA, zB, zC, zD, zE, zF, zG, reduceCtorEq, zH, zI, zJ, zK, zL, encG_eq g, hk, Int.reduceEq]) ?_) | (with_reducible refine AWP.refer (id := 1) 5 (by with_unfolding_all rfl) (by with_unfolding_all rfl) (by with_unfolding_all rfl) (by simp only [go_sem, zA, zB, zC, zD, zE, zF, zG, reduceCtorEq, zH, zI, zJ, zK, zL, encG_eq g, hk, Int.reduceEq]) (by simp only [go_sem, zA, zB, zC, zD, zE, zF, zG, reduceCtorEq, zH, zI, zJ, zK, zL, encG_eq g, hk, Int.reduceEq]) ?_) | (with_reducible refine AWP.refer (id := 2) 7 (by with_unfolding_all rfl) (by with_unfolding_all rfl) (by with_unfolding_all rfl) (by simp only [go_sem, zA, zB, zC, zD, zE, zF, zG, reduceCtorEq, zH, zI, zJ, zK, zL, encG_eq g, hk, Int.reduceEq]) (by simp only [go_sem, zA, zB, zC, zD, zE, zF, zG, reduceCtorEq, zH, zI, zJ, zK, zL, encG_eq g, hk, Int.reduceEq]) ?_) | (simp only [go_sem, zA, zB, zC, zD, zE, zF, zG, reduceCtorEq, zH, zI, zJ, zK, zL, encG_eq g, hk, Int.reduceEq]; all_goals fail_if_success guard_target =ₛ False) | (with_reducible first | ((first | refine seqVC_stepN rfl ?_ | refine seqVC_stepG rfl (by with_unfolding_all rfl) ?_ | refine AWP.seq ?_ | refine AWP.seqR (by kernel_rfl) ?_ | refine parVC_stepN rfl ?_ | refine parVC_stepG rfl (by with_unfolding_all rfl) ?_ | refine parEVC_stepN rfl ?_ | refine parEVC_stepG rfl (by with_unfolding_all rfl) ?_ | refine genVC_stepN rfl ?_ | refine genVC_stepG rfl (by with_unfolding_all rfl) ?_); intro K hK) | ((first | refine hK _ _ _ ?_ | refine hK _ _ ?_ | refine hK _ ?_); clear hK K) | refine seqVC_nil ?_ | refine parVC_nil ?_ | refine parEVC_nil ?_ | refine genVC_nil ?_ | refine AWP.block ?_ | (refine AWP.cond (by with_unfolding_all rfl) ?_ ?_ <;> intro h <;> (try simp only [zM, zN] at h) <;> try exact absurd h (by decide)) | refine AWP.skip ?_ | refine AWP.ret ?_ | refine AWP.exit ?_ | (refine ⟨fun h => ?_, fun h => ?_⟩ <;> (try simp only [zM, zN] at h) <;> try simp only [h]) | refine ⟨_, c1, ?_⟩ | refine ⟨_, c2, ?_⟩ | refine AWP.parR mixed (by kernel_rfl) fun K hK => ?_ | refine ⟨(by kernel_rfl : depB _ _ _ = true), ?_⟩ | refine Or.inl ?_) | (clear hK K))
      all_goals (first | exact fun _ h => (by cases h) | refine fin0 ?_)
      all_goals (simp only [hk, Int.reduceEq, ha, zb, cond_true, cond_false, decide_true, decide_false])
  · have hm : k0 ∈ g.kids := by rw [hk0]; simp
    have i0 := i1 k0 hm
    have hk0' : (g.kids.map encG)[0]? = some (encG k0) := by rw [hk0]; rfl
    refine PCB.of_body Tryz.func33 rfl (by decide) Tryz.ntmps33 Tryz.results33 rfl rfl rfl ?_ rfl rfl
    repeat' (first | (with_reducible refine AWP.refer (id := 1) 4 (by with_unfolding_all rfl) (by with_unfolding_all rfl) (by with_unfolding_all rfl) (by simp only [go_sem, zA, zB, zC, zD, zE, zF, zG, reduceCtorEq, zH, zI, zJ, zK, zL, encG_eq g, hk, Int.reduceEq, List.length_map]) (by simp only [go_sem, zA, zB, zC, zD, zE, zF, zG, reduceCtorEq, zH, zI, zJ, zK, zL, encG_eq g, hk, Int.reduceEq, List.length_map]) ?_) | (with_reducible refine AWP.refer (id := 1) 5 (by with_unfolding_all rfl) (by with_unfolding_all rfl) (by with_unfolding_all rfl) (by simp only [go_sem, zA, zB, zC, zD, zE, zF, zG, reduceCtorEq, zH, zI, zJ, zK, zL, encG_eq g, hk, Int.reduceEq, List.length_map]) (by simp only [go_sem, zA, zB, zC, zD, zE, zF, zG, reduceCtorEq, zH, zI, zJ, zK, zL, encG_eq g, hk, Int.reduceEq, List.length_map]) ?_) | (with_reducible refine AWP.refer (id := 2) 7 (by with_unfolding_all rfl) (by with_unfolding_all rfl) (by with_unfolding_all rfl) (by simp only [go_sem, zA, zB, zC, zD, zE, zF, zG, reduceCtorEq, zH, zI, zJ, zK, zL, encG_eq g, hk, Int.reduceEq, List.length_map]) (by simp only [go_sem, zA, zB, zC, zD, zE, zF, zG, reduceCtorEq, zH, zI, zJ, zK, zL, encG_eq g, hk, Int.reduceEq, List.length_map]) ?_) | (simp only [go_sem, zA, zB, zC, zD, zE, zF, zG, reduceCtorEq, zH, zI, zJ, zK, zL, encG_eq g, hk, Int.reduceEq, List.length_map]; all_goals fail_if_success guard_target =ₛ False) | (with_reducible first | ((first | refine seqVC_stepN rfl ?_ | refine seqVC_stepG rfl (by with_unfolding_all rfl) ?_ | refine AWP.seq ?_ | refine AWP.seqR (by kernel_rfl) ?_ | refine parVC_stepN rfl ?_ | refine parVC_stepG rfl (by with_unfolding_all rfl) ?_ | refine parEVC_stepN rfl ?_ | refine parEVC_stepG rfl (by with_unfolding_all rfl) ?_ | refine genVC_stepN rfl ?_ | refine genVC_stepG rfl (by with_unfolding_all rfl) ?_); intro K hK) | ((first | refine hK _ _ _ ?_ | refine hK _ _ ?_ | refine hK _ ?_); clear hK K) | refine seqVC_nil ?_ | refine parVC_nil ?_ | refine parEVC_nil ?_ | refine genVC_nil ?_ | refine AWP.block ?_ | (refine AWP.cond (by with_unfolding_all rfl) ?_ ?_ <;> intro h <;> (try simp only [zM, zN] at h) <;> try exact absurd h (by decide)) | refine AWP.skip ?_ | refine AWP.ret ?_ | refine AWP.exit ?_ | (refine ⟨fun h => ?_, fun h => ?_⟩ <;> (try simp only [zM, zN] at h) <;> try simp only [h]) | refine ⟨_, i0, ?_⟩ | refine ⟨encG k0, hk0', ?_⟩ | refine ⟨by omega, encG k0, hk0', ?_⟩ | refine AWP.parR mixed (by kernel_rfl) fun K hK => ?_ | refine ⟨(by kernel_rfl : depB _ _ _ = true), ?_⟩ | refine Or.inl ?_) | (clear hK K))
    all_goals (first | exact fun _ h => (by cases h) | refine fin0 ?_)
    all_goals (simp only [hk, hk0, evHd, Int.reduceEq, zb, cond_true, cond_false, decide_true, decide_false])
  · rcases place_cases ns vs g with hp | ⟨n, hp, h1, h2⟩ | ⟨n, hp, h1, h2⟩ <;> rw [← nameAt] at hix
    ·
      refine PCB.of_body Tryz.func33 rfl (by decide) Tryz.ntmps33 Tryz.results33 rfl rfl rfl ?_ rfl rfl
      repeat' (first | (with_reducible refine AWP.refer (id := 1) 4 (by with_unfolding_all rfl) (by with_unfolding_all rfl) (by with_unfolding_all rfl) (by simp only [go_sem, zA, zB, zC, zD, zE, zF, zG, reduceCtorEq, zH, zI, zJ, zK, zL, encG_eq g, d1, d2, d3, d4, hp, List.length_map]) (by simp only [go_sem, zA, zB, zC, zD, zE, zF, zG, reduceCtorEq, zH, zI, zJ, zK, zL, encG_eq g, d1, d2, d3, d4, hp, List.length_map]) ?_) | (with_reducible refine AWP.refer (id := 1) 5 (by with_unfolding_all rfl) (by with_unfolding_all rfl) (by with_unfolding_all rfl) (by simp only [go_sem, zA, zB, zC, zD, zE, zF, zG, reduceCtorEq, zH, zI, zJ, zK, zL, encG_eq g, d1, d2, d3, d4, hp, List.length_map]) (by simp only [go_sem, zA, zB, zC, zD, zE, zF, zG, reduceCtorEq, zH, zI, zJ, zK, zL, encG_eq g, d1, d2, d3, d4, hp, List.length_map]) ?_) | (with_reducible refine AWP.refer (id := 2) 7 (by with_unfolding_all rfl) (by with_unfolding_all rfl) (by with_unfolding_all rfl) (by simp only [go_sem, zA, zB, zC, zD, zE, zF, zG, reduceCtorEq, zH, zI, zJ, zK, zL, encG_eq g, d1, d2, d3, d4, hp, List.length_map]) (by simp only [go_sem, zA, zB, zC, zD, zE, zF, zG, reduceCtorEq, zH, zI, zJ, zK, zL, encG_eq g, d1, d2, d3, d4, hp, List.length_map]) ?_) | (simp only [go_sem, zA, zB, zC, zD, zE, zF, zG, reduceCtorEq, zH, zI, zJ, zK, zL, encG_eq g, d1, d2, d3, d4, hp, List.length_map]; all_goals fail_if_success guard_target =ₛ False) | (with_reducible first | ((first | refine seqVC_stepN rfl ?_ | refine seqVC_stepG rfl (by with_unfolding_all rfl) ?_ | refine AWP.seq ?_ | refine AWP.seqR (by kernel_rfl) ?_ | refine parVC_stepN rfl ?_ | refine parVC_stepG rfl (by with_unfolding_all rfl) ?_ | refine parEVC_stepN rfl ?_ | refine parEVC_stepG rfl (by with_unfolding_all rfl) ?_ | refine genVC_stepN rfl ?_ | refine genVC_stepG rfl (by with_unfolding_all rfl) ?_); intro K hK) | ((first | refine hK _ _ _ ?_ | refine hK _ _ ?_ | refine hK _ ?_); clear hK K) | refine seqVC_nil ?_ | refine parVC_nil ?_ | refine parEVC_nil ?_ | refine genVC_nil ?_ | refine AWP.block ?_ | (refine AWP.cond (by with_unfolding_all rfl) ?_ ?_ <;> intro h <;> (try simp only [zM, zN] at h) <;> try exact absurd h (by decide)) | refine AWP.skip ?_ | refine AWP.ret ?_ | refine AWP.exit ?_ | (refine ⟨fun h => ?_, fun h => ?_⟩ <;> (try simp only [zM, zN] at h) <;> try simp only [h]) | refine ⟨_, hix, ?_⟩ | refine AWP.parR mixed (by kernel_rfl) fun K hK => ?_ | refine ⟨(by kernel_rfl : depB _ _ _ = true), ?_⟩ | refine Or.inl ?_) | (clear hK K))
      all_goals (first | exact fun _ h => (by cases h) | refine fin0 ?_)
      all_goals (simp only [atV, hp, d1, d2, d3, d4, zb, cond_true, cond_false]; rfl)
    · have e0 : decide ((0 : Int) ≤ (n : Int)) = true := by simp
      have e1 : decide ((n : Int) < (vs.length : Int)) = false := by simp; omega
      refine PCB.of_body Tryz.func33 rfl (by decide) Tryz.ntmps33 Tryz.results33 rfl rfl rfl ?_ rfl rfl
      repeat' (first | (with_reducible refine AWP.refer (id := 1) 4 (by with_unfolding_all rfl) (by with_unfolding_all rfl) (by with_unfolding_all rfl) (by simp only [go_sem, zA, zB, zC, zD, zE, zF, zG, reduceCtorEq, zH, zI, zJ, zK, zL, encG_eq g, d1, d2, d3, d4, hp, e0, e1, List.length_map]) (by simp only [go_sem, zA, zB, zC, zD, zE, zF, zG, reduceCtorEq, zH, zI, zJ, zK, zL, encG_eq g, d1, d2, d3, d4, hp, e0, e1, List.length_map]) ?_) | (with_reducible refine AWP.refer (id := 1) 5 (by with_unfolding_all rfl) (by with_unfolding_all rfl) (by with_unfolding_all rfl) (by simp only [go_sem, zA, zB, zC, zD, zE, zF, zG, reduceCtorEq, zH, zI, zJ, zK, zL, encG_eq g, d1, d2, d3, d4, hp, e0, e1, List.length_map]) (by simp only [go_sem, zA, zB, zC, zD, zE, zF, zG, reduceCtorEq, zH, zI, zJ, zK, zL, encG_eq g, d1, d2, d3, d4, hp, e0, e1, List.length_map]) ?_) | (with_reducible refine AWP.refer (id := 2) 7 (by with_unfolding_all rfl) (by with_unfolding_all rfl) (by with_unfolding_all rfl) (by simp only [go_sem, zA, zB, zC, zD, zE, zF, zG, reduceCtorEq, zH, zI, zJ, zK, zL, encG_eq g, d1, d2, d3, d4, hp, e0, e1, List.length_map]) (by simp only [go_sem, zA, zB, zC, zD, zE, zF, zG, reduceCtorEq, zH, zI, zJ, zK, zL, encG_eq g, d1, d2, d3, d4, hp, e0, e1, List.length_map]) ?_) | (simp only [go_sem, zA, zB, zC, zD, zE, zF, zG, reduceCtorEq, zH, zI, zJ, zK, zL, encG_eq g, d1, d2, d3, d4, hp, e0, e1, List.length_map]; all_goals fail_if_success guard_target =ₛ False) | (with_reducible first | ((first | refine seqVC_stepN rfl ?_ | refine seqVC_stepG rfl (by with_unfolding_all rfl) ?_ | refine AWP.seq ?_ | refine AWP.seqR (by kernel_rfl) ?_ | refine parVC_stepN rfl ?_ | refine parVC_stepG rfl (by with_unfolding_all rfl) ?_ | refine parEVC_stepN rfl ?_ | refine parEVC_stepG rfl (by with_unfolding_all rfl) ?_ | refine genVC_stepN rfl ?_ | refine genVC_stepG rfl (by with_unfolding_all rfl) ?_); intro K hK) | ((first | refine hK _ _ _ ?_ | refine hK _ _ ?_ | refine hK _ ?_); clear hK K) | refine seqVC_nil ?_ | refine parVC_nil ?_ | refine parEVC_nil ?_ | refine genVC_nil ?_ | refine AWP.block ?_ | (refine AWP.cond (by with_unfolding_all rfl) ?_ ?_ <;> intro h <;> (try simp only [zM, zN] at h) <;> try exact absurd h (by decide)) | refine AWP.skip ?_ | refine AWP.ret ?_ | refine AWP.exit ?_ | (refine ⟨fun h => ?_, fun h => ?_⟩ <;> (try simp only [zM, zN] at h) <;> try simp only [h]) | refine ⟨_, hix, ?_⟩ | refine AWP.parR mixed (by kernel_rfl) fun K hK => ?_ | refine ⟨(by kernel_rfl : depB _ _ _ = true), ?_⟩ | refine Or.inl ?_) | (clear hK K))
      all_goals (first | exact fun _ h => (by cases h) | refine fin0 ?_)
      all_goals (simp only [atV, hp, e0, e1, d1, d2, d3, d4, zb, cond_true, cond_false])
    · obtain ⟨v, hv, hv', e1, _⟩ := at_lt (enc := encVal) h2
      have e0 : decide ((0 : Int) ≤ (n : Int)) = true := by simp
      have hval := validate_c v (hvs v (List.mem_of_getElem? hv))
      have hts := tested_c g v ht
      rw [show Gt g = T.st (encG g) from rfl, encG_eq] at hts
      cases hz : treeB v <;> rw [hz] at hval
      iterate 2
        ·
          refine PCB.of_body Tryz.func33 rfl (by decide) Tryz.ntmps33 Tryz.results33 rfl rfl rfl ?_ rfl rfl
          repeat' (first | (with_reducible refine AWP.refer (id := 1) 4 (by with_unfolding_all rfl) (by with_unfolding_all rfl) (by with_unfolding_all rfl) (by simp only [go_sem, zA, zB, zC, zD, zE, zF, zG, reduceCtorEq, zH, zI, zJ, zK, zL, encG_eq g, d1, d2, d3, d4, hp, e0, e1, List.length_map]) (by simp only [go_sem, zA, zB, zC, zD, zE, zF, zG, reduceCtorEq, zH, zI, zJ, zK, zL, encG_eq g, d1, d2, d3, d4, hp, e0, e1, List.length_map]) ?_) | (with_reducible refine AWP.refer (id := 1) 5 (by with_unfolding_all rfl) (by with_unfolding_all rfl) (by with_unfolding_all rfl) (by simp only [go_sem, zA, zB, zC, zD, zE, zF, zG, reduceCtorEq, zH, zI, zJ, zK, zL, encG_eq g, d1, d2, d3, d4, hp, e0, e1, List.length_map]) (by simp only [go_sem, zA, zB, zC, zD, zE, zF, zG, reduceCtorEq, zH, zI, zJ, zK, zL, encG_eq g, d1, d2, d3, d4, hp, e0, e1, List.length_map]) ?_) | (with_reducible refine AWP.refer (id := 2) 7 (by with_unfolding_all rfl) (by with_unfolding_all rfl) (by with_unfolding_all rfl) (by simp only [go_sem, zA, zB, zC, zD, zE, zF, zG, reduceCtorEq, zH, zI, zJ, zK, zL, encG_eq g, d1, d2, d3, d4, hp, e0, e1, List.length_map]) (by simp only [go_sem, zA, zB, zC, zD, zE, zF, zG, reduceCtorEq, zH, zI, zJ, zK, zL, encG_eq g, d1, d2, d3, d4, hp, e0, e1, List.length_map]) ?_) | (simp only [go_sem, zA, zB, zC, zD, zE, zF, zG, reduceCtorEq, zH, zI, zJ, zK, zL, encG_eq g, d1, d2, d3, d4, hp, e0, e1, List.length_map]; all_goals fail_if_success guard_target =ₛ False) | (with_reducible first | ((first | refine seqVC_stepN rfl ?_ | refine seqVC_stepG rfl (by with_unfolding_all rfl) ?_ | refine AWP.seq ?_ | refine AWP.seqR (by kernel_rfl) ?_ | refine parVC_stepN rfl ?_ | refine parVC_stepG rfl (by with_unfolding_all rfl) ?_ | refine parEVC_stepN rfl ?_ | refine parEVC_stepG rfl (by with_unfolding_all rfl) ?_ | refine genVC_stepN rfl ?_ | refine genVC_stepG rfl (by with_unfolding_all rfl) ?_); intro K hK) | ((first | refine hK _ _ _ ?_ | refine hK _ _ ?_ | refine hK _ ?_); clear hK K) | refine seqVC_nil ?_ | refine parVC_nil ?_ | refine parEVC_nil ?_ | refine genVC_nil ?_ | refine AWP.block ?_ | (refine AWP.cond (by with_unfolding_all rfl) ?_ ?_ <;> intro h <;> (try simp only [zM, zN] at h) <;> try exact absurd h (by decide)) | refine AWP.skip ?_ | refine AWP.ret ?_ | refine AWP.exit ?_ | (refine ⟨fun h => ?_, fun h => ?_⟩ <;> (try simp only [zM, zN] at h) <;> try simp only [h]) | refine ⟨_, hix, ?_⟩ | refine ⟨_, hval, ?_⟩ | refine ⟨_, hts, ?_⟩ | refine ⟨by omega, encVal v, hv', ?_⟩ | refine AWP.parR mixed (by kernel_rfl) fun K hK => ?_ | refine ⟨(by kernel_rfl : depB _ _ _ = true), ?_⟩ | refine Or.inl ?_) | (clear hK K))
          all_goals (first | exact fun _ h => (by cases h) | refine fin0 ?_)
          all_goals (simp only [atV, hp, e0, e1, d1, d2, d3, d4, hz, hv, Int.toNat_natCast, zb, cond_true, cond_false])
termination_by cntG g
decreasing_by exact cnt_kid hk
end Go.Proofs.YteobojeemflggaaGreat
