/- A part of the proof: lemmas about the walk of the program and about plain integers and lists. No conditions beyond those that each lemma states. -/
import Derived.Test.YteobojeemflggaaGreatGv8
import Derived.Test.YteobojeemflggaaGreatGv9
import Derived.Test.YteobojeemflggaaGreatGv10
set_option linter.unusedSimpArgs false
set_option linter.unusedVariables false
set_option maxRecDepth 20000
set_option maxHeartbeats 16000000
namespace Go.Proofs.YteobojeemflggaaGreat
open Go Go.Sx
open Nat renaming reduceBEq → zA, reduceBNe → zB, reduceAdd → zC, reduceSub → zD, reduceMul → zE, reduceLeDiff → zF, reduceLT → zG, reduceEqDiff → zH
open Int renaming reduceToNat → zI, reduceLE → zJ, reduceLT → zK, reduceEq → zL
open Bool renaming not_eq_true' → zM, not_eq_false' → zN
mutual
def treeG : Grd → Bool
  | ⟨kind, name, num, text, key, kids⟩ => vG ⟨kind, name, num, text, key, kids⟩ && treeGs kids
def treeGs : List Grd → Bool
  | [] => true
  | g :: l => treeG g && treeGs l
end
theorem treeGs_all : ∀ l : List Grd, treeGs l = l.all treeG
  | [] => by simp only [treeGs, List.all_nil]
  | g :: l => by simp only [treeGs, List.all_cons, treeGs_all l]
theorem treeG_eq (g : Grd) : treeG g = (vG g && g.kids.all treeG) := by cases g; simp only [treeG, treeGs_all]
theorem all_take {α : Type} {p : α → Bool} {l : List α} {k : Nat} {x : α} (hx : l[k]? = some x) : (l.take (k + 1)).all p = ((l.take k).all p && p x) := by
  rw [List.take_add_one, hx, List.all_append]; simp
theorem any_not {α : Type} (p : α → Bool) (l : List α) : (!l.any fun x => !p x) = l.all p := by
  induction l with
  | nil => rfl
  | cons x l ih => rw [List.any_cons, List.all_cons, ← ih]; cases p x <;> simp
theorem validTreeG_c (g : Grd) : PC Tryz.prog 54 [Gt g] (Bo (treeG g)) := by
  have ih : ∀ k ∈ g.kids, PC Tryz.prog 54 [Gt k] (Bo (treeG k)) := fun k hk => validTreeG_c k
  have ih1 : ∀ k ∈ g.kids, PC Tryz.prog 92 [Gt k] (Bo (!treeG k)) := fun k hk => by
    have h := ih k hk
    refine PCB.of_body Tryz.func92 rfl (by decide) Tryz.ntmps92 Tryz.results92 rfl rfl rfl ?_ rfl rfl
    repeat' (first | (simp only [go_sem, zA, zB, zC, zD, zE, zF, zG, reduceCtorEq, zH, zI, zJ, zK, zL]; all_goals fail_if_success guard_target =ₛ False) | (with_reducible first | ((first | refine seqVC_stepN rfl ?_ | refine AWP.seq ?_ | refine AWP.seqR (by kernel_rfl) ?_); intro K hK) | ((first | refine hK _ _ _ ?_ | refine hK _ _ ?_ | refine hK _ ?_); clear hK K) | refine seqVC_nil ?_ | refine AWP.block ?_ | (refine AWP.cond (by with_unfolding_all rfl) ?_ ?_ <;> intro h <;> (try simp only [zM, zN] at h) <;> try exact absurd h (by decide)) | refine AWP.skip ?_ | refine AWP.ret ?_ | refine AWP.exit ?_ | refine ⟨_, h, ?_⟩ | refine Or.inl ?_) | (clear hK K))
    all_goals (first | exact fun _ h => (by cases h) | (refine fin0 ?_; first | rfl | (simp only [zb, cond_true, cond_false, decide_true, decide_false] <;> rfl)))
  have hc := containsG0 92 (fun k => !treeG k) g.kids ih1
  have hv : PC Tryz.prog 91 [.st (encG g)] (Bo (vG g)) := validGuard_c g
  have ha := any_not treeG g.kids
  rw [encG_eq] at hv
  rw [treeG_eq]
  refine PCB.of_body Tryz.func54 rfl (by decide) Tryz.ntmps54 Tryz.results54 rfl rfl rfl ?_ rfl rfl
  cases hz : vG g
  all_goals
    repeat' (first | (simp only [go_sem, zA, zB, zC, zD, zE, zF, zG, reduceCtorEq, zH, zI, zJ, zK, zL, encG_eq g, hz]; all_goals fail_if_success guard_target =ₛ False) | (with_reducible first | ((first | refine seqVC_stepN rfl ?_ | refine seqVC_stepG rfl (by with_unfolding_all rfl) ?_ | refine AWP.seq ?_ | refine AWP.seqR (by kernel_rfl) ?_); intro K hK) | ((first | refine hK _ _ _ ?_ | refine hK _ _ ?_ | refine hK _ ?_); clear hK K) | refine seqVC_nil ?_ | refine AWP.block ?_ | (refine AWP.cond (by with_unfolding_all rfl) ?_ ?_ <;> intro h <;> (try simp only [zM, zN] at h) <;> try exact absurd h (by decide)) | refine AWP.skip ?_ | refine AWP.ret ?_ | refine AWP.exit ?_ | (refine ⟨fun h => ?_, fun h => ?_⟩ <;> (try simp only [zM, zN] at h) <;> try simp only [h]) | refine ⟨_, hv, ?_⟩ | refine ⟨_, hc, ?_⟩ | refine Or.inl ?_) | (clear hK K))
  all_goals (first | exact fun _ h => (by cases h) | refine fin0 ?_)
  all_goals (first | rfl | (rw [ha]; done) | (rw [ha]; rfl))
termination_by cntG g
decreasing_by exact cnt_kid hk
end Go.Proofs.YteobojeemflggaaGreat





set_option linter.unusedSimpArgs false
set_option linter.unusedVariables false
set_option maxRecDepth 20000
set_option maxHeartbeats 16000000
namespace Go.Proofs.YteobojeemflggaaGreat
open Go Go.Sx
open Nat renaming reduceBEq → zA, reduceBNe → zB, reduceAdd → zC, reduceSub → zD, reduceMul → zE, reduceLeDiff → zF, reduceLT → zG, reduceEqDiff → zH
open Int renaming reduceToNat → zI, reduceLE → zJ, reduceLT → zK, reduceEq → zL
open Bool renaming not_eq_true' → zM, not_eq_false' → zN
def sameK (x y : KeyD) : Bool := decide (x.kind = y.kind) && (decide (x.text = y.text) && true)
@[go_sem] theorem eqKeyE (x y : KeyD) : eqStT Tryz.prog 6 33 (encKey x) (encKey y) = some (sameK x y) := by kernel_rfl
theorem indexStr_c (l : List (List UInt8)) (s : List UInt8) : PC Tryz.prog 64 [.one (.dat (.sl 1 (l.map encStr))), S s] (I .i64 (findI (fun x => decide (s = x)) 0 l)) := by
  refine PCB.of_body Tryz.func64 rfl (by decide) Tryz.ntmps64 Tryz.results64 rfl rfl rfl ?_ rfl rfl
  repeat' (first | (simp only [go_sem, zA, zB, zC, zD, zE, zF, zG, reduceCtorEq, zH, zI, zJ, zK, zL, List.length_map]; all_goals fail_if_success guard_target =ₛ False) | (with_reducible first | ((first | refine seqVC_stepN rfl ?_ | refine AWP.seq ?_ | refine AWP.seqR (by kernel_rfl) ?_); intro K hK) | ((first | refine hK _ _ _ ?_ | refine hK _ _ ?_ | refine hK _ ?_); clear hK K) | refine seqVC_nil ?_ | refine AWP.block ?_ | (refine AWP.cond (by with_unfolding_all rfl) ?_ ?_ <;> intro h <;> (try simp only [zM, zN] at h) <;> try exact absurd h (by decide)) | refine AWP.skip ?_ | refine AWP.ret ?_ | refine AWP.exit ?_ | refine Or.inl ?_) | (clear hK K))
  refine AWP.len 0 rfl fun hlen0 => ?_
  (try rw [List.length_map] at hlen0)
  refine AWP.range (S := Unit) (l) encStr (fun k s => (8, I .i64 (k : Nat)) :: []) (fun k s => []) [0, 1, 7] [] (fun k u => findI (fun x => decide (s = x)) 0 l = findI (fun x => decide (s = x)) k (l.drop k)) (()) (by simp only [go_sem, zA, zB, zC, zD, zE, zF, zG, reduceCtorEq, zH, zI, zJ, zK, zL]; exact Gh.to [] (by repeat (first | exact trivial | refine ⟨rfl, ?_⟩ | refine ⟨by (simp only [go_sem, zA, zB, zC, zD, zE, zF, zG, reduceCtorEq, zH, zI, zJ, zK, zL, List.length_append, List.length_map, List.length_cons, List.length_nil, Nat.zero_add]) <;> rfl, ?_⟩)) (by repeat (first | exact trivial | refine ⟨rfl, ?_⟩ | refine ⟨by (simp only [go_sem, zA, zB, zC, zD, zE, zF, zG, reduceCtorEq, zH, zI, zJ, zK, zL, List.length_append, List.length_map, List.length_cons, List.length_nil, Nat.zero_add]) <;> rfl, ?_⟩)) rfl rfl rfl) ?_ ?_ ?_
  · rfl
  · intro k u x hlt hx hx' hb hok
    simp only [go_sem, zA, zB, zC, zD, zE, zF, zG, reduceCtorEq, zH, zI, zJ, zK, zL]
    rw [findI_drop _ l k x hx] at hok
    cases hz : decide (s = x) <;> simp only [hz, cond_true, cond_false] at hok
    ·
      repeat' (first | (simp only [go_sem, zA, zB, zC, zD, zE, zF, zG, reduceCtorEq, zH, zI, zJ, zK, zL, List.length_map, encStr, hb, hz]; all_goals fail_if_success guard_target =ₛ False) | (with_reducible first | ((first | refine seqVC_stepN rfl ?_ | refine AWP.seq ?_ | refine AWP.seqR (by kernel_rfl) ?_); intro K hK) | ((first | refine hK _ _ _ ?_ | refine hK _ _ ?_ | refine hK _ ?_); clear hK K) | refine seqVC_nil ?_ | refine AWP.block ?_ | (refine AWP.cond (by with_unfolding_all rfl) ?_ ?_ <;> intro h <;> (try simp only [zM, zN] at h) <;> try exact absurd h (by decide)) | refine AWP.skip ?_ | refine AWP.ret ?_ | refine AWP.exit ?_ | refine ⟨by omega, encStr x, hx', ?_⟩ | refine Or.inl ?_) | (clear hK K))
      all_goals (rw [wrap_succ hlt hlen0])
      all_goals (refine ⟨(), ?_, Gh.to [] (by repeat (first | exact trivial | refine ⟨rfl, ?_⟩ | refine ⟨by (simp only [go_sem, zA, zB, zC, zD, zE, zF, zG, reduceCtorEq, zH, zI, zJ, zK, zL, List.length_append, List.length_map, List.length_cons, List.length_nil, Nat.zero_add]) <;> rfl, ?_⟩)) (by repeat (first | exact trivial | refine ⟨rfl, ?_⟩ | refine ⟨by (simp only [go_sem, zA, zB, zC, zD, zE, zF, zG, reduceCtorEq, zH, zI, zJ, zK, zL, List.length_append, List.length_map, List.length_cons, List.length_nil, Nat.zero_add]) <;> rfl, ?_⟩)) rfl rfl rfl⟩)
      all_goals exact hok
    ·
      repeat' (first | (simp only [go_sem, zA, zB, zC, zD, zE, zF, zG, reduceCtorEq, zH, zI, zJ, zK, zL, List.length_map, encStr, hb, hz]; all_goals fail_if_success guard_target =ₛ False) | (with_reducible first | ((first | refine seqVC_stepN rfl ?_ | refine AWP.seq ?_ | refine AWP.seqR (by kernel_rfl) ?_); intro K hK) | ((first | refine hK _ _ _ ?_ | refine hK _ _ ?_ | refine hK _ ?_); clear hK K) | refine seqVC_nil ?_ | refine AWP.block ?_ | (refine AWP.cond (by with_unfolding_all rfl) ?_ ?_ <;> intro h <;> (try simp only [zM, zN] at h) <;> try exact absurd h (by decide)) | refine AWP.skip ?_ | refine AWP.ret ?_ | refine AWP.exit ?_ | refine ⟨by omega, encStr x, hx', ?_⟩ | refine Or.inl ?_) | (clear hK K))
      all_goals (first | exact fun _ h => (by cases h) | (refine fin0 ?_; first | rfl | (simp only [hok, zb, cond_true, cond_false, decide_true, decide_false] <;> rfl)))
  intro s0 hb0 hok0
  simp only [go_sem, zA, zB, zC, zD, zE, zF, zG, reduceCtorEq, zH, zI, zJ, zK, zL]
  rw [List.drop_length] at hok0
  repeat' (first | (simp only [go_sem, zA, zB, zC, zD, zE, zF, zG, reduceCtorEq, zH, zI, zJ, zK, zL, List.length_map, hb0]; all_goals fail_if_success guard_target =ₛ False) | (with_reducible first | ((first | refine seqVC_stepN rfl ?_ | refine AWP.seq ?_ | refine AWP.seqR (by kernel_rfl) ?_); intro K hK) | ((first | refine hK _ _ _ ?_ | refine hK _ _ ?_ | refine hK _ ?_); clear hK K) | refine seqVC_nil ?_ | refine AWP.block ?_ | (refine AWP.cond (by with_unfolding_all rfl) ?_ ?_ <;> intro h <;> (try simp only [zM, zN] at h) <;> try exact absurd h (by decide)) | refine AWP.skip ?_ | refine AWP.ret ?_ | refine AWP.exit ?_ | refine Or.inl ?_) | (clear hK K))
  all_goals (refine fin0 ?_; rw [hok0]; rfl)
theorem indexKey_c (l : List KeyD) (s : KeyD) : PC Tryz.prog 123 [.one (.dat (.sl 2 (l.map encKey))), .st (encKey s)] (I .i64 (findI (fun x => sameK s x) 0 l)) := by
  refine PCB.of_body Tryz.func123 rfl (by decide) Tryz.ntmps123 Tryz.results123 rfl rfl rfl ?_ rfl rfl
  repeat' (first | (simp only [go_sem, zA, zB, zC, zD, zE, zF, zG, reduceCtorEq, zH, zI, zJ, zK, zL, List.length_map]; all_goals fail_if_success guard_target =ₛ False) | (with_reducible first | ((first | refine seqVC_stepN rfl ?_ | refine AWP.seq ?_ | refine AWP.seqR (by kernel_rfl) ?_ | refine parVC_stepN rfl ?_ | refine parEVC_stepN rfl ?_ | refine genVC_stepN rfl ?_); intro K hK) | ((first | refine hK _ _ _ ?_ | refine hK _ _ ?_ | refine hK _ ?_); clear hK K) | refine seqVC_nil ?_ | refine parVC_nil ?_ | refine parEVC_nil ?_ | refine genVC_nil ?_ | refine AWP.block ?_ | (refine AWP.cond (by with_unfolding_all rfl) ?_ ?_ <;> intro h <;> (try simp only [zM, zN] at h) <;> try exact absurd h (by decide)) | refine AWP.skip ?_ | refine AWP.ret ?_ | refine AWP.exit ?_ | refine AWP.parR mixed (by kernel_rfl) fun K hK => ?_ | refine ⟨(by kernel_rfl : depB _ _ _ = true), ?_⟩ | refine Or.inl ?_) | (clear hK K))
  refine AWP.len 0 rfl fun hlen0 => ?_
  (try rw [List.length_map] at hlen0)
  refine AWP.range (S := Unit) (l) encKey (fun k s => (8, I .i64 (k : Nat)) :: []) (fun k s => []) [0, 3, 7] [3] (fun k u => findI (fun x => sameK s x) 0 l = findI (fun x => sameK s x) k (l.drop k)) (()) (by simp only [go_sem, zA, zB, zC, zD, zE, zF, zG, reduceCtorEq, zH, zI, zJ, zK, zL]; exact Gh.to [] (by repeat (first | exact trivial | refine ⟨rfl, ?_⟩ | refine ⟨by (simp only [go_sem, zA, zB, zC, zD, zE, zF, zG, reduceCtorEq, zH, zI, zJ, zK, zL, List.length_append, List.length_map, List.length_cons, List.length_nil, Nat.zero_add]) <;> rfl, ?_⟩)) (by repeat (first | exact trivial | refine ⟨rfl, ?_⟩ | refine ⟨by (simp only [go_sem, zA, zB, zC, zD, zE, zF, zG, reduceCtorEq, zH, zI, zJ, zK, zL, List.length_append, List.length_map, List.length_cons, List.length_nil, Nat.zero_add]) <;> rfl, ?_⟩)) rfl rfl rfl) ?_ ?_ ?_
  · rfl
  · intro k u x hlt hx hx' hb hok
    simp only [go_sem, zA, zB, zC, zD, zE, zF, zG, reduceCtorEq, zH, zI, zJ, zK, zL]
    rw [findI_drop _ l k x hx] at hok
    cases hz : sameK s x <;> simp only [hz, cond_true, cond_false] at hok
    ·
      repeat' (first | (simp only [go_sem, zA, zB, zC, zD, zE, zF, zG, reduceCtorEq, zH, zI, zJ, zK, zL, List.length_map, hb, hz]; all_goals fail_if_success guard_target =ₛ False) | (with_reducible first | ((first | refine seqVC_stepN rfl ?_ | refine AWP.seq ?_ | refine AWP.seqR (by kernel_rfl) ?_ | refine parVC_stepN rfl ?_ | refine parEVC_stepN rfl ?_ | refine genVC_stepN rfl ?_); intro K hK) | ((first | refine hK _ _ _ ?_ | refine hK _ _ ?_ | refine hK _ ?_); clear hK K) | refine seqVC_nil ?_ | refine parVC_nil ?_ | refine parEVC_nil ?_ | refine genVC_nil ?_ | refine AWP.block ?_ | (refine AWP.cond (by with_unfolding_all rfl) ?_ ?_ <;> intro h <;> (try simp only [zM, zN] at h) <;> try exact absurd h (by decide)) | refine AWP.skip ?_ | refine AWP.ret ?_ | refine AWP.exit ?_ | refine ⟨by omega, encKey x, hx', ?_⟩ | refine AWP.parR mixed (by kernel_rfl) fun K hK => ?_ | refine ⟨(by kernel_rfl : depB _ _ _ = true), ?_⟩ | refine Or.inl ?_) | (clear hK K))
      all_goals (rw [wrap_succ hlt hlen0])
      all_goals (refine ⟨(), ?_, Gh.to [] (by repeat (first | exact trivial | refine ⟨rfl, ?_⟩ | refine ⟨by (simp only [go_sem, zA, zB, zC, zD, zE, zF, zG, reduceCtorEq, zH, zI, zJ, zK, zL, List.length_append, List.length_map, List.length_cons, List.length_nil, Nat.zero_add]) <;> rfl, ?_⟩)) (by repeat (first | exact trivial | refine ⟨rfl, ?_⟩ | refine ⟨by (simp only [go_sem, zA, zB, zC, zD, zE, zF, zG, reduceCtorEq, zH, zI, zJ, zK, zL, List.length_append, List.length_map, List.length_cons, List.length_nil, Nat.zero_add]) <;> rfl, ?_⟩)) rfl rfl rfl⟩)
      all_goals exact hok
    ·
      repeat' (first | (simp only [go_sem, zA, zB, zC, zD, zE, zF, zG, reduceCtorEq, zH, zI, zJ, zK, zL, List.length_map, hb, hz]; all_goals fail_if_success guard_target =ₛ False) | (with_reducible first | ((first | refine seqVC_stepN rfl ?_ | refine AWP.seq ?_ | refine AWP.seqR (by kernel_rfl) ?_ | refine parVC_stepN rfl ?_ | refine parEVC_stepN rfl ?_ | refine genVC_stepN rfl ?_); intro K hK) | ((first | refine hK _ _ _ ?_ | refine hK _ _ ?_ | refine hK _ ?_); clear hK K) | refine seqVC_nil ?_ | refine parVC_nil ?_ | refine parEVC_nil ?_ | refine genVC_nil ?_ | refine AWP.block ?_ | (refine AWP.cond (by with_unfolding_all rfl) ?_ ?_ <;> intro h <;> (try simp only [zM, zN] at h) <;> try exact absurd h (by decide)) | refine AWP.skip ?_ | refine AWP.ret ?_ | refine AWP.exit ?_ | refine ⟨by omega, encKey x, hx', ?_⟩ | refine AWP.parR mixed (by kernel_rfl) fun K hK => ?_ | refine ⟨(by kernel_rfl : depB _ _ _ = true), ?_⟩ | refine Or.inl ?_) | (clear hK K))
      all_goals (first | exact fun _ h => (by cases h) | (refine fin0 ?_; first | rfl | (simp only [hok, zb, cond_true, cond_false, decide_true, decide_false] <;> rfl)))
  intro s0 hb0 hok0
  simp only [go_sem, zA, zB, zC, zD, zE, zF, zG, reduceCtorEq, zH, zI, zJ, zK, zL]
  rw [List.drop_length] at hok0
  repeat' (first | (simp only [go_sem, zA, zB, zC, zD, zE, zF, zG, reduceCtorEq, zH, zI, zJ, zK, zL, List.length_map, hb0]; all_goals fail_if_success guard_target =ₛ False) | (with_reducible first | ((first | refine seqVC_stepN rfl ?_ | refine AWP.seq ?_ | refine AWP.seqR (by kernel_rfl) ?_ | refine parVC_stepN rfl ?_ | refine parEVC_stepN rfl ?_ | refine genVC_stepN rfl ?_); intro K hK) | ((first | refine hK _ _ _ ?_ | refine hK _ _ ?_ | refine hK _ ?_); clear hK K) | refine seqVC_nil ?_ | refine parVC_nil ?_ | refine parEVC_nil ?_ | refine genVC_nil ?_ | refine AWP.block ?_ | (refine AWP.cond (by with_unfolding_all rfl) ?_ ?_ <;> intro h <;> (try simp only [zM, zN] at h) <;> try exact absurd h (by decide)) | refine AWP.skip ?_ | refine AWP.ret ?_ | refine AWP.exit ?_ | refine AWP.parR mixed (by kernel_rfl) fun K hK => ?_ | refine ⟨(by kernel_rfl : depB _ _ _ = true), ?_⟩ | refine Or.inl ?_) | (clear hK K))
  all_goals (refine fin0 ?_; rw [hok0]; rfl)
theorem find_any {α : Type} (p : α → Bool) (l : List α) : decide (0 ≤ findI p 0 l) = l.any p := by rw [← Bool.coe_iff_coe]; simpa using findI_any p l 0
theorem containsKey_c (l : List KeyD) (s : KeyD) : PC Tryz.prog 98 [.one (.dat (.sl 2 (l.map encKey))), .st (encKey s)] (Bo (l.any fun x => sameK s x)) := by
  have h := indexKey_c l s
  refine PCB.of_body Tryz.func98 rfl (by decide) Tryz.ntmps98 Tryz.results98 rfl rfl rfl ?_ rfl rfl
  repeat' (first | (simp only [go_sem, zA, zB, zC, zD, zE, zF, zG, reduceCtorEq, zH, zI, zJ, zK, zL]; all_goals fail_if_success guard_target =ₛ False) | (with_reducible first | ((first | refine seqVC_stepN rfl ?_ | refine AWP.seq ?_ | refine AWP.seqR (by kernel_rfl) ?_); intro K hK) | ((first | refine hK _ _ _ ?_ | refine hK _ _ ?_ | refine hK _ ?_); clear hK K) | refine seqVC_nil ?_ | refine AWP.block ?_ | (refine AWP.cond (by with_unfolding_all rfl) ?_ ?_ <;> intro h <;> (try simp only [zM, zN] at h) <;> try exact absurd h (by decide)) | refine AWP.skip ?_ | refine AWP.ret ?_ | refine AWP.exit ?_ | refine ⟨_, h, ?_⟩ | refine Or.inl ?_) | (clear hK K))
  all_goals (refine fin0 ?_; rw [find_any])
theorem containsKey_e (l : List KeyD) (s : KeyD) : PC Tryz.prog 98 [.one (.dat (.sl 2 (l.map encKey))), .st [.int .i64 s.kind, .str s.text]] (Bo (l.any fun x => sameK s x)) := containsKey_c l s
/-- the test of a valid value -/
def testV (g : Grd) (v : Val) : Bool :=
  bif decide (g.kind = 5) then decide (v.kind = 1) else
  bif decide (g.kind = 6) then decide (v.kind = 2) else
  bif decide (g.kind = 7) then decide (v.kind = 3) else
  bif decide (g.kind = 8) then decide (v.kind = 4) else
  bif decide (g.kind = 9) then decide (v.kind = 5) || decide (v.kind = 7) else
  bif decide (g.kind = 10) then decide (v.kind = 6) && decide ((v.kids.length : Int) = g.num) else
  bif decide (g.kind = 11) then decide (v.kind = 8) else
  bif decide (g.kind = 12) then decide (v.kind = 9) && decide (v.num = g.num) else
  bif decide (g.kind = 13) then decide (v.kind = 1) && decide (v.num = g.num) else
  bif decide (g.kind = 14) then decide (v.kind = 2) && decide (v.text = g.text) else
  bif decide (g.kind = 15) then decide (v.kind = 3) && decide (v.text = g.text) else
  bif decide (g.kind = 16) then decide (v.kind = 1) && decide (v.num < g.num) else
  decide (v.kind = 8) && v.keys.any fun x => sameK g.key x
theorem testKinds {k : Int} (h : testG k = true) : k = 5 ∨ k = 6 ∨ k = 7 ∨ k = 8 ∨ k = 9 ∨ k = 10 ∨ k = 11 ∨ k = 12 ∨ k = 13 ∨ k = 14 ∨ k = 15 ∨ k = 16 ∨ k = 17 := by
  unfold testG at h; simp only [Bool.and_eq_true, decide_eq_true_eq] at h; omega
theorem tested_c (g : Grd) (v : Val) (ht : testG g.kind = true) : PC Tryz.prog 66 [Gt g, .st (encVal v)] (Bo (testV g v)) := by
  rcases testKinds ht with hk | hk | hk | hk | hk | hk | hk | hk | hk | hk | hk | hk | hk
  iterate 13
    ·
      refine PCB.of_body Tryz.func66 rfl (by decide) Tryz.ntmps66 Tryz.results66 rfl rfl rfl ?_ rfl rfl
      repeat' (first | (simp only [go_sem, zA, zB, zC, zD, zE, zF, zG, reduceCtorEq, zH, zI, zJ, zK, zL, encG_eq g, encVal_eq v, hk, Int.reduceEq, List.length_map]; all_goals fail_if_success guard_target =ₛ False) | (with_reducible first | ((first | refine seqVC_stepN rfl ?_ | refine seqVC_stepG rfl (by with_unfolding_all rfl) ?_ | refine AWP.seq ?_ | refine AWP.seqR (by kernel_rfl) ?_); intro K hK) | ((first | refine hK _ _ _ ?_ | refine hK _ _ ?_ | refine hK _ ?_); clear hK K) | refine seqVC_nil ?_ | refine AWP.block ?_ | (refine AWP.cond (by with_unfolding_all rfl) ?_ ?_ <;> intro h <;> (try simp only [zM, zN] at h) <;> try exact absurd h (by decide)) | refine AWP.skip ?_ | refine AWP.ret ?_ | refine AWP.exit ?_ | (refine ⟨fun h => ?_, fun h => ?_⟩ <;> (try simp only [zM, zN] at h) <;> try simp only [h]) | refine ⟨_, containsKey_e _ _, ?_⟩ | refine Or.inl ?_) | (clear hK K))
      all_goals (first | exact fun _ h => (by cases h) | (refine fin0 ?_; first | rfl | (simp only [testV, hk, Int.reduceEq, *, zb, cond_true, cond_false, decide_true, decide_false] <;> rfl)))
end Go.Proofs.YteobojeemflggaaGreat
