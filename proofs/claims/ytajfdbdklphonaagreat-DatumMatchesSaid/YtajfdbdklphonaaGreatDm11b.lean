/- Lemmas; conditions: as each states. -/
import Derived.Test.YtajfdbdklphonaaGreatDm11ap
import Derived.Test.YtajfdbdklphonaaGreatDm11aq
import Derived.Test.YtajfdbdklphonaaGreatDm11a
open Go.Proofs.Tryz renaming prog → zP
open List renaming length_append → lA, length_map → lB, length_cons → lC, length_nil → lD, map_cons → lE, take_length → lK, take_add_one → lO, mem_of_getElem? → lP, length_take → lQ
open Go.Sx.AWP renaming range → xC, gh → xD, lenB → xE, len → xF
open Go.Sx.Gh renaming nilrow → xI
open Nat renaming reduceBEq → D, reduceBNe → E, reduceAdd → H, reduceSub → J, reduceMul → N, reduceLeDiff → O, reduceLT → U, reduceEqDiff → V
open Int renaming reduceToNat → W, reduceLE → Y, reduceLT → Z, reduceEq → zL
open Bool renaming not_eq_true' → zM, not_eq_false' → zN
set_option linter.unusedVariables false
set_option linter.unusedSimpArgs false
set_option maxRecDepth 20000
set_option maxHeartbeats 4000000
namespace Go.Proofs.YtajfdbdklphonaaGreat
open Go Go.Sx
theorem node_456 (v : Val) (hk : v.kind = 4 ∨ v.kind = 5 ∨ v.kind = 6) : PC zP 125 [.st (encVal v)] (Bo (nodeB v)) := by
 rcases hk with hk | hk | hk
 iterate 3
  ·
   have hlab : labelsB v.labels = goB Lib.compareBytes isVarB none v.labels := by rw [goB_none]; rfl
   refine PCB.ob Tryz.func125 Tryz.ntmps125 Tryz.results125 ?_
   repeat' (first | (simp only [go_sem, D, E, H, J, N, O, U, reduceCtorEq, V, W, Y, Z, zL, encVal_eq, hk] <;> refine nf ?_) | (refine stp ?_; intro K hK) | (apply hK; clear hK K) | refine stn ?_ | fail)
   refine xE 1 6 rfl rfl fun hlen0 => ?_
   (try rw [lB] at hlen0)
   refine xC (S := Unit) (v.labels) encStr (fun k s => (3, I .i64 (k : Nat)) :: []) (fun k s => []) [1] [1] (fun k s => goB Lib.compareBytes isVarB none v.labels = goB Lib.compareBytes isVarB (prevAt v.labels k) (v.labels.drop k)) (()) (by simp only [go_sem, D, E, H, J, N, O, U, reduceCtorEq, V, W, Y, Z, zL, encVal_eq]; exact Gh.ts []) ?_ ?_ ?_
   ·rfl
   ·intro k s x hlt hx hx' hb hok
    refine st ?_
    rcases Nat.eq_zero_or_eq_succ_pred k with hk0 | hk0
    ·rw [goB_zero hk0 hx] at hok
     have hp0 : decide ((0 : Int) < (k : Int)) = false := by rw [hk0]; rfl
     cases hz : isVarB x <;> simp only [hz, Bool.true_and, Bool.false_and] at hok
     ·
      repeat' (first | (simp only [go_sem, D, E, H, J, N, O, U, reduceCtorEq, V, W, Y, Z, zL, encVal_eq, encStr, hk, lB, hb, hz, hp0] <;> refine nf ?_) | (refine stp ?_; intro K hK) | (apply hK; clear hK K) | refine stn ?_ | (with_reducible first | refine ⟨_, refIsVariable_c x, ?_⟩ | refine ⟨by omega, encStr x, hx', ?_⟩) | (refine stp' ?_; intro K hK) | (clear hK K))
      all_goals (first | exact lf | (refine fin0 ?_; simp only [nodeB, hlab, hok, zb, cT, cF, dT, dF] <;> rfl))
     ·
      repeat' (first | (simp only [go_sem, D, E, H, J, N, O, U, reduceCtorEq, V, W, Y, Z, zL, encVal_eq, encStr, hk, lB, hb, hz, hp0] <;> refine nf ?_) | (refine stp ?_; intro K hK) | (apply hK; clear hK K) | refine stn ?_ | (with_reducible first | refine ⟨_, refIsVariable_c x, ?_⟩ | refine ⟨by omega, encStr x, hx', ?_⟩) | (refine stp' ?_; intro K hK) | (clear hK K))
      all_goals (rw [wrap_succ hlt hlen0])
      all_goals (refine ⟨(), ?_, Gh.ts []⟩)
      all_goals exact hok
    ·obtain ⟨j, rfl⟩ : ∃ j, k = j + 1 := ⟨_, hk0⟩
     obtain ⟨y, hy, hy', _, _⟩ := at_lt (enc := encStr) (show j < v.labels.length by omega)
     rw [goB_succ hy hx] at hok
     have hw : IntKind.i64.wrap (((j + 1 : Nat) : Int) - 1) = (j : Int) := by rw [w64 (by omega)]; omega
     have hp0 : decide ((0 : Int) < ((j + 1 : Nat) : Int)) = true := by simp only [decide_eq_true_eq]; omega
     cases hz : isVarB x <;> cases hc : decide (Lib.compareBytes y x < 0) <;> simp only [hz, hc, Bool.true_and, Bool.false_and] at hok
     all_goals
      have hcg : decide (0 ≤ Lib.compareBytes y x) = !decide (Lib.compareBytes y x < 0) := by rw [← Bool.coe_iff_coe]; simp
      rw [hc] at hcg
     all_goals (have hl := less_dec y x; rw [hc] at hl)
     all_goals
      repeat' (first | (simp only [go_sem, D, E, H, J, N, O, U, reduceCtorEq, V, W, Y, Z, zL, encVal_eq, encStr, hk, lB, hb, hz, hp0, hw, hcg, hl] <;> refine nf ?_) | (refine stp ?_; intro K hK) | (apply hK; clear hK K) | refine stn ?_ | (with_reducible first | refine ⟨_, refIsVariable_c x, ?_⟩ | refine ⟨by omega, encStr x, hx', ?_⟩ | refine ⟨by omega, encStr y, hy', ?_⟩) | (refine stp' ?_; intro K hK) | (clear hK K))
     any_goals (first | exact nn | (refine fin0 ?_; first | (simp only [nodeB, hlab, hok, Bool.and_true, Bool.and_false, Bool.true_and, Bool.false_and, Bool.or_true, Bool.or_false, Bool.true_or, Bool.false_or, Bool.not_true, Bool.not_false, cT, cF, dT, dF]; done) | (simp only [nodeB, hlab, hok, Bool.and_true, Bool.and_false, Bool.true_and, Bool.false_and, Bool.or_true, Bool.or_false, Bool.true_or, Bool.false_or, Bool.not_true, Bool.not_false, cT, cF, dT, dF]; rfl)))
     all_goals (rw [wrap_succ hlt hlen0])
     all_goals (refine ⟨(), ?_, Gh.ts []⟩)
     all_goals exact hok
   intro s0 hb0 hok0
   refine st ?_
   rw [goB_end] at hok0
   rw [hok0] at hlab
   repeat' (first | (simp only [go_sem, D, E, H, J, N, O, U, reduceCtorEq, V, W, Y, Z, zL, encVal_eq, hk, hb0, lB] <;> refine nf ?_) | (refine stp ?_; intro K hK) | (apply hK; clear hK K) | refine stn ?_ | (refine AWP.cnd ?_ ?_ <;> intro h <;> (try simp only [zM, zN] at h)) | (refine ⟨fun h => ?_, fun h => ?_⟩ <;> (try simp only [zM, zN] at h) <;> try simp only [h]) | (clear hK K))
   all_goals (first | exact lf | (refine fin0 ?_; simp only [nodeB, badFields, bodyB, kNum, kText, kKids, kKeys, kEnts, kKnown, hk, Int.reduceEq, Int.reduceLE, hlab, *, zb, cT, cF, dT, dF] <;> rfl))
theorem node_4 (v : Val) (hk : v.kind = 4) : PC zP 125 [.st (encVal v)] (Bo (nodeB v)) := node_456 v (.inl hk)
theorem node_5 (v : Val) (hk : v.kind = 5) : PC zP 125 [.st (encVal v)] (Bo (nodeB v)) := node_456 v (.inr (.inl hk))
theorem node_6 (v : Val) (hk : v.kind = 6) : PC zP 125 [.st (encVal v)] (Bo (nodeB v)) := node_456 v (.inr (.inr hk))
theorem node_c (v : Val) : PC zP 125 [.st (encVal v)] (Bo (nodeB v)) := by
 rcases kinds v.kind with h | h | h | h | h | h | h | h | h | h
 ·exact node_1 v h
 ·exact node_2 v h
 ·exact node_3 v h
 ·exact node_4 v h
 ·exact node_5 v h
 ·exact node_6 v h
 ·exact node_7 v h
 ·exact node_8 v h
 ·exact node_9 v h
 ·exact node_0 v h
theorem bulk_kid {v p : Val} (h : p ∈ v.kids) : bulkV p < bulkV v := bulk_part (List.mem_append_left _ h)
theorem bulk_arg {v p : Val} {e : List Val × Bool × Val} (he : e ∈ v.ents) (h : p ∈ e.1) : bulkV p < bulkV v := by
 have h1 := bulkV_eq v; have h2 := bulkEs_mem he; have h3 := bulkE_eq e; have h4 := bulkVs_mem h; omega
theorem bulk_res {v : Val} {e : List Val × Bool × Val} (he : e ∈ v.ents) : bulkV e.2.2 < bulkV v := by
 have h1 := bulkV_eq v; have h2 := bulkEs_mem he; have h3 := bulkE_eq e; omega
theorem valid_c (v : Val) : PC zP 92 [.st (encVal v)] (Bo (treeB v)) := by
 have ihk : ∀ p ∈ v.kids, PC zP 92 [.st (encVal p)] (Bo (treeB p)) := fun p hp => valid_c p
 have iha : ∀ e ∈ v.ents, ∀ p ∈ e.1, PC zP 92 [.st (encVal p)] (Bo (treeB p)) := fun e he p hp => valid_c p
 have ihr : ∀ e ∈ v.ents, PC zP 92 [.st (encVal e.2.2)] (Bo (treeB e.2.2)) := fun e he => valid_c e.2.2
 have hn := node_c v
 rw [encVal_eq] at hn
 rw [treeB_kids]
 refine PCB.ob Tryz.func92 Tryz.ntmps92 Tryz.results92 ?_
 cases hz : nodeB v
 ·
  repeat' (first | (simp only [go_sem, D, E, H, J, N, O, U, reduceCtorEq, V, W, Y, Z, zL, hz, encVal_eq v] <;> refine nf ?_) | (refine stp ?_; intro K hK) | (apply hK; clear hK K) | refine stn ?_ | (with_reducible refine ⟨_, hn, ?_⟩) | refine stq ?_ | (clear hK K))
  all_goals (first | exact lf | (refine fin0 ?_; simp only [hz, zb, cT, cF, dT, dF] <;> rfl))
 repeat' (first | (simp only [go_sem, D, E, H, J, N, O, U, reduceCtorEq, V, W, Y, Z, zL, hz, encVal_eq v, lB] <;> refine nf ?_) | (refine stp ?_; intro K hK) | (apply hK; clear hK K) | refine stn ?_ | (with_reducible refine ⟨_, hn, ?_⟩) | refine stq ?_ | fail)
 refine xE 1 3 rfl rfl fun hlen0 => ?_
 (try rw [lB] at hlen0)
 refine xC (S := Unit) (v.kids) encVal (fun k s => (3, I .i64 (k : Nat)) :: []) (fun k s => []) [1] [1] (fun k s => v.kids.all treeB = (v.kids.drop k).all treeB) (()) (by simp only [go_sem, D, E, H, J, N, O, U, reduceCtorEq, V, W, Y, Z, zL, encVal_eq]; exact Gh.ts []) ?_ ?_ ?_
 ·rfl
 ·intro k s x hlt hx hx' hb hok
  refine st ?_
  have hix := ihk x (lP hx)
  rw [all_step hx] at hok
  cases hy : treeB x <;> simp only [hy, Bool.true_and, Bool.false_and] at hok
  ·
   repeat' (first | (simp only [go_sem, D, E, H, J, N, O, U, reduceCtorEq, V, W, Y, Z, zL, encVal_eq v, lB, hb, hy] <;> refine nf ?_) | (refine stp ?_; intro K hK) | (apply hK; clear hK K) | refine stn ?_ | (with_reducible first | refine ⟨_, hix, ?_⟩ | refine ⟨by omega, encVal x, hx', ?_⟩) | refine stq ?_ | (clear hK K))
   all_goals (first | exact lf | (refine fin0 ?_; simp only [hok, hz, zb, cT, cF, dT, dF] <;> rfl))
  ·
   repeat' (first | (simp only [go_sem, D, E, H, J, N, O, U, reduceCtorEq, V, W, Y, Z, zL, encVal_eq v, lB, hb, hy] <;> refine nf ?_) | (refine stp ?_; intro K hK) | (apply hK; clear hK K) | refine stn ?_ | (with_reducible first | refine ⟨_, hix, ?_⟩ | refine ⟨by omega, encVal x, hx', ?_⟩) | refine stq ?_ | (clear hK K))
   all_goals (rw [wrap_succ hlt hlen0])
   all_goals (refine ⟨(), ?_, Gh.ts []⟩)
   all_goals exact hok
 intro s0 hb0 hok0
 refine st ?_
 rw [all_end] at hok0
 repeat' (first | (simp only [go_sem, D, E, H, J, N, O, U, reduceCtorEq, V, W, Y, Z, zL, encVal_eq v, lB, hb0] <;> refine nf ?_) | (refine stp ?_; intro K hK) | (apply hK; clear hK K) | refine stn ?_ | (clear hK K))
 refine xE 1 5 rfl rfl fun hlen1 => ?_
 (try rw [lB] at hlen1)
 refine xC (S := Unit) (v.ents) encEnt (fun k s => (4, I .i64 (k : Nat)) :: []) (fun k s => []) [1] [1] (fun k s => v.ents.all treeE = (v.ents.drop k).all treeE) (()) (by simp only [go_sem, D, E, H, J, N, O, U, reduceCtorEq, V, W, Y, Z, zL, encVal_eq]; exact Gh.ts []) ?_ ?_ ?_
 ·rfl
 ·intro k s x hlt hx hx' hb hok
  refine st ?_
  rw [all_step hx] at hok
  have hem := lP hx
  have hia := iha x hem
  have hir := ihr x hem
  rw [encVal_eq] at hir
  repeat' (first | (simp only [go_sem, D, E, H, J, N, O, U, reduceCtorEq, V, W, Y, Z, zL, encVal_eq v, encEnt_eq, lB, hb] <;> refine nf ?_) | (refine stp ?_; intro K hK) | (apply hK; clear hK K) | refine stn ?_ | (with_reducible refine ⟨by omega, encEnt x, hx', ?_⟩) | fail)
  refine xE 5 0 rfl rfl fun hlen2 => ?_
  (try rw [lB] at hlen2)
  refine xC (S := Unit) (x.1) encVal (fun k s => (6, I .i64 (k : Nat)) :: []) (fun k s => []) [1, 4, 5] [1, 5] (fun k s => x.1.all treeB = (x.1.drop k).all treeB) (()) (by simp only [go_sem, D, E, H, J, N, O, U, reduceCtorEq, V, W, Y, Z, zL, encVal_eq, encEnt_eq]; exact Gh.ts []) ?_ ?_ ?_
  ·rfl
  ·intro i s y hlti hy hy' hbi hoki
   refine st ?_
   have hiy := hia y (lP hy)
   rw [all_step hy] at hoki
   cases hc : treeB y <;> simp only [hc, Bool.true_and, Bool.false_and] at hoki
   ·
    repeat' (first | (simp only [go_sem, D, E, H, J, N, O, U, reduceCtorEq, V, W, Y, Z, zL, encVal_eq v, encEnt_eq, lB, hbi, hc] <;> refine nf ?_) | (refine stp ?_; intro K hK) | (apply hK; clear hK K) | refine stn ?_ | (with_reducible first | refine ⟨_, hiy, ?_⟩ | refine ⟨by omega, encVal y, hy', ?_⟩) | refine stq ?_ | (clear hK K))
    all_goals (first | exact lf | (refine fin0 ?_; simp only [hok, hz, hok0, treeE, hoki, zb, cT, cF, dT, dF] <;> rfl))
   ·
    repeat' (first | (simp only [go_sem, D, E, H, J, N, O, U, reduceCtorEq, V, W, Y, Z, zL, encVal_eq v, encEnt_eq, lB, hbi, hc] <;> refine nf ?_) | (refine stp ?_; intro K hK) | (apply hK; clear hK K) | refine stn ?_ | (with_reducible first | refine ⟨_, hiy, ?_⟩ | refine ⟨by omega, encVal y, hy', ?_⟩) | refine stq ?_ | (clear hK K))
    all_goals (rw [wrap_succ hlti hlen2])
    all_goals (refine ⟨(), ?_, Gh.ts []⟩)
    all_goals exact hoki
  intro s2 hb2 hok2
  refine st ?_
  rw [all_end] at hok2
  cases hf : x.2.1 <;> cases hr : treeB x.2.2
  all_goals (simp only [treeE, hok2, hf, hr, Bool.true_and, Bool.false_and, Bool.true_or, Bool.false_or] at hok)
  all_goals
   repeat' (first | (simp only [go_sem, D, E, H, J, N, O, U, reduceCtorEq, V, W, Y, Z, zL, encVal_eq, encEnt_eq, lB, hb2, hf, hr] <;> refine nf ?_) | (refine stp ?_; intro K hK) | (apply hK; clear hK K) | refine stn ?_ | (with_reducible refine ⟨_, hir, ?_⟩) | refine stq ?_ | (clear hK K))
  any_goals (first | exact nn | (refine fin0 ?_; simp only [hok, hok0, hz, Bool.and_false, Bool.true_and, Bool.and_true]; done))
  all_goals (rw [wrap_succ hlt hlen1])
  all_goals (refine ⟨(), ?_, Gh.ts []⟩)
  all_goals exact hok
 intro s1 hb1 hok1
 refine st ?_
 rw [all_end] at hok1
 repeat' (first | (simp only [go_sem, D, E, H, J, N, O, U, reduceCtorEq, V, W, Y, Z, zL, encVal_eq v, lB, hb1] <;> refine nf ?_) | (refine stp ?_; intro K hK) | (apply hK; clear hK K) | refine stn ?_ | (clear hK K))
 all_goals (first | exact lf | (refine fin0 ?_; simp only [hok1, hok0, hz, zb, cT, cF, dT, dF] <;> rfl))
termination_by bulkV v
decreasing_by
 ·exact bulk_kid hp
 ·exact bulk_arg he hp
 ·exact bulk_res he
end Go.Proofs.YtajfdbdklphonaaGreat
namespace Go.Proofs.YtajfdbdklphonaaGreat
open Go Go.Sx
abbrev In64 (a : Int) : Prop := -9223372036854775808 ≤ a ∧ a ≤ 9223372036854775807
theorem wrap64 (x : Int) : ∃ k : Int, IntKind.i64.wrap x = x + k * 18446744073709551616 ∧ In64 (IntKind.i64.wrap x) := by
 have h : IntKind.i64.wrap x = Int.bmod x 18446744073709551616 := by
  unfold IntKind.wrap
  simp [IntKind.signed, IntKind.bits]
  rw [Int.bmod_def]
  split <;> split <;> omega
 rw [h]
 refine ⟨-((x + 9223372036854775808) / 18446744073709551616), ?_, ?_⟩
 ·rw [Int.bmod_def]; split <;> omega
 ·rw [Int.bmod_def]; split <;> (constructor <;> omega)
theorem wrap_mod (x : Int) (a k : Int) (h : In64 a) (hx : x = a + k * 18446744073709551616) : IntKind.i64.wrap x = a := by
 obtain ⟨j, h1, h2⟩ := wrap64 x
 omega
theorem back (a b : Int) (ha : In64 a) : IntKind.i64.wrap (IntKind.i64.wrap (a.tdiv b * b) + a.tmod b) = a := by
 obtain ⟨j, h1, h2⟩ := wrap64 (a.tdiv b * b)
 refine wrap_mod _ a j ha ?_
 have := Int.mul_tdiv_add_tmod a b
 rw [Int.mul_comm] at this
 omega
end Go.Proofs.YtajfdbdklphonaaGreat
namespace Go.Proofs.YtajfdbdklphonaaGreat
open Go Go.Sx
theorem wrap_u64 (x : Int) : IntKind.u64.wrap x = x % 18446744073709551616 := by
 simp [IntKind.wrap, IntKind.signed, IntKind.bits]
end Go.Proofs.YtajfdbdklphonaaGreat
set_option maxRecDepth 20000
namespace Go.Proofs.YtajfdbdklphonaaGreat
open Go Go.Sx
def Bare (d : Dat) : Prop := d.mod = [] ∧ d.version = 0 ∧ d.routine = 0 ∧ d.wrapped = false ∧ d.nodes = [] ∧ d.root = 0 ∧ d.inner = [] ∧ d.outer = []
inductive Good : Dat → Prop
 | mk (d : Dat) (hn : In64 d.num) (h1 : d.kids.length ≤ 1000) (h2 : d.keys.length ≤ 1000) (hf : d.kind ≠ 9 → Bare d) (hk : ∀ k ∈ d.kids, Good k) : Good d
theorem Good.num {d : Dat} (h : Good d) : In64 d.num := by cases h; assumption
theorem Good.kids {d : Dat} (h : Good d) : d.kids.length ≤ 1000 := by cases h; assumption
theorem Good.keys {d : Dat} (h : Good d) : d.keys.length ≤ 1000 := by cases h; assumption
theorem Good.kid {d : Dat} (h : Good d) : ∀ k ∈ d.kids, Good k := by cases h; assumption
theorem Good.small {d : Dat} (h : Good d) : Small d := by
 induction h with
 | mk d hn h1 h2 hf hk ih => exact .mk d (by omega) (by omega) ih
theorem keyC_zero {a b : KeyD} : keyC a b = 0 ↔ a = b := by
 unfold keyC
 rw [chainC_zero, cmpI_zero, cmpB_zero]
 cases a; cases b; simp
theorem firstC_zero {α : Type} (f : α → α → Int) : ∀ (a b : List α), (∀ x ∈ a, ∀ y, f x y = 0 ↔ x = y) → a.length = b.length → (firstC f a b = 0 ↔ a = b)
 | [], [], _, _ => by simp [firstC]
 | [], _ :: _, _, h => by simp at h
 | _ :: _, [], _, h => by simp at h
 | x :: a, y :: b, hf, h => by
  have ih := firstC_zero f a b (fun x hx => hf x (by simp [hx])) (by simpa using h)
  have h0 := hf x (by simp) y
  simp only [firstC, List.cons.injEq]
  by_cases hz : f x y = 0
  ·rw [hz]; simp only [dT, cT, ih, h0.1 hz, true_and]
  ·simp only [decide_eq_false hz, cF]
   have : ¬ x = y := fun e => hz (h0.2 e)
   simp [hz, this]
theorem listCmp_zero {α : Type} (f : α → α → Int) (a b : List α) (hf : ∀ x ∈ a, ∀ y, f x y = 0 ↔ x = y) : listCmp f a b = 0 ↔ a = b := by
 unfold listCmp
 by_cases hl : a.length = b.length
 ·have : cmpI a.length b.length = 0 := cmpI_zero.2 (by omega)
  simp only [this, dT, cT]
  exact firstC_zero f a b hf hl
 ·have : ¬ cmpI a.length b.length = 0 := fun h => hl (by have := cmpI_zero.1 h; omega)
  rw [decide_eq_false this, cF]
  exact ⟨fun h => absurd h this, fun e => absurd (by rw [e]) hl⟩
theorem valC_zero : ∀ (a b : Val), valC a b = 0 ↔ a = b := by
 intro a
 induction a using WellFounded.induction (r := InvImage (· < ·) (SizeOf.sizeOf (α := Val))) (InvImage.wf _ Nat.lt_wfRel.wf) with
 | _ a ih =>
 intro b
 rw [valC_eq]
 have hk : ∀ x ∈ a.kids, ∀ y, valC x y = 0 ↔ x = y := fun x hx y => ih x (by
  show SizeOf.sizeOf x < SizeOf.sizeOf a
  cases a; simp only at hx; have := List.sizeOf_lt_of_mem hx; simp; omega) y
 have he : ∀ x ∈ a.ents, ∀ y, entC x y = 0 ↔ x = y := by
  intro x hx y
  have hsz : SizeOf.sizeOf x < SizeOf.sizeOf a := by
   cases a; simp only at hx; have := List.sizeOf_lt_of_mem hx; simp; omega
  rw [entC_eq, chainC_zero]
  obtain ⟨l, f, r⟩ := x
  obtain ⟨l', f', r'⟩ := y
  simp only at *
  have hl : ∀ x ∈ l, ∀ y, valC x y = 0 ↔ x = y := fun x hx y => ih x (by
   show SizeOf.sizeOf x < SizeOf.sizeOf a
   have := List.sizeOf_lt_of_mem hx; simp at hsz; omega) y
  have hr := ih r (by show SizeOf.sizeOf r < SizeOf.sizeOf a; simp at hsz; omega) r'
  rw [listCmp_zero valC l l' hl]
  cases f <;> cases f' <;> simp [hr]
 rw [chainC_zero, chainC_zero, chainC_zero, chainC_zero, chainC_zero, chainC_zero, cmpI_zero, cmpI_zero, cmpB_zero, listCmp_zero keyC _ _ (fun _ _ _ => keyC_zero), listCmp_zero valC _ _ hk, listCmp_zero entC _ _ he, listCmp_zero Lib.compareBytes _ _ (fun _ _ _ => cmpB_zero)]
 cases a; cases b
 simp only [Val.mk.injEq]
 constructor
 ·rintro ⟨h1, h2, h3, h4, h5, h6, h7⟩; exact ⟨h1, h2, h3, h5, h4, h6, h7⟩
 ·rintro ⟨h1, h2, h3, h4, h5, h6, h7⟩; exact ⟨h1, h2, h3, h5, h4, h6, h7⟩
structure GoodA (n : Nat) (a : PutA) : Prop where
 k : a.keys.length ≤ n
 d : a.kids.length ≤ n
 g : ∀ d ∈ a.kids, Good d
theorem GoodA.le {n m : Nat} {a : PutA} (h : GoodA n a) (hm : n ≤ m) : GoodA m a := ⟨by have := h.k; omega, by have := h.d; omega, h.g⟩
end Go.Proofs.YtajfdbdklphonaaGreat
set_option maxRecDepth 20000
set_option maxHeartbeats 4000000
namespace Go.Proofs.YtajfdbdklphonaaGreat
open Go Go.Sx
theorem cloneKeysL_c (l : List KeyD) (hl : l.length ≤ 100000000) : PC zP 35 [.one (.dat (.sl 2 (l.map encKey)))] (.one (.dat (.sl 2 (l.map encKey)))) := by
 refine PCB.ob Tryz.func35 Tryz.ntmps35 Tryz.results35 ?_
 refine AWP.ghQ ?_
 repeat' (first | ( refine AWP.nilR (e := 39) rfl (by decide) (by decide) rfl (fun hnil => ?_) ?_) | (simp only [go_sem, D, E, H, J, N, O, U, reduceCtorEq, V, W, Y, Z, zL, lB] <;> refine nf ?_) | (refine stp ?_; intro K hK) | (apply hK; clear hK K) | refine stn ?_ | (with_reducible first | (refine Or.inr (show vBuildOwn _ 5 _ _ _ _ _ _ from ?_); unfold vBuildOwn; with_reducible refine Or.inr ?_; simp only [vBuildRow, go_sem, D, E, H, J, N, O, U, reduceCtorEq, V, W, Y, Z, zL, lB]) | (refine ⟨(by first | omega | (simp only [lA, lB, lQ, List.length_drop, lC, lD, List.length_replicate]; omega) : _ ≤ _), ?_⟩)) | (clear hK K))
 ·refine ⟨_, Gh.refl _, ?_⟩
  simp only [go_sem, D, E, H, J, N, O, U, reduceCtorEq, V, W, Y, Z, zL]
  refine fin0 ?_
  rw [hnil]
 ·
  refine ⟨_, Gh.fs 7, ?_⟩
  simp only [go_sem, D, E, H, J, N, O, U, reduceCtorEq, V, W, Y, Z, zL, lB]
  all_goals (first | exact nn | refine fin0 ?_)
  all_goals rfl
end Go.Proofs.YtajfdbdklphonaaGreat
set_option maxRecDepth 20000
set_option maxHeartbeats 16000000
namespace Go.Proofs.YtajfdbdklphonaaGreat
open Go Go.Sx
theorem cloneStr_c (l : List (List UInt8)) (hl : l.length ≤ 100000000) : PC zP 65 [SsP l] (SsP l) := by
 refine PCB.ob Tryz.func65 Tryz.ntmps65 Tryz.results65 ?_
 refine AWP.ghQ ?_
 repeat' (first | ( refine AWP.nilR (e := 9) rfl (by decide) (by decide) rfl (fun hnil => ?_) ?_) | (simp only [go_sem, D, E, H, J, N, O, U, reduceCtorEq, V, W, Y, Z, zL, lB] <;> refine nf ?_) | (refine stp ?_; intro K hK) | (apply hK; clear hK K) | refine stn ?_ | (with_reducible first | (refine Or.inr (show vBuildOwn _ 5 _ _ _ _ _ _ from ?_); unfold vBuildOwn; with_reducible refine Or.inr ?_; simp only [vBuildRow, go_sem, D, E, H, J, N, O, U, reduceCtorEq, V, W, Y, Z, zL, lB]) | (refine ⟨(by first | omega | (simp only [lA, lB, lQ, List.length_drop, lC, lD, List.length_replicate]; omega) : _ ≤ _), ?_⟩)) | (clear hK K))
 ·refine ⟨_, Gh.refl _, ?_⟩
  simp only [go_sem, D, E, H, J, N, O, U, reduceCtorEq, V, W, Y, Z, zL]
  refine fin0 ?_
  show T.one (.dat (.sl 1 [])) = T.one (.dat (.sl 1 (l.map Sx.encStr)))
  rw [hnil]
 ·
  refine ⟨_, Gh.fs 7, ?_⟩
  simp only [go_sem, D, E, H, J, N, O, U, reduceCtorEq, V, W, Y, Z, zL, lB]
  all_goals (first | exact nn | refine fin0 ?_)
  all_goals rfl
theorem cloneStr_n (l : List (List UInt8)) (hl : l.length ≤ 100000000) : PCN zP 65 [SsP l] (.one (.own 0 l.length)) (.row 1 (l.map Sx.encStr)) := by
 refine PCN.of_body 7 Tryz.func65 rfl (by decide) Tryz.ntmps65 Tryz.results65 rfl rfl ?_
 refine AWP.ghQ ?_
 repeat' (first | ( refine AWP.nilR (e := 9) rfl (by decide) (by decide) rfl (fun hnil => ?_) ?_) | (simp only [go_sem, D, E, H, J, N, O, U, reduceCtorEq, V, W, Y, Z, zL, lB] <;> refine nf ?_) | (refine stp ?_; intro K hK) | (apply hK; clear hK K) | refine stn ?_ | (with_reducible first | (refine Or.inr (show vBuildOwn _ 5 _ _ _ _ _ _ from ?_); unfold vBuildOwn; with_reducible refine Or.inr ?_; simp only [vBuildRow, go_sem, D, E, H, J, N, O, U, reduceCtorEq, V, W, Y, Z, zL, lB]) | refine ⟨(by omega : _ ≤ _), ?_⟩) | (clear hK K))
 ·refine GhQ.step (xI 2 7 rfl rfl rfl rfl) ?_
  refine ⟨_, Gh.refl _, ?_⟩
  have : l = [] := by simpa using hnil
  subst this
  simp only [go_sem, D, E, H, J, N, O, U, reduceCtorEq, V, W, Y, Z, zL, List.map_nil, lD]
  first | exact ⟨rfl, fun x hx => hx⟩ | exact fun x hx => hx
 ·refine ⟨_, Gh.refl _, ?_⟩
  simp only [go_sem, D, E, H, J, N, O, U, reduceCtorEq, V, W, Y, Z, zL, lB]
  first | exact ⟨rfl, fun x hx => hx⟩ | exact fun x hx => hx
abbrev CloneC (v : Val) : Prop := PC zP 76 [Vt v] (Vt v)
abbrev VsP (l : List Val) : T := .one (.dat (.sl 7 (l.map encVal)))
theorem val_snoc1 (l : List Val) (x : Val) : l.map encVal ++ [encVal x] = (l ++ [x]).map encVal := by simp
theorem ent_snoc1 (l : List Ent) (x : Ent) : l.map encEnt ++ [[.sl 7 (x.1.map encVal), .bool x.2.1, .int .i64 x.2.2.kind, .int .i64 x.2.2.num, .str x.2.2.text, .sl 7 (x.2.2.kids.map encVal), .sl 2 (x.2.2.keys.map encKey), .sl 9 (x.2.2.ents.map encEnt), .sl 1 (x.2.2.labels.map Sx.encStr)]] = (l ++ [x]).map encEnt := by
 rw [List.map_append, lE, List.map_nil, encEnt_eq x]
theorem cloneAll_c (l : List Val) (hl : l.length ≤ 100000000) (h : ∀ v ∈ l, CloneC v) : PC zP 105 [VsP l] (VsP l) := by
 refine PCB.ob Tryz.func105 Tryz.ntmps105 Tryz.results105 ?_
 refine AWP.ghQ ?_
 repeat' (first | (simp only [go_sem, D, E, H, J, N, O, U, reduceCtorEq, V, W, Y, Z, zL, lB] <;> refine nf ?_) | (refine stp ?_; intro K hK) | (apply hK; clear hK K) | refine stn ?_ | fail)
 refine xD (xI 3 900 rfl rfl rfl rfl) ?_
 refine xF 6 rfl fun hlen0 => ?_
 (try rw [lB] at hlen0)
 refine xC (S := List Val) (l) encVal (fun k s => (8, I .i64 (k : Nat)) :: [(3, .one (.own 900 s.length))]) (fun k s => [(900, .row 7 (s.map encVal))]) [6, 7] [] (fun k s => Is s (l.take k)) ([]) (by refine st ?_; exact Gh.ts []) ?_ ?_ ?_
 ·simp [Is]
 ·intro k s x hlt hx hx' hb hok
  refine st ?_
  have hix := h x (lP hx)
  have hsl : s.length ≤ k := by rw [show s = _ from hok, lQ]; omega
  repeat' (first | (simp only [go_sem, D, E, H, J, N, O, U, reduceCtorEq, V, W, Y, Z, zL, lB, hb, val_snoc1] <;> refine nf ?_) | (refine stp ?_; intro K hK) | (apply hK; clear hK K) | refine stn ?_ | (with_reducible first | refine ⟨_, hix, ?_⟩ | refine ⟨by omega, encVal x, hx', ?_⟩ | (refine ⟨(by first | omega | (simp only [lA, lB, lQ, List.length_drop, lC, lD, List.length_replicate]; omega) : _ ≤ _), ?_⟩)) | refine stq ?_ | (clear hK K))
  all_goals (rw [wrap_succ hlt hlen0])
  all_goals (refine ⟨s ++ [x], ?_, Gh.ts [(900, 16)]⟩)
  all_goals (rw [Is, lO, hx, ← show s = _ from hok]; rfl)
 ·intro s hb hok
  refine st ?_
  rw [Is, lK] at hok
  repeat' (first | (simp only [go_sem, D, E, H, J, N, O, U, reduceCtorEq, V, W, Y, Z, zL, lB, hb] <;> refine nf ?_) | (refine stp ?_; intro K hK) | (apply hK; clear hK K) | refine stn ?_ | (clear hK K))
  refine ⟨_, Gh.fs 900, ?_⟩
  simp only [go_sem, D, E, H, J, N, O, U, reduceCtorEq, V, W, Y, Z, zL, lB]
  all_goals (first | exact nn | refine fin0 ?_)
  all_goals (rw [show s = _ from hok])
theorem cloneEntries_c (l : List Ent) (hl : l.length ≤ 100000000) (h : ∀ e ∈ l, PC zP 105 [VsP e.1] (VsP e.1) ∧ CloneC e.2.2) :
    PC zP 106 [.one (.dat (.sl 9 (l.map encEnt)))] (.one (.dat (.sl 9 (l.map encEnt)))) := by
  refine PCB.ob Tryz.func106 Tryz.ntmps106 Tryz.results106 ?_
  refine AWP.ghQ ?_
  repeat' (first | (simp only [go_sem, D, E, H, J, N, O, U, reduceCtorEq, V, W, Y, Z, zL, lB] <;> refine nf ?_) | (refine stp ?_; intro K hK) | (apply hK; clear hK K) | refine stn ?_ | fail)
  refine xD (xI 3 900 rfl rfl rfl rfl) ?_
  refine xF 6 rfl fun hlen0 => ?_
  (try rw [lB] at hlen0)
  refine xC (S := List Ent) (l) encEnt (fun k s => (8, I .i64 (k : Nat)) :: [(3, .one (.own 900 s.length))]) (fun k s => [(900, .row 9 (s.map encEnt))]) [6, 7] [] (fun k s => Is s (l.take k)) ([]) (by refine st ?_; exact Gh.ts []) ?_ ?_ ?_
  · simp [Is]
  · intro k s x hlt hx hx' hb hok
    refine st ?_
    obtain ⟨hi1, hi2⟩ := h x (lP hx)
    rw [CloneC, show Vt x.2.2 = T.st (encVal x.2.2) from rfl, encVal_eq x.2.2] at hi2
    have hsl : s.length ≤ k := by rw [show s = _ from hok, lQ]; omega
    repeat' (first | (simp only [go_sem, D, E, H, J, N, O, U, reduceCtorEq, V, W, Y, Z, zL, lB, hb, encEnt_eq x, encVal_eq x.2.2, ent_snoc1] <;> refine nf ?_) | (refine stp ?_; intro K hK) | (apply hK; clear hK K) | refine stn ?_ | (with_reducible first | refine ⟨_, hi1, ?_⟩ | refine ⟨_, hi2, ?_⟩ | refine ⟨by omega, encEnt x, hx', ?_⟩ | (refine ⟨(by first | omega | (simp only [lA, lB, lQ, List.length_drop, lC, lD, List.length_replicate]; omega) : _ ≤ _), ?_⟩)) | (with_reducible refine AWP.segP (id := 5) 11 mixed (by kernel_rfl) fun K hK => ?_; simp only [List.take_succ_cons, List.take_zero, List.drop_succ_cons, List.drop_zero]) | (clear hK K))
    all_goals (rw [wrap_succ hlt hlen0])
    all_goals (refine ⟨s ++ [x], ?_, Gh.ts [(900, 23)]⟩)
    all_goals (rw [Is, lO, hx, ← show s = _ from hok]; rfl)
  · intro s hb hok
    refine st ?_
    rw [Is, lK] at hok
    repeat' (first | (simp only [go_sem, D, E, H, J, N, O, U, reduceCtorEq, V, W, Y, Z, zL, lB, hb] <;> refine nf ?_) | (refine stp ?_; intro K hK) | (apply hK; clear hK K) | refine stn ?_ | (clear hK K))
    refine ⟨_, Gh.fs 900, ?_⟩
    simp only [go_sem, D, E, H, J, N, O, U, reduceCtorEq, V, W, Y, Z, zL, lB]
    all_goals (first | exact nn | refine fin0 ?_)
    all_goals (rw [show s = _ from hok])
theorem bulk_args {v : Val} {e : Ent} (he : e ∈ v.ents) : bulkVs e.1 + bulkV e.2.2 < bulkV v := by
 have := bulkV_eq v; have := bulkEs_mem he; have := bulkE_eq e; omega
theorem clone_c (v : Val) (hv : Sm v) : CloneC v := by
 have hb := bulkV_eq v
 have hbs : bulkV v ≤ 100000000 := hv
 have ih1 : ∀ k ∈ v.kids, CloneC k := fun k hk => clone_c k (hv.kid k hk)
 have h1 := cloneAll_c v.kids hv.kids ih1
 have h2 := cloneKeysL_c v.keys hv.keys
 have h3 := cloneStr_c v.labels (by omega)
 have ih2 : ∀ e ∈ v.ents, PC zP 105 [VsP e.1] (VsP e.1) ∧ CloneC e.2.2 := fun e he => by
  have ha := bulk_args he
  have hlen := bulkVs_len e.1
  refine ⟨cloneAll_c e.1 (by omega) fun k hk => ?_, ?_⟩
  ·have := bulkVs_mem hk
   exact clone_c k (by unfold Sm; omega)
  ·exact clone_c e.2.2 (by unfold Sm; omega)
 have h4 := cloneEntries_c v.ents (by have := bulkEs_len v.ents; omega) ih2
 refine PCB.ob Tryz.func76 Tryz.ntmps76 Tryz.results76 ?_
 repeat' (first | (simp only [go_sem, D, E, H, J, N, O, U, reduceCtorEq, V, W, Y, Z, zL, encVal_eq v, lB] <;> refine nf ?_) | (refine stp ?_; intro K hK) | (apply hK; clear hK K) | refine stn ?_ | (with_reducible first | refine ⟨_, h1, ?_⟩ | refine ⟨_, h2, ?_⟩ | refine ⟨_, h3, ?_⟩ | refine ⟨_, h4, ?_⟩) | refine stq ?_ | fail)
 all_goals (first | exact nn | refine fin0 ?_)
 all_goals (first | rfl | (rw [show Vt v = T.st (encVal v) from rfl, encVal_eq v]; done))
termination_by bulkV v
decreasing_by
 ·have := bulkVs_mem hk; omega
 ·omega
 ·omega
end Go.Proofs.YtajfdbdklphonaaGreat