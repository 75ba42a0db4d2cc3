/- Lemmas of the proof. -/
import Derived.Test.YthbcdhfiibpeaaaGreatTy40
import Derived.Test.YthbcdhfiibpeaaaGreatTy41
open Nat renaming reduceBEq → zA, reduceBNe → zB, reduceAdd → zC, reduceSub → zD, reduceMul → zE, reduceLeDiff → zF, reduceLT → zG, reduceEqDiff → zH
open Int renaming reduceToNat → zI, reduceLE → zJ, reduceLT → zK, reduceEq → zL
open Bool renaming not_eq_true' → zM, not_eq_false' → zN
set_option linter.unusedSimpArgs false
set_option linter.unusedVariables false
set_option maxRecDepth 20000
set_option maxHeartbeats 64000000
namespace Go.Proofs.YthbcdhfiibpeaaaGreat
open Go Go.Sx
theorem kind_in {x : NodeD} (h : validK x = true) : 1 ≤ x.kind ∧ x.kind ≤ 19 := by
 rcases Decidable.em (1 ≤ x.kind ∧ x.kind ≤ 19) with h1 | h1
 ·exact h1
 ·exfalso
  have e : ∀ i : Int, 1 ≤ i → i ≤ 19 → decide (x.kind = i) = false := fun i h2 h3 => by rw [decide_eq_false_iff_not]; omega
  unfold validK at h
  simp only [e 1 (by omega) (by omega), e 2 (by omega) (by omega), e 3 (by omega) (by omega), e 4 (by omega) (by omega), e 5 (by omega) (by omega), e 6 (by omega) (by omega), e 7 (by omega) (by omega), e 8 (by omega) (by omega), e 9 (by omega) (by omega), e 10 (by omega) (by omega), e 11 (by omega) (by omega), e 12 (by omega) (by omega), e 13 (by omega) (by omega), e 14 (by omega) (by omega), e 15 (by omega) (by omega), e 16 (by omega) (by omega), e 17 (by omega) (by omega), e 18 (by omega) (by omega), e 19 (by omega) (by omega), Bool.or_false, cond_false] at h
  cases h
theorem vtree_kid {v p : Val} (h : treeB v = true) (hp : p ∈ v.kids) : treeB p = true := by
  rw [treeB_kids] at h
  simp only [Bool.and_eq_true] at h
  exact List.all_eq_true.1 h.2.1 p hp
theorem vtree_ent {v : Val} {e : List Val × Bool × Val} (h : treeB v = true) (he : e ∈ v.ents) : (∀ p ∈ e.1, treeB p = true) ∧ (e.2.1 = false → treeB e.2.2 = true) := by
  rw [treeB_kids] at h
  simp only [Bool.and_eq_true] at h
  have := List.all_eq_true.1 h.2.2 e he
  simp only [treeE, Bool.and_eq_true, Bool.or_eq_true] at this
  refine ⟨fun p hp => List.all_eq_true.1 this.1 p hp, fun hf => ?_⟩
  rcases this.2 with h2 | h2
  · rw [hf] at h2; cases h2
  · exact h2
theorem vtree_map {v : Val} (h : treeB v = true) (hk : v.kind = 8) : v.keys.length = v.kids.length ∧ ∀ k ∈ v.keys, k.kind = 0 ∨ k.kind = 1 := by
  rw [treeB_eq, nodeB, bodyB, hk] at h
  simp only [Int.reduceEq, decide_true, decide_false, cond_true, cond_false, mapB, Bool.and_eq_true, decide_eq_true_eq] at h
  refine ⟨by omega, fun k hk => ?_⟩
  have := List.all_eq_true.1 h.1.2.2.2.2.2 k hk
  simp only [validKeyB, Bool.or_eq_true, Bool.and_eq_true, decide_eq_true_eq] at this
  rcases this with h2 | h2
  · exact .inl h2.1
  · exact .inr h2.1
theorem member_node (l : List NodeD) (r : Int) (g : Val → Int → Bool) (v : Val) (hv : treeB v = true) (k : Nat) (x : NodeD) (hx : l[k]? = some x) (hval : validK x = true) (hkids : x.kids.length ≤ 1000000)
  (hne : boolK x.kind = true ∨ x.kind = 14 → x.kids ≠ []) (HP : ∀ p k', bulkV p < bulkV v → treeB p = true → k' ∈ edgeL x → MemC l r g p k') (HB : boolK x.kind = true → ∀ k' ∈ x.kids, MemC l r g v k') :
  PC Tryz.prog 52 [Vt v, Tt l r, I .i64 (k : Int)] (Bo (memN g x v)) := by
 have hM := members_c l r g v.kids x.kids fun p hp k' hk' => HP p k' (bulk_kid hp) (vtree_kid hv hp) (kid_edge hk')
 have h19 := kind_in hval
 have hc : x.kind = 1 ∨ x.kind = 2 ∨ x.kind = 3 ∨ x.kind = 4 ∨ x.kind = 5 ∨ x.kind = 6 ∨ x.kind = 7 ∨ x.kind = 8 ∨ x.kind = 9 ∨ x.kind = 10 ∨ x.kind = 11 ∨ x.kind = 12 ∨ x.kind = 13 ∨ x.kind = 14 ∨ x.kind = 15 ∨ x.kind = 16 ∨ x.kind = 17 ∨ x.kind = 18 ∨ x.kind = 19 := by omega
 rcases hc with h | h | h | h | h | h | h | h | h | h | h | h | h | h | h | h | h | h | h
 ·exact member_k1 l r g v k x hx h
 ·exact member_k2 l r g v k x hx h
 ·exact member_k3 l r g v k x hx h
 ·exact member_k4 l r g v k x hx h
 ·exact member_k5 l r g v k x hx h
 ·exact member_k6 l r g v k x hx h
 ·exact member_k7 l r g v k x hx h
 ·exact member_k8 l r g v k x hx h
 ·exact member_k9 l r g v k x hx h
 ·exact member_k10 l r g v k x hx h hM
 ·exact member_k11 l r g v k x hx h
 ·exact member_k12 l r g v k x hx h hM
 ·refine member_k13 l r g v k x hx h fun h8 => ?_
  have hm := vtree_map hv h8
  have := mapping7_c l r g x v h hm.1 hm.2 fun p hp k' hk' => HP p k' (bulk_kid hp) (vtree_kid hv hp) hk'
  rw [Vt, encVal_eq] at this
  exact this
 ·refine member_k14 l r g v k x hx h fun h9 => ?_
  have hk1 : 1 ≤ x.kids.length := by have := List.length_pos_iff.2 (hne (.inr h)); omega
  have := function7_c l r g x v hk1 hkids (fun e he p hp k' hk' => HP p k' (bulk_arg he hp) ((vtree_ent hv he).1 p hp) (kid_edge hk')) (fun e he hf k' hk' => HP e.2.2 k' (bulk_res he) ((vtree_ent hv he).2 hf) (kid_edge hk'))
  rw [Vt, encVal_eq] at this
  exact this
 ·exact member_k15 l r g v k x hx h
 ·exact member_k16 l r g v k x hx h (HB (by rw [h]; rfl))
 ·exact member_k17 l r g v k x hx h (HB (by rw [h]; rfl))
 ·exact member_k18 l r g v k x hx h (hne (.inl (by rw [h]; rfl))) (HB (by rw [h]; rfl))
 ·exact member_k19 l r g v k x hx h
theorem member_ind {l : List NodeD} {R : Nat} (hl : Wf l R) (hsm : TSm l) (r : Int) : ∀ (b m : Nat) (v : Val) (k : Int), bulkV v ≤ b → treeB v = true → 0 ≤ k ∧ k < (l.length : Int) → Hb l m k.toNat → MemC l r (memV l) v k := by
 intro b
 induction b with
 | zero => intro m v k hb; have := bulkV_pos v; omega
 | succ b ihb =>
  intro m
  induction m with
  | zero =>
   intro v k hb hv hk hh
   have hmem := inN hk
   have hN := hl.kind _ hmem
   simp only [nodeP, Bool.and_eq_true] at hN
   unfold MemC
   rw [memV_eq hl hk, show k = ((k.toNat : Nat) : Int) by omega]
   refine member_node l r (memV l) v hv k.toNat (nodeAt l k) (getN hk) hN.2.1 (hsm.kids _ hmem) (hl.kids _ hmem) (fun p k' hp ht hk' => ?_) (fun hbo k' hk' => ?_)
   ·have he := hl.edge _ hmem k' hk'
    exact ihb R p k' (by omega) ht he (hl.hb _ (by omega))
   ·have := hh (by rw [bo_at hk]; exact hbo)
    rw [ks_at hk, List.map_eq_nil_iff] at this
    rw [this] at hk'; cases hk'
  | succ m ihm =>
   intro v k hb hv hk hh
   have hmem := inN hk
   have hN := hl.kind _ hmem
   simp only [nodeP, Bool.and_eq_true] at hN
   unfold MemC
   rw [memV_eq hl hk, show k = ((k.toNat : Nat) : Int) by omega]
   refine member_node l r (memV l) v hv k.toNat (nodeAt l k) (getN hk) hN.2.1 (hsm.kids _ hmem) (hl.kids _ hmem) (fun p k' hp ht hk' => ?_) (fun hbo k' hk' => ?_)
   ·have he := hl.edge _ hmem k' hk'
    exact ihb R p k' (by omega) ht he (hl.hb _ (by omega))
   ·have he := hl.edge _ hmem k' (kid_edge hk')
    exact ihm v k' hb hv he (hh (by rw [bo_at hk]; exact hbo) k'.toNat (by rw [ks_at hk]; exact List.mem_map_of_mem hk'))
theorem member_any {l : List NodeD} {R : Nat} (hl : Wf l R) (hsm : TSm l) (r : Int) (v : Val) (hv : treeB v = true) (k : Int) (hk : 0 ≤ k ∧ k < (l.length : Int)) : MemC l r (memV l) v k :=
  member_ind hl hsm r (bulkV v) R v k (Nat.le_refl _) hv hk (hl.hb _ (by omega))
noncomputable def memOf (v : Val) (l : List NodeD) (r k : Int) : Bool := treeB v && (decide (wfP l r = 0) && (inB l k && memV l v k))
theorem refValid_e (v : Val) : PC Tryz.prog 51 [.st [.int .i64 v.kind, .int .i64 v.num, .str v.text, .sl 7 (v.kids.map encVal), .sl 2 (v.keys.map encKey), .sl 9 (v.ents.map encEnt), .sl 1 (v.labels.map Sx.encStr)]] (Bo (treeB v)) := by
  rw [← encVal_eq]; exact valid_c v
theorem memberOf_c (v : Val) (l : List NodeD) (r k : Int) (hsm : TSm l) : PC Tryz.prog 13 [Vt v, Tt l r, I .i64 k] (Bo (memOf v l r k)) := by
 have hV := refValid_e v
 have hW := wellFormed7_s l r hsm
 have hI := index_f l r k
 unfold memOf
 cases ht : treeB v
 ·
  refine PCB.ob Tryz.func13 Tryz.ntmps13 Tryz.results13 ?_
  repeat' (first | (simp only [go_sem, zA, zB, zC, zD, zE, zF, zG, reduceCtorEq, zH, zI, zJ, zK, zL, encVal_eq v, ht]; all_goals refine nf ?_) | (refine stp ?_; intro K hK) | (apply hK; clear hK K) | refine stn ?_ | (with_reducible refine ⟨_, hV, ?_⟩) | refine stq ?_ | fail)
  all_goals (first | exact fun _ h => absurd h List.not_mem_nil | (refine fin0 ?_; rfl))
 cases hw : decide (wfP l r = 0)
 ·
  refine PCB.ob Tryz.func13 Tryz.ntmps13 Tryz.results13 ?_
  repeat' (first | (simp only [go_sem, zA, zB, zC, zD, zE, zF, zG, reduceCtorEq, zH, zI, zJ, zK, zL, encVal_eq v, ht, hw]; all_goals refine nf ?_) | (refine stp ?_; intro K hK) | (apply hK; clear hK K) | refine stn ?_ | (with_reducible first | refine ⟨_, hV, ?_⟩ | refine ⟨_, hW, ?_⟩) | refine stq ?_ | fail)
  all_goals (first | exact fun _ h => absurd h List.not_mem_nil | (refine fin0 ?_; rfl))
 cases hi : inB l k
 ·
  refine PCB.ob Tryz.func13 Tryz.ntmps13 Tryz.results13 ?_
  repeat' (first | (simp only [go_sem, zA, zB, zC, zD, zE, zF, zG, reduceCtorEq, zH, zI, zJ, zK, zL, encVal_eq v, ht, hw, hi]; all_goals refine nf ?_) | (refine stp ?_; intro K hK) | (apply hK; clear hK K) | refine stn ?_ | (with_reducible first | refine ⟨_, hV, ?_⟩ | refine ⟨_, hW, ?_⟩ | refine ⟨_, hI, ?_⟩) | refine stq ?_ | fail)
  all_goals (first | exact fun _ h => absurd h List.not_mem_nil | (refine fin0 ?_; rfl))
 obtain ⟨R, hR⟩ := Wf.of (of_decide_eq_true hw)
 have hM := (member_any hR hsm r v ht k (by simpa [inB] using hi)).e
 refine PCB.ob Tryz.func13 Tryz.ntmps13 Tryz.results13 ?_
 repeat' (first | (simp only [go_sem, zA, zB, zC, zD, zE, zF, zG, reduceCtorEq, zH, zI, zJ, zK, zL, encVal_eq v, ht, hw, hi]; all_goals refine nf ?_) | (refine stp ?_; intro K hK) | (apply hK; clear hK K) | refine stn ?_ | (with_reducible first | refine ⟨_, hV, ?_⟩ | refine ⟨_, hW, ?_⟩ | refine ⟨_, hI, ?_⟩ | refine ⟨_, hM, ?_⟩) | refine stq ?_ | fail)
 all_goals (first | exact fun _ h => absurd h List.not_mem_nil | (refine fin0 ?_; rfl))
theorem member_c (v : Val) (l : List NodeD) (r : Int) (hsm : TSm l) : PC Tryz.prog 14 [Vt v, Tt l r] (Bo (memOf v l r r)) := by
  have hM := memberOf_c v l r r hsm
  rw [Vt, encVal_eq] at hM
  refine PCB.ob Tryz.func14 Tryz.ntmps14 Tryz.results14 ?_
  repeat' (first | (simp only [go_sem, zA, zB, zC, zD, zE, zF, zG, reduceCtorEq, zH, zI, zJ, zK, zL, encVal_eq v]; all_goals refine nf ?_) | (refine stp ?_; intro K hK) | (apply hK; clear hK K) | refine stn ?_ | (with_reducible refine ⟨_, hM, ?_⟩) | refine stq ?_ | fail)
  all_goals (first | exact fun _ h => absurd h List.not_mem_nil | (refine fin0 ?_; rfl))
end Go.Proofs.YthbcdhfiibpeaaaGreat

