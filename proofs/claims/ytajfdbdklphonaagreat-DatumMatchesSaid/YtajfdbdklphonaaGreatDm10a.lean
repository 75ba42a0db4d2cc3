/- Lemmas; conditions: as each states. -/
import Derived.Test.YtajfdbdklphonaaGreatDm9
open Go.Proofs.Tryz renaming prog → zP
open List renaming length_append → lA, length_map → lB, length_cons → lC, length_nil → lD, map_nil → lF, take_length → lK, drop_length → lL, take_add_one → lO, mem_of_getElem? → lP
open Go.Sx.AWP renaming range → xC, len → xF
open Go.Sx.Gh renaming nilrow → xI
open Nat renaming reduceBEq → zA, reduceBNe → zB, reduceAdd → zC, reduceSub → zD, reduceMul → zE, reduceLeDiff → zF, reduceLT → zG, reduceEqDiff → zH
open Int renaming reduceToNat → zI, reduceLE → zJ, reduceLT → zK, reduceEq → zL
open Bool renaming not_eq_true' → zM, not_eq_false' → zN
set_option linter.unusedVariables false
set_option linter.unusedSimpArgs false
set_option maxRecDepth 20000
set_option maxHeartbeats 4000000
namespace Go.Proofs.YtajfdbdklphonaaGreat
open Go Go.Sx
mutual
def bulkV : Val → Nat
 | ⟨_, _, _, kids, keys, ents, labels⟩ => 1 + bulkVs kids + keys.length + bulkEs ents + labels.length
def bulkVs : List Val → Nat
 | [] => 0
 | v :: l => bulkV v + bulkVs l
def bulkE : List Val × Bool × Val → Nat
 | (a, _, r) => 1 + bulkVs a + bulkV r
def bulkEs : List (List Val × Bool × Val) → Nat
 | [] => 0
 | e :: l => bulkE e + bulkEs l
end
theorem bulkV_eq (v : Val) : bulkV v = 1 + bulkVs v.kids + v.keys.length + bulkEs v.ents + v.labels.length := by cases v; simp only [bulkV]
theorem bulkE_eq (e : List Val × Bool × Val) : bulkE e = 1 + bulkVs e.1 + bulkV e.2.2 := by obtain ⟨a, f, r⟩ := e; simp only [bulkE]
theorem bulkV_pos (v : Val) : 1 ≤ bulkV v := by rw [bulkV_eq]; omega
theorem bulkVs_len : ∀ l : List Val, l.length ≤ bulkVs l
 | [] => by simp [bulkVs]
 | v :: l => by have := bulkVs_len l; have := bulkV_pos v; simp only [bulkVs, lC]; omega
theorem bulkVs_mem : ∀ {l : List Val} {v : Val}, v ∈ l → bulkV v ≤ bulkVs l
 | w :: l, v, h => by
  simp only [bulkVs]
  rcases List.mem_cons.1 h with rfl | h
  ·omega
  ·have := bulkVs_mem h; omega
theorem bulkEs_len : ∀ l : List (List Val × Bool × Val), l.length ≤ bulkEs l
 | [] => by simp [bulkEs]
 | e :: l => by have := bulkEs_len l; have := bulkE_eq e; simp only [bulkEs, lC]; omega
theorem bulkEs_mem : ∀ {l : List (List Val × Bool × Val)} {e : List Val × Bool × Val}, e ∈ l → bulkE e ≤ bulkEs l
 | w :: l, e, h => by
  simp only [bulkEs]
  rcases List.mem_cons.1 h with rfl | h
  ·omega
  ·have := bulkEs_mem h; omega
theorem bulkVs_append : ∀ a b : List Val, bulkVs (a ++ b) = bulkVs a + bulkVs b
 | [], b => by simp [bulkVs]
 | v :: a, b => by simp only [List.cons_append, bulkVs, bulkVs_append a b]; omega
abbrev Sm (v : Val) : Prop := bulkV v ≤ 100000000
theorem Sm.kids {v : Val} (h : Sm v) : v.kids.length ≤ 100000000 := by unfold Sm at h; have := bulkV_eq v; have := bulkVs_len v.kids; omega
theorem Sm.kid {v : Val} (h : Sm v) : ∀ k ∈ v.kids, Sm k := fun k hk => by unfold Sm at *; have := bulkV_eq v; have := bulkVs_mem hk; omega
theorem Sm.keys {v : Val} (h : Sm v) : v.keys.length ≤ 100000000 := by unfold Sm at h; have := bulkV_eq v; omega
def partE (e : List Val × Bool × Val) : List Val := bif e.2.1 then e.1 else e.1 ++ [e.2.2]
def partsV (v : Val) : List Val := v.kids ++ v.ents.flatMap partE
theorem bulk_partE (e : List Val × Bool × Val) : bulkVs (partE e) ≤ bulkE e := by
 unfold partE; rw [bulkE_eq]
 cases e.2.1 <;> simp only [cond_true, cond_false, bulkVs_append, bulkVs] <;> omega
theorem bulk_flat : ∀ l : List (List Val × Bool × Val), bulkVs (l.flatMap partE) ≤ bulkEs l
 | [] => by simp [bulkVs]
 | e :: l => by have := bulk_flat l; have := bulk_partE e; simp only [List.flatMap_cons, bulkVs_append, bulkEs]; omega
theorem bulk_parts (v : Val) : bulkVs (partsV v) + 1 ≤ bulkV v := by
 have := bulk_flat v.ents
 rw [bulkV_eq, partsV, bulkVs_append]; omega
theorem bulk_part {v p : Val} (h : p ∈ partsV v) : bulkV p < bulkV v := by
 have := bulk_parts v; have := bulkVs_mem h; omega
theorem cloneVals_n (l : List Val) (hl : l.length ≤ 100000000) : PCN zP 149 [.one (.dat (.sl 7 (l.map encVal)))] (.one (.own 0 l.length)) (.row 7 (l.map encVal)) := by
 refine PCN.of_body 7 Tryz.func149 rfl (by decide) Tryz.ntmps149 Tryz.results149 rfl rfl ?_
 refine AWP.ghQ ?_
 repeat' (first | ( refine AWP.nilR (e := 58) rfl (by decide) (by decide) rfl (fun hnil => ?_) ?_) | (simp only [go_sem, zA, zB, zC, zD, zE, zF, zG, reduceCtorEq, zH, zI, zJ, zK, zL, lB] <;> refine nf ?_) | (refine stp ?_; intro K hK) | (apply hK; clear hK K) | refine stn ?_ | (with_reducible first | (refine Or.inr (show vBuildOwn _ 5 _ _ _ _ _ _ from ?_); unfold vBuildOwn; with_reducible refine Or.inr ?_; simp only [vBuildRow, go_sem, zA, zB, zC, zD, zE, zF, zG, reduceCtorEq, zH, zI, zJ, zK, zL, lB]) | refine ⟨(by omega : _ ≤ _), ?_⟩) | (clear hK K))
 ·refine GhQ.step (xI 2 7 rfl rfl rfl rfl) ?_
  refine ⟨_, Gh.refl _, ?_⟩
  have : l = [] := by simpa using hnil
  subst this
  simp only [go_sem, zA, zB, zC, zD, zE, zF, zG, reduceCtorEq, zH, zI, zJ, zK, zL, lF, lD]
  first | exact ⟨rfl, fun x hx => hx⟩ | exact fun x hx => hx
 ·refine ⟨_, Gh.refl _, ?_⟩
  simp only [go_sem, zA, zB, zC, zD, zE, zF, zG, reduceCtorEq, zH, zI, zJ, zK, zL, lB]
  first | exact ⟨rfl, fun x hx => hx⟩ | exact fun x hx => hx
theorem flat_take {l : List (List Val × Bool × Val)} {k : Nat} {x : List Val × Bool × Val} (hx : l[k]? = some x) : (l.take (k + 1)).flatMap partE = (l.take k).flatMap partE ++ partE x := by
 rw [lO, hx]; simp
theorem flat_len {l : List (List Val × Bool × Val)} (k : Nat) : ((l.take k).flatMap partE).length ≤ bulkEs l := by
 have h1 := bulkVs_len ((l.take k).flatMap partE)
 have h2 := bulk_flat (l.take k)
 have h3 : ∀ (l : List (List Val × Bool × Val)) (k : Nat), bulkEs (l.take k) ≤ bulkEs l := by
  intro l
  induction l with
  | nil => intro k; simp
  | cons a l ih => intro k; cases k with
   | zero => simp [bulkEs]
   | succ k => have := ih k; simp only [List.take_succ_cons, bulkEs]; omega
 have := h3 l k
 omega
theorem val_snoc' (l : List Val) (x : Val) : l.map encVal ++ [[.int .i64 x.kind, .int .i64 x.num, .str x.text, .sl 7 (x.kids.map encVal), .sl 2 (x.keys.map encKey), .sl 9 (x.ents.map encEnt), .sl 1 (x.labels.map encStr)]] = (l ++ [x]).map encVal := by rw [← encVal_eq]; simp
theorem val_app (l m : List Val) : l.map encVal ++ m.map encVal = (l ++ m).map encVal := by simp
theorem parts_c (v : Val) (hv : Sm v) : PC zP 104 [.st (encVal v)] (.one (.dat (.sl 7 ((partsV v).map encVal)))) := by
 have hk := hv.kids
 have hb0 := bulkV_eq v
 have hb1 := bulkVs_len v.kids
 unfold Sm at hv
 refine PCB.ob Tryz.func104 Tryz.ntmps104 Tryz.results104 ?_
 refine AWP.ghQ ?_
 repeat' (first | (simp only [go_sem, zA, zB, zC, zD, zE, zF, zG, reduceCtorEq, zH, zI, zJ, zK, zL, encVal_eq, lB] <;> refine nf ?_) | (refine stp ?_; intro K hK) | (apply hK; clear hK K) | refine stn ?_ | (with_reducible refine Or.inr (Or.inl ⟨_, _, cloneVals_n v.kids hk, ?_⟩)) | fail)
 refine xF 10 rfl fun hlen0 => ?_
 (try rw [lB] at hlen0)
 refine xC (S := List Val) (v.ents) encEnt (fun k s => (12, I .i64 (k : Nat)) :: [(3, .one (.own 8 s.length))]) (fun k s => [(8, .row 7 (s.map encVal))]) [10, 11] [] (fun k s => Is s (v.kids ++ (v.ents.take k).flatMap partE)) (v.kids) (by simp only [go_sem, zA, zB, zC, zD, zE, zF, zG, reduceCtorEq, zH, zI, zJ, zK, zL, encVal_eq]; exact Gh.tt []) ?_ ?_ ?_
 ·simp [Is]
 ·intro k s x hlt hx hx' hb hok
  refine sts ?_
  have hf := flat_len (l := v.ents) k
  have hbx : bulkE x ≤ bulkEs v.ents := bulkEs_mem (lP hx)
  have hbe := bulkE_eq x
  have hb2 := bulkVs_len x.1
  have hsl : s.length ≤ bulkV v := by rw [show s = _ from hok, lA]; omega
  cases hz : x.2.1
  ·
   repeat' (first | (simp only [go_sem, zA, zB, zC, zD, zE, zF, zG, reduceCtorEq, zH, zI, zJ, zK, zL, lB, lA, hb, hz, encVal_eq, encEnt_eq, val_app, val_snoc'] <;> refine nf ?_) | (refine stp ?_; intro K hK) | (apply hK; clear hK K) | refine stn ?_ | (with_reducible first | refine ⟨by omega, encEnt x, hx', ?_⟩ | refine ⟨(by omega : _ ≤ _), ?_⟩) | refine stq ?_ | (clear hK K))
   all_goals (rw [wrap_succ hlt hlen0])
   all_goals (refine ⟨s ++ x.1 ++ [x.2.2], ?_, Gh.tt [(8, 27)]⟩)
   rw [Is, flat_take hx, show s = _ from hok, partE, hz]; simp
  ·
   repeat' (first | (simp only [go_sem, zA, zB, zC, zD, zE, zF, zG, reduceCtorEq, zH, zI, zJ, zK, zL, lB, lA, hb, hz, encVal_eq, encEnt_eq, val_app] <;> refine nf ?_) | (refine stp ?_; intro K hK) | (apply hK; clear hK K) | refine stn ?_ | (with_reducible first | refine ⟨by omega, encEnt x, hx', ?_⟩ | refine ⟨(by omega : _ ≤ _), ?_⟩) | (clear hK K))
   all_goals (rw [wrap_succ hlt hlen0])
   all_goals (refine ⟨s ++ x.1, ?_, Gh.tt [(8, 19)]⟩)
   rw [Is, flat_take hx, show s = _ from hok, partE, hz]; simp
 ·intro s hb hok
  refine sts ?_
  rw [lK] at hok
  repeat' (first | (simp only [go_sem, zA, zB, zC, zD, zE, zF, zG, reduceCtorEq, zH, zI, zJ, zK, zL, lB, hb] <;> refine nf ?_) | (refine stp ?_; intro K hK) | (apply hK; clear hK K) | refine stn ?_ | (clear hK K))
  refine ⟨_, Gh.fz 8, ?_⟩
  simp only [go_sem, zA, zB, zC, zD, zE, zF, zG, reduceCtorEq, zH, zI, zJ, zK, zL, lB]
  all_goals (first | exact nn | refine fin0 ?_)
  all_goals (rw [show s = _ from hok]; rfl)
def kNum (k : Int) : Bool := decide (k = 1) || (decide (k = 4) || decide (k = 9))
def kText (k : Int) : Bool := decide (k = 2) || decide (k = 3)
def kKids (k : Int) : Bool := decide (k = 6) || (decide (k = 7) || decide (k = 8))
def kKeys (k : Int) : Bool := decide (k = 8)
def kEnts (k : Int) : Bool := decide (k = 9)
def kKnown (k : Int) : Bool := decide (1 ≤ k) && decide (k ≤ 9)
theorem kinds (k : Int) : k = 1 ∨ k = 2 ∨ k = 3 ∨ k = 4 ∨ k = 5 ∨ k = 6 ∨ k = 7 ∨ k = 8 ∨ k = 9 ∨ (decide (k = 1) = false ∧ decide (k = 2) = false ∧ decide (k = 3) = false ∧ decide (k = 4) = false ∧ decide (k = 5) = false ∧ decide (k = 6) = false ∧ decide (k = 7) = false ∧ decide (k = 8) = false ∧ decide (k = 9) = false ∧ kKnown k = false) := by
 unfold kKnown; simp only [decide_eq_false_iff_not, Bool.and_eq_false_iff]; omega
theorem uses_c (k : Int) : PC zP 144 [I .i64 k] (.tup [.st [.bool (kNum k), .bool (kText k), .bool (kKids k), .bool (kKeys k), .bool (kEnts k)], Bo (kKnown k)]) := by
 refine PCB.ob Tryz.func144 Tryz.ntmps144 Tryz.results144 ?_
 rcases kinds k with rfl | rfl | rfl | rfl | rfl | rfl | rfl | rfl | rfl | ⟨h1, h2, h3, h4, h5, h6, h7, h8, h9, hk⟩
 iterate 9
  ·
   repeat' (first | (simp only [go_sem, zA, zB, zC, zD, zE, zF, zG, reduceCtorEq, zH, zI, zJ, zK, zL] <;> refine nf ?_) | (refine stp ?_; intro K hK) | (apply hK; clear hK K) | refine stn ?_ | (clear hK K))
   all_goals exact lf
 ·
  repeat' (first | (simp only [go_sem, zA, zB, zC, zD, zE, zF, zG, reduceCtorEq, zH, zI, zJ, zK, zL, h1, h2, h3, h4, h5, h6, h7, h8, h9] <;> refine nf ?_) | (refine stp ?_; intro K hK) | (apply hK; clear hK K) | refine stn ?_ | fail)
  all_goals (first | exact lf | (refine fin0 ?_; simp only [kNum, kText, kKids, kKeys, kEnts, h1, h2, h3, h4, h5, h6, h7, h8, h9, hk, zb, cond_true, cond_false, decide_true, decide_false] <;> rfl))
def kidKind (v : Val) : Int := (v.kids[1]?.getD zeroVal).kind
def badFields (v : Val) : Bool := (!kNum v.kind && !decide (v.num = 0)) || ((!kText v.kind && !decide (v.text = [])) || ((!kKids v.kind && decide ((0 : Int) < v.kids.length)) || ((!kKeys v.kind && decide ((0 : Int) < v.keys.length)) || (!kEnts v.kind && decide ((0 : Int) < v.ents.length)))))
def bodyB (v : Val) : Bool :=
 bif decide (v.kind = 2) then decide ((v.text.length : Int) ≤ 64) else
 bif decide (v.kind = 3) then isAtomB v.text else
 bif decide (v.kind = 4) then decide (0 ≤ v.num) else
 bif decide (v.kind = 6) then decide ((v.kids.length : Int) ≤ 4) else
 bif decide (v.kind = 7) then decide ((v.kids.length : Int) = 2) && (decide (kidKind v = 5) || decide (kidKind v = 7)) else
 bif decide (v.kind = 8) then mapB v else
 bif decide (v.kind = 9) then funB v else true
def nodeB (v : Val) : Bool := kKnown v.kind && (labelsB v.labels && (!badFields v && bodyB v))
theorem validMap_e (v : Val) : PC zP 147 [.st [.int .i64 v.kind, .int .i64 v.num, .str v.text, .sl 7 (v.kids.map encVal), .sl 2 (v.keys.map encKey), .sl 9 (v.ents.map encEnt), .sl 1 (v.labels.map encStr)]] (Bo (mapB v)) := by
 rw [← encVal_eq]; exact validMap_c v
theorem validFunction_e (v : Val) : PC zP 148 [.st [.int .i64 v.kind, .int .i64 v.num, .str v.text, .sl 7 (v.kids.map encVal), .sl 2 (v.keys.map encKey), .sl 9 (v.ents.map encEnt), .sl 1 (v.labels.map encStr)]] (Bo (funB v)) := by
 rw [← encVal_eq]; exact validFunction_c v
theorem validNode_1 (v : Val) (hk : v.kind = 1) : PC zP 103 [.st (encVal v)] (Bo (nodeB v)) := by
 refine PCB.ob Tryz.func103 Tryz.ntmps103 Tryz.results103 ?_
 repeat' (first | (simp only [go_sem, zA, zB, zC, zD, zE, zF, zG, reduceCtorEq, zH, zI, zJ, zK, zL, encVal_eq, hk, kNum, kText, kKids, kKeys, kEnts, kKnown, lB] <;> refine nf ?_) | (refine stp ?_; intro K hK) | (apply hK; clear hK K) | refine stn ?_ | (refine AWP.cnd ?_ ?_ <;> intro h <;> (try simp only [zM, zN] at h)) | (refine ⟨fun h => ?_, fun h => ?_⟩ <;> (try simp only [zM, zN] at h) <;> try simp only [h]) | (with_reducible first | refine ⟨_, uses_c 1, ?_⟩ | refine ⟨_, validLabels_c _, ?_⟩) | refine stq ?_ | (clear hK K))
 all_goals (first | exact lf | (refine fin0 ?_; simp only [nodeB, badFields, bodyB, kNum, kText, kKids, kKeys, kEnts, kKnown, hk, Int.reduceEq, Int.reduceLE, *, zb, cond_true, cond_false, decide_true, decide_false] <;> rfl))
theorem validNode_2 (v : Val) (hk : v.kind = 2) : PC zP 103 [.st (encVal v)] (Bo (nodeB v)) := by
 refine PCB.ob Tryz.func103 Tryz.ntmps103 Tryz.results103 ?_
 repeat' (first | (simp only [go_sem, zA, zB, zC, zD, zE, zF, zG, reduceCtorEq, zH, zI, zJ, zK, zL, encVal_eq, hk, kNum, kText, kKids, kKeys, kEnts, kKnown, lB] <;> refine nf ?_) | (refine stp ?_; intro K hK) | (apply hK; clear hK K) | refine stn ?_ | (refine AWP.cnd ?_ ?_ <;> intro h <;> (try simp only [zM, zN] at h)) | (refine ⟨fun h => ?_, fun h => ?_⟩ <;> (try simp only [zM, zN] at h) <;> try simp only [h]) | (with_reducible first | refine ⟨_, uses_c 2, ?_⟩ | refine ⟨_, validLabels_c _, ?_⟩) | refine stq ?_ | (clear hK K))
 all_goals (first | exact lf | (refine fin0 ?_; simp only [nodeB, badFields, bodyB, kNum, kText, kKids, kKeys, kEnts, kKnown, hk, Int.reduceEq, Int.reduceLE, *, zb, cond_true, cond_false, decide_true, decide_false] <;> rfl))
theorem validNode_3 (v : Val) (hk : v.kind = 3) : PC zP 103 [.st (encVal v)] (Bo (nodeB v)) := by
 refine PCB.ob Tryz.func103 Tryz.ntmps103 Tryz.results103 ?_
 repeat' (first | (simp only [go_sem, zA, zB, zC, zD, zE, zF, zG, reduceCtorEq, zH, zI, zJ, zK, zL, encVal_eq, hk, kNum, kText, kKids, kKeys, kEnts, kKnown, lB] <;> refine nf ?_) | (refine stp ?_; intro K hK) | (apply hK; clear hK K) | refine stn ?_ | (refine AWP.cnd ?_ ?_ <;> intro h <;> (try simp only [zM, zN] at h)) | (refine ⟨fun h => ?_, fun h => ?_⟩ <;> (try simp only [zM, zN] at h) <;> try simp only [h]) | (with_reducible first | refine ⟨_, uses_c 3, ?_⟩ | refine ⟨_, validLabels_c _, ?_⟩ | refine ⟨_, identIsAtom_c _, ?_⟩) | refine stq ?_ | (clear hK K))
 all_goals (first | exact lf | (refine fin0 ?_; simp only [nodeB, badFields, bodyB, kNum, kText, kKids, kKeys, kEnts, kKnown, hk, Int.reduceEq, Int.reduceLE, *, zb, cond_true, cond_false, decide_true, decide_false] <;> rfl))
theorem validNode_4 (v : Val) (hk : v.kind = 4) : PC zP 103 [.st (encVal v)] (Bo (nodeB v)) := by
 refine PCB.ob Tryz.func103 Tryz.ntmps103 Tryz.results103 ?_
 repeat' (first | (simp only [go_sem, zA, zB, zC, zD, zE, zF, zG, reduceCtorEq, zH, zI, zJ, zK, zL, encVal_eq, hk, kNum, kText, kKids, kKeys, kEnts, kKnown, lB] <;> refine nf ?_) | (refine stp ?_; intro K hK) | (apply hK; clear hK K) | refine stn ?_ | (refine AWP.cnd ?_ ?_ <;> intro h <;> (try simp only [zM, zN] at h)) | (refine ⟨fun h => ?_, fun h => ?_⟩ <;> (try simp only [zM, zN] at h) <;> try simp only [h]) | (with_reducible first | refine ⟨_, uses_c 4, ?_⟩ | refine ⟨_, validLabels_c _, ?_⟩) | refine stq ?_ | (clear hK K))
 all_goals (first | exact lf | (refine fin0 ?_; simp only [nodeB, badFields, bodyB, kNum, kText, kKids, kKeys, kEnts, kKnown, hk, Int.reduceEq, Int.reduceLE, *, zb, cond_true, cond_false, decide_true, decide_false] <;> rfl))
theorem validNode_5 (v : Val) (hk : v.kind = 5) : PC zP 103 [.st (encVal v)] (Bo (nodeB v)) := by
 refine PCB.ob Tryz.func103 Tryz.ntmps103 Tryz.results103 ?_
 repeat' (first | (simp only [go_sem, zA, zB, zC, zD, zE, zF, zG, reduceCtorEq, zH, zI, zJ, zK, zL, encVal_eq, hk, kNum, kText, kKids, kKeys, kEnts, kKnown, lB] <;> refine nf ?_) | (refine stp ?_; intro K hK) | (apply hK; clear hK K) | refine stn ?_ | (refine AWP.cnd ?_ ?_ <;> intro h <;> (try simp only [zM, zN] at h)) | (refine ⟨fun h => ?_, fun h => ?_⟩ <;> (try simp only [zM, zN] at h) <;> try simp only [h]) | (with_reducible first | refine ⟨_, uses_c 5, ?_⟩ | refine ⟨_, validLabels_c _, ?_⟩) | refine stq ?_ | (clear hK K))
 all_goals (first | exact lf | (refine fin0 ?_; simp only [nodeB, badFields, bodyB, kNum, kText, kKids, kKeys, kEnts, kKnown, hk, Int.reduceEq, Int.reduceLE, *, zb, cond_true, cond_false, decide_true, decide_false] <;> rfl))
theorem validNode_6 (v : Val) (hk : v.kind = 6) : PC zP 103 [.st (encVal v)] (Bo (nodeB v)) := by
 refine PCB.ob Tryz.func103 Tryz.ntmps103 Tryz.results103 ?_
 repeat' (first | (simp only [go_sem, zA, zB, zC, zD, zE, zF, zG, reduceCtorEq, zH, zI, zJ, zK, zL, encVal_eq, hk, kNum, kText, kKids, kKeys, kEnts, kKnown, lB] <;> refine nf ?_) | (refine stp ?_; intro K hK) | (apply hK; clear hK K) | refine stn ?_ | (refine AWP.cnd ?_ ?_ <;> intro h <;> (try simp only [zM, zN] at h)) | (refine ⟨fun h => ?_, fun h => ?_⟩ <;> (try simp only [zM, zN] at h) <;> try simp only [h]) | (with_reducible first | refine ⟨_, uses_c 6, ?_⟩ | refine ⟨_, validLabels_c _, ?_⟩) | refine stq ?_ | (clear hK K))
 all_goals (first | exact lf | (refine fin0 ?_; simp only [nodeB, badFields, bodyB, kNum, kText, kKids, kKeys, kEnts, kKnown, hk, Int.reduceEq, Int.reduceLE, *, zb, cond_true, cond_false, decide_true, decide_false] <;> rfl))
theorem validNode_7 (v : Val) (hk : v.kind = 7) : PC zP 103 [.st (encVal v)] (Bo (nodeB v)) := by
 cases h2 : decide ((v.kids.length : Int) = 2) with
 | true =>
  have hl : v.kids.length = 2 := by have := of_decide_eq_true h2; omega
  obtain ⟨y, hy, hy', _, _⟩ := at_lt (enc := encVal) (show 1 < v.kids.length by omega)
  have hkk : kidKind v = y.kind := by unfold kidKind; rw [hy]; rfl
  cases h5 : decide (y.kind = 5) <;> cases h7 : decide (y.kind = 7)
  all_goals
   refine PCB.ob Tryz.func103 Tryz.ntmps103 Tryz.results103 ?_
   repeat' (first | (simp only [go_sem, zA, zB, zC, zD, zE, zF, zG, reduceCtorEq, zH, zI, zJ, zK, zL, encVal_eq, hk, h2, h5, h7, kNum, kText, kKids, kKeys, kEnts, kKnown, lB] <;> refine nf ?_) | (refine stp ?_; intro K hK) | (apply hK; clear hK K) | refine stn ?_ | (refine AWP.cnd ?_ ?_ <;> intro h <;> (try simp only [zM, zN] at h)) | (refine ⟨fun h => ?_, fun h => ?_⟩ <;> (try simp only [zM, zN] at h) <;> try simp only [h]) | (with_reducible first | refine ⟨_, uses_c 7, ?_⟩ | refine ⟨_, validLabels_c _, ?_⟩ | refine ⟨encVal y, hy', ?_⟩) | refine stq ?_ | (clear hK K))
   all_goals (first | exact lf | (refine fin0 ?_; simp only [nodeB, badFields, bodyB, kNum, kText, kKids, kKeys, kEnts, kKnown, hk, Int.reduceEq, Int.reduceLE, *, hkk, zb, cond_true, cond_false, decide_true, decide_false] <;> rfl))
 | false =>
  refine PCB.ob Tryz.func103 Tryz.ntmps103 Tryz.results103 ?_
  repeat' (first | (simp only [go_sem, zA, zB, zC, zD, zE, zF, zG, reduceCtorEq, zH, zI, zJ, zK, zL, encVal_eq, hk, h2, kNum, kText, kKids, kKeys, kEnts, kKnown, lB] <;> refine nf ?_) | (refine stp ?_; intro K hK) | (apply hK; clear hK K) | refine stn ?_ | (refine AWP.cnd ?_ ?_ <;> intro h <;> (try simp only [zM, zN] at h)) | (refine ⟨fun h => ?_, fun h => ?_⟩ <;> (try simp only [zM, zN] at h) <;> try simp only [h]) | (with_reducible first | refine ⟨_, uses_c 7, ?_⟩ | refine ⟨_, validLabels_c _, ?_⟩) | refine stq ?_ | (clear hK K))
  all_goals (first | exact lf | (refine fin0 ?_; simp only [nodeB, badFields, bodyB, kNum, kText, kKids, kKeys, kEnts, kKnown, hk, Int.reduceEq, Int.reduceLE, *, zb, cond_true, cond_false, decide_true, decide_false] <;> rfl))
theorem validNode_8 (v : Val) (hk : v.kind = 8) : PC zP 103 [.st (encVal v)] (Bo (nodeB v)) := by
 have hmap := validMap_e v
 rw [hk] at hmap
 refine PCB.ob Tryz.func103 Tryz.ntmps103 Tryz.results103 ?_
 repeat' (first | (simp only [go_sem, zA, zB, zC, zD, zE, zF, zG, reduceCtorEq, zH, zI, zJ, zK, zL, encVal_eq, hk, kNum, kText, kKids, kKeys, kEnts, kKnown, lB] <;> refine nf ?_) | (refine stp ?_; intro K hK) | (apply hK; clear hK K) | refine stn ?_ | (refine AWP.cnd ?_ ?_ <;> intro h <;> (try simp only [zM, zN] at h)) | (refine ⟨fun h => ?_, fun h => ?_⟩ <;> (try simp only [zM, zN] at h) <;> try simp only [h]) | (with_reducible first | refine ⟨_, uses_c 8, ?_⟩ | refine ⟨_, validLabels_c _, ?_⟩ | refine ⟨_, hmap, ?_⟩) | refine stq ?_ | (clear hK K))
 all_goals (first | exact lf | (refine fin0 ?_; simp only [nodeB, badFields, bodyB, kNum, kText, kKids, kKeys, kEnts, kKnown, hk, Int.reduceEq, Int.reduceLE, *, zb, cond_true, cond_false, decide_true, decide_false] <;> rfl))
theorem validNode_9 (v : Val) (hk : v.kind = 9) : PC zP 103 [.st (encVal v)] (Bo (nodeB v)) := by
 have hfun := validFunction_e v
 rw [hk] at hfun
 refine PCB.ob Tryz.func103 Tryz.ntmps103 Tryz.results103 ?_
 repeat' (first | (simp only [go_sem, zA, zB, zC, zD, zE, zF, zG, reduceCtorEq, zH, zI, zJ, zK, zL, encVal_eq, hk, kNum, kText, kKids, kKeys, kEnts, kKnown, lB] <;> refine nf ?_) | (refine stp ?_; intro K hK) | (apply hK; clear hK K) | refine stn ?_ | (refine AWP.cnd ?_ ?_ <;> intro h <;> (try simp only [zM, zN] at h)) | (refine ⟨fun h => ?_, fun h => ?_⟩ <;> (try simp only [zM, zN] at h) <;> try simp only [h]) | (with_reducible first | refine ⟨_, uses_c 9, ?_⟩ | refine ⟨_, validLabels_c _, ?_⟩ | refine ⟨_, hfun, ?_⟩) | refine stq ?_ | (clear hK K))
 all_goals (first | exact lf | (refine fin0 ?_; simp only [nodeB, badFields, bodyB, kNum, kText, kKids, kKeys, kEnts, kKnown, hk, Int.reduceEq, Int.reduceLE, *, zb, cond_true, cond_false, decide_true, decide_false] <;> rfl))
theorem validNode_c (v : Val) : PC zP 103 [.st (encVal v)] (Bo (nodeB v)) := by
 rcases kinds v.kind with h | h | h | h | h | h | h | h | h | ⟨h1, h2, h3, h4, h5, h6, h7, h8, h9, hk⟩
 ·exact validNode_1 v h
 ·exact validNode_2 v h
 ·exact validNode_3 v h
 ·exact validNode_4 v h
 ·exact validNode_5 v h
 ·exact validNode_6 v h
 ·exact validNode_7 v h
 ·exact validNode_8 v h
 ·exact validNode_9 v h
 ·
  refine PCB.ob Tryz.func103 Tryz.ntmps103 Tryz.results103 ?_
  repeat' (first | (simp only [go_sem, zA, zB, zC, zD, zE, zF, zG, reduceCtorEq, zH, zI, zJ, zK, zL, encVal_eq, hk] <;> refine nf ?_) | (refine stp ?_; intro K hK) | (apply hK; clear hK K) | refine stn ?_ | (with_reducible refine ⟨_, uses_c _, ?_⟩) | refine stq ?_ | (clear hK K))
  all_goals (first | exact lf | (refine fin0 ?_; simp only [nodeB, hk, zb, cond_true, cond_false, decide_true, decide_false] <;> rfl))
def goB {α : Type} (f : α → α → Int) (p : α → Bool) : Option α → List α → Bool
 | _, [] => true
 | none, x :: l => p x && goB f p (some x) l
 | some y, x :: l => p x && (decide (f y x < 0) && goB f p (some x) l)
def prevAt {α : Type} (l : List α) : Nat → Option α
 | 0 => none
 | k + 1 => l[k]?
theorem goB_some {α : Type} (f : α → α → Int) (p : α → Bool) : ∀ (l : List α) (y : α), goB f p (some y) l = (ascB f (y :: l) && l.all p)
 | [], y => rfl
 | x :: l, y => by
  rw [goB, goB_some f p l x, List.all_cons]
  show _ = ((decide (f y x < 0) && ascB f (x :: l)) && _)
  cases p x <;> cases decide (f y x < 0) <;> cases ascB f (x :: l) <;> cases l.all p <;> rfl
theorem goB_none {α : Type} (f : α → α → Int) (p : α → Bool) (l : List α) : goB f p none l = (ascB f l && l.all p) := by
 cases l with
 | nil => rfl
 | cons x l =>
  rw [goB, goB_some, List.all_cons]
  cases p x <;> cases ascB f (x :: l) <;> cases l.all p <;> rfl
theorem goB_zero {α : Type} {f : α → α → Int} {p : α → Bool} {l : List α} {k : Nat} {x : α} (h0 : k = 0) (hx : l[k]? = some x) : goB f p (prevAt l k) (l.drop k) = (p x && goB f p (prevAt l (k + 1)) (l.drop (k + 1))) := by
 subst h0
 cases l with
 | nil => simp at hx
 | cons y l => simp at hx; subst hx; rfl
theorem goB_succ {α : Type} {f : α → α → Int} {p : α → Bool} {l : List α} {k : Nat} {x y : α} (hy : l[k]? = some y) (hx : l[k + 1]? = some x) : goB f p (prevAt l (k + 1)) (l.drop (k + 1)) = (p x && (decide (f y x < 0) && goB f p (prevAt l (k + 2)) (l.drop (k + 2)))) := by
 obtain ⟨h1, e1⟩ := List.getElem?_eq_some_iff.1 hx
 rw [List.drop_eq_getElem_cons h1, e1]
 simp only [prevAt, hy, hx]
 rfl
theorem goB_end {α : Type} {f : α → α → Int} {p : α → Bool} {l : List α} {o : Option α} : goB f p o (l.drop l.length) = true := by
 rw [lL]; cases o <;> rfl
theorem less_dec (a b : List UInt8) : Op.bytesLess a b = decide (Lib.compareBytes a b < 0) := by
 rw [bytesLess_cmp]
 rcases cmpB_range a b with h | h | h <;> simp [h]
def treeB (v : Val) : Bool := nodeB v && (partsV v).attach.all fun p => treeB p.1
termination_by bulkV v
decreasing_by exact bulk_part p.2
theorem treeB_eq (v : Val) : treeB v = (nodeB v && (partsV v).all treeB) := by
 rw [treeB]; congr 1
 rw [← Bool.coe_iff_coe]; simp
def treeE (e : List Val × Bool × Val) : Bool := e.1.all treeB && (e.2.1 || treeB e.2.2)
theorem treeB_kids (v : Val) : treeB v = (nodeB v && (v.kids.all treeB && v.ents.all treeE)) := by
 rw [treeB_eq, partsV, List.all_append, List.all_flatMap]
 have : ∀ e : List Val × Bool × Val, (partE e).all treeB = treeE e := by
  intro e
  unfold partE treeE
  cases e.2.1 <;> simp
 simp only [this]
theorem Sm.part {v p : Val} (h : Sm v) (hp : p ∈ partsV v) : Sm p := by unfold Sm at *; have := bulk_part hp; omega
theorem validTree_c (v : Val) (hv : Sm v) : PC zP 73 [.st (encVal v)] (Bo (treeB v)) := by
 have ih : ∀ p ∈ partsV v, PC zP 73 [.st (encVal p)] (Bo (treeB p)) := fun p hp => validTree_c p (hv.part hp)
 have hn := validNode_c v
 have hp := parts_c v hv
 rw [treeB_eq]
 refine PCB.ob Tryz.func73 Tryz.ntmps73 Tryz.results73 ?_
 cases hz : nodeB v
 ·
  repeat' (first | (simp only [go_sem, zA, zB, zC, zD, zE, zF, zG, reduceCtorEq, zH, zI, zJ, zK, zL, hz] <;> refine nf ?_) | (refine stp ?_; intro K hK) | (apply hK; clear hK K) | refine stn ?_ | (with_reducible refine ⟨_, hn, ?_⟩) | refine stq ?_ | (clear hK K))
  all_goals (first | exact lf | (refine fin0 ?_; simp only [hz, zb, cond_true, cond_false, decide_true, decide_false] <;> rfl))
 ·
  repeat' (first | (simp only [go_sem, zA, zB, zC, zD, zE, zF, zG, reduceCtorEq, zH, zI, zJ, zK, zL, hz, lB] <;> refine nf ?_) | (refine stp ?_; intro K hK) | (apply hK; clear hK K) | refine stn ?_ | (with_reducible first | refine ⟨_, hn, ?_⟩ | refine ⟨_, hp, ?_⟩) | refine stq ?_ | fail)
  refine xF 9 rfl fun hlen0 => ?_
  (try rw [lB] at hlen0)
  refine xC (S := Unit) (partsV v) encVal (fun k s => (11, I .i64 (k : Nat)) :: []) (fun k s => []) [9, 10] [] (fun k s => (partsV v).all treeB = ((partsV v).drop k).all treeB) (()) (by refine sts ?_; exact Gh.tt []) ?_ ?_ ?_
  ·rfl
  ·intro k s x hlt hx hx' hb hok
   refine sts ?_
   have hix := ih x (lP hx)
   rw [all_step hx] at hok
   cases hy : treeB x <;> simp only [hy, Bool.true_and, Bool.false_and] at hok
   ·
    repeat' (first | (simp only [go_sem, zA, zB, zC, zD, zE, zF, zG, reduceCtorEq, zH, zI, zJ, zK, zL, lB, hb, hy] <;> refine nf ?_) | (refine stp ?_; intro K hK) | (apply hK; clear hK K) | refine stn ?_ | (with_reducible first | refine ⟨_, hix, ?_⟩ | refine ⟨by omega, encVal x, hx', ?_⟩) | refine stq ?_ | (clear hK K))
    all_goals (first | exact lf | (refine fin0 ?_; simp only [hok, hz, zb, cond_true, cond_false, decide_true, decide_false] <;> rfl))
   ·
    repeat' (first | (simp only [go_sem, zA, zB, zC, zD, zE, zF, zG, reduceCtorEq, zH, zI, zJ, zK, zL, lB, hb, hy] <;> refine nf ?_) | (refine stp ?_; intro K hK) | (apply hK; clear hK K) | refine stn ?_ | (with_reducible first | refine ⟨_, hix, ?_⟩ | refine ⟨by omega, encVal x, hx', ?_⟩) | refine stq ?_ | (clear hK K))
    all_goals (rw [wrap_succ hlt hlen0])
    all_goals (refine ⟨(), ?_, Gh.tt []⟩)
    all_goals exact hok
  ·intro s hb hok
   refine sts ?_
   rw [all_end] at hok
   repeat' (first | (simp only [go_sem, zA, zB, zC, zD, zE, zF, zG, reduceCtorEq, zH, zI, zJ, zK, zL, lB, hb] <;> refine nf ?_) | (refine stp ?_; intro K hK) | (apply hK; clear hK K) | refine stn ?_ | (clear hK K))
   all_goals (first | exact lf | (refine fin0 ?_; simp only [hok, hz, zb, cond_true, cond_false, decide_true, decide_false] <;> rfl))
termination_by bulkV v
decreasing_by exact bulk_part hp
theorem validate_c (v : Val) (hv : Sm v) : PC zP 41 [.st (encVal v)] (.one (.dat (.int .i64 (bif treeB v then 0 else 1)))) := by
 have hn := validTree_c v hv
 refine PCB.ob Tryz.func41 Tryz.ntmps41 Tryz.results41 ?_
 cases hz : treeB v
 all_goals
  repeat' (first | (simp only [go_sem, zA, zB, zC, zD, zE, zF, zG, reduceCtorEq, zH, zI, zJ, zK, zL, hz] <;> refine nf ?_) | (refine stp ?_; intro K hK) | (apply hK; clear hK K) | refine stn ?_ | (with_reducible refine ⟨_, hn, ?_⟩) | refine stq ?_ | (clear hK K))
 all_goals (first | exact lf | (refine fin0 ?_; simp only [hz, zb, cond_true, cond_false, decide_true, decide_false] <;> rfl))
theorem refEqual_c (a b : Val) : PC zP 14 [.st (encVal a), .st (encVal b)] (Bo (decide (valC a b = 0))) := by
 have h := refCompare_c a b
 refine PCB.ob Tryz.func14 Tryz.ntmps14 Tryz.results14 ?_
 repeat' (first | (simp only [go_sem, zA, zB, zC, zD, zE, zF, zG, reduceCtorEq, zH, zI, zJ, zK, zL] <;> refine nf ?_) | (refine stp ?_; intro K hK) | (apply hK; clear hK K) | refine stn ?_ | (with_reducible refine ⟨_, h, ?_⟩) | refine stq ?_ | fail)
 all_goals (first | exact nn | refine fin0 ?_)
 all_goals rfl
abbrev Vt (v : Val) : T := .st (encVal v)
def tw {α : Type} (p : α → Bool) : List α → Nat
 | [] => 0
 | x :: l => bif p x then 1 + tw p l else 0
theorem tw_step {α : Type} {p : α → Bool} {l : List α} {k : Nat} {x : α} (hx : l[k]? = some x) : tw p (l.drop k) = bif p x then 1 + tw p (l.drop (k + 1)) else 0 := by
 obtain ⟨h1, e1⟩ := List.getElem?_eq_some_iff.1 hx
 rw [List.drop_eq_getElem_cons h1, e1]; rfl
theorem tw_end {α : Type} {p : α → Bool} {l : List α} : tw p (l.drop l.length) = 0 := by rw [lL]; rfl
def putAt {α : Type} (k : Nat) (x : α) (l : List α) : List α := l.take k ++ [x] ++ l.drop k
end Go.Proofs.YtajfdbdklphonaaGreat