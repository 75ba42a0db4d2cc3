/- Lemmas of the proof. -/
import Derived.Test.YthbcdhfiibpeaaaGreatTy11
import Derived.Test.YthbcdhfiibpeaaaGreatTy14
open Go.Proofs.Tryz renaming prog → zP
open List renaming length_append → lA, length_map → lB, length_cons → lC, take_length → lK
open Nat renaming reduceBEq → zA, reduceBNe → zB, reduceAdd → zC, reduceSub → zD, reduceMul → zE, reduceLeDiff → zF, reduceLT → zG, reduceEqDiff → zH
open Int renaming reduceToNat → zI, reduceLE → zJ, reduceLT → zK, reduceEq → zL
open Bool renaming not_eq_true' → zM, not_eq_false' → zN
set_option linter.unusedSimpArgs false
set_option linter.unusedVariables false
set_option maxRecDepth 20000
set_option maxHeartbeats 64000000
namespace Go.Proofs.YthbcdhfiibpeaaaGreat
open Go Go.Sx
def ascB {α : Type} (f : α → α → Int) : List α → Bool
 | [] => true
 | x :: l => match l with
  | [] => true
  | y :: m => decide (f x y < 0) && ascB f (y :: m)
def labelsB (l : List (List UInt8)) : Bool := ascB Lib.compareBytes l && l.all isVarB
theorem all_step {α : Type} {p : α → Bool} {l : List α} {k : Nat} {x : α} (hx : l[k]? = some x) : (l.drop k).all p = (p x && (l.drop (k + 1)).all p) := by
  obtain ⟨h1, e1⟩ := List.getElem?_eq_some_iff.1 hx
  rw [List.drop_eq_getElem_cons h1, e1, List.all_cons]
theorem all_end {α : Type} {p : α → Bool} {l : List α} : (l.drop l.length).all p = true := by rw [List.drop_length]; rfl
def mapB (v : Val) : Bool := decide ((v.keys.length : Int) = (v.kids.length : Int)) && (ascB keyC v.keys && v.keys.all validKeyB)
def zeroVal : Val := ⟨0, 0, [], [], [], [], []⟩
theorem zeroVal_lit : encVal zeroVal = [.int .i64 0, .int .i64 0, .str [], .sl 7 [], .sl 2 [], .sl 9 [], .sl 1 []] := by rw [encVal_eq]; rfl
def isZeroB (v : Val) : Bool := decide (valC v zeroVal = 0)
def entB (e : List Val × Bool × Val) (n : Int) : Bool := decide ((e.1.length : Int) = n) && (!e.2.1 || isZeroB e.2.2)
def funB (v : Val) : Bool := !(decide (v.num < 0) || (decide (4 < v.num) || !ascB entC v.ents)) && v.ents.all fun e => entB e v.num
mutual
def bulkV : Val → Nat
  | ⟨_, _, _, kids, keys, ents, labels⟩ => 1 + bulkVs kids + keys.length + bulkEs ents + labels.length
def bulkVs : List Val → Nat
  | [] => 0
  | v :: l => bulkV v + bulkVs l
def bulkE : List Val × Bool × Val → Nat
  | (a, _, r) => 1 + bulkVs a + bulkV r
def bulkEs : List (List Val × Bool × Val) → Nat
  | [] => 0
  | e :: l => bulkE e + bulkEs l
end
theorem bulkV_eq (v : Val) : bulkV v = 1 + bulkVs v.kids + v.keys.length + bulkEs v.ents + v.labels.length := by cases v; simp only [bulkV]
theorem bulkE_eq (e : List Val × Bool × Val) : bulkE e = 1 + bulkVs e.1 + bulkV e.2.2 := by obtain ⟨a, f, r⟩ := e; simp only [bulkE]
theorem bulkV_pos (v : Val) : 1 ≤ bulkV v := by rw [bulkV_eq]; omega
theorem bulkVs_len : ∀ l : List Val, l.length ≤ bulkVs l
  | [] => by simp [bulkVs]
  | v :: l => by have := bulkVs_len l; have := bulkV_pos v; simp only [bulkVs, lC]; omega
theorem bulkVs_mem : ∀ {l : List Val} {v : Val}, v ∈ l → bulkV v ≤ bulkVs l
 | w :: l, v, h => by
  simp only [bulkVs]
  rcases List.mem_cons.1 h with rfl | h
  ·omega
  ·have := bulkVs_mem h; omega
theorem bulkEs_mem : ∀ {l : List (List Val × Bool × Val)} {e : List Val × Bool × Val}, e ∈ l → bulkE e ≤ bulkEs l
 | w :: l, e, h => by
  simp only [bulkEs]
  rcases List.mem_cons.1 h with rfl | h
  ·omega
  ·have := bulkEs_mem h; omega
theorem bulkVs_append : ∀ a b : List Val, bulkVs (a ++ b) = bulkVs a + bulkVs b
  | [], b => by simp [bulkVs]
  | v :: a, b => by simp only [List.cons_append, bulkVs, bulkVs_append a b]; omega
abbrev Sm (v : Val) : Prop := bulkV v ≤ 100000000
theorem Sm.kids {v : Val} (h : Sm v) : v.kids.length ≤ 100000000 := by unfold Sm at h; have := bulkV_eq v; have := bulkVs_len v.kids; omega
theorem Sm.kid {v : Val} (h : Sm v) : ∀ k ∈ v.kids, Sm k := fun k hk => by unfold Sm at *; have := bulkV_eq v; have := bulkVs_mem hk; omega
theorem Sm.keys {v : Val} (h : Sm v) : v.keys.length ≤ 100000000 := by unfold Sm at h; have := bulkV_eq v; omega
def partE (e : List Val × Bool × Val) : List Val := bif e.2.1 then e.1 else e.1 ++ [e.2.2]
def partsV (v : Val) : List Val := v.kids ++ v.ents.flatMap partE
theorem bulk_partE (e : List Val × Bool × Val) : bulkVs (partE e) ≤ bulkE e := by
  unfold partE; rw [bulkE_eq]
  cases e.2.1 <;> simp only [cond_true, cond_false, bulkVs_append, bulkVs] <;> omega
theorem bulk_flat : ∀ l : List (List Val × Bool × Val), bulkVs (l.flatMap partE) ≤ bulkEs l
  | [] => by simp [bulkVs]
  | e :: l => by have := bulk_flat l; have := bulk_partE e; simp only [List.flatMap_cons, bulkVs_append, bulkEs]; omega
theorem bulk_parts (v : Val) : bulkVs (partsV v) + 1 ≤ bulkV v := by
  have := bulk_flat v.ents
  rw [bulkV_eq, partsV, bulkVs_append]; omega
theorem bulk_part {v p : Val} (h : p ∈ partsV v) : bulkV p < bulkV v := by
  have := bulk_parts v; have := bulkVs_mem h; omega
def kNum (k : Int) : Bool := decide (k = 1) || (decide (k = 4) || decide (k = 9))
def kText (k : Int) : Bool := decide (k = 2) || decide (k = 3)
def kKids (k : Int) : Bool := decide (k = 6) || (decide (k = 7) || decide (k = 8))
def kKeys (k : Int) : Bool := decide (k = 8)
def kEnts (k : Int) : Bool := decide (k = 9)
def kKnown (k : Int) : Bool := decide (1 ≤ k) && decide (k ≤ 9)
theorem kinds (k : Int) : k = 1 ∨ k = 2 ∨ k = 3 ∨ k = 4 ∨ k = 5 ∨ k = 6 ∨ k = 7 ∨ k = 8 ∨ k = 9 ∨ (decide (k = 1) = false ∧ decide (k = 2) = false ∧ decide (k = 3) = false ∧ decide (k = 4) = false ∧ decide (k = 5) = false ∧ decide (k = 6) = false ∧ decide (k = 7) = false ∧ decide (k = 8) = false ∧ decide (k = 9) = false ∧ kKnown k = false) := by
  unfold kKnown; simp only [decide_eq_false_iff_not, Bool.and_eq_false_iff]; omega
def kidKind (v : Val) : Int := (v.kids[1]?.getD zeroVal).kind
def badFields (v : Val) : Bool := (!kNum v.kind && !decide (v.num = 0)) || ((!kText v.kind && !decide (v.text = [])) || ((!kKids v.kind && decide ((0 : Int) < v.kids.length)) || ((!kKeys v.kind && decide ((0 : Int) < v.keys.length)) || (!kEnts v.kind && decide ((0 : Int) < v.ents.length)))))
def bodyB (v : Val) : Bool :=
  bif decide (v.kind = 2) then decide ((v.text.length : Int) ≤ 64) else
  bif decide (v.kind = 3) then isAtomB v.text else
  bif decide (v.kind = 4) then decide (0 ≤ v.num) else
  bif decide (v.kind = 6) then decide ((v.kids.length : Int) ≤ 4) else
  bif decide (v.kind = 7) then decide ((v.kids.length : Int) = 2) && (decide (kidKind v = 5) || decide (kidKind v = 7)) else
  bif decide (v.kind = 8) then mapB v else
  bif decide (v.kind = 9) then funB v else true
def nodeB (v : Val) : Bool := kKnown v.kind && (labelsB v.labels && (!badFields v && bodyB v))
def goB {α : Type} (f : α → α → Int) (p : α → Bool) : Option α → List α → Bool
  | _, [] => true
  | none, x :: l => p x && goB f p (some x) l
  | some y, x :: l => p x && (decide (f y x < 0) && goB f p (some x) l)
def prevAt {α : Type} (l : List α) : Nat → Option α
  | 0 => none
  | k + 1 => l[k]?
theorem goB_some {α : Type} (f : α → α → Int) (p : α → Bool) : ∀ (l : List α) (y : α), goB f p (some y) l = (ascB f (y :: l) && l.all p)
 | [], y => rfl
 | x :: l, y => by
  rw [goB, goB_some f p l x, List.all_cons]
  show _ = ((decide (f y x < 0) && ascB f (x :: l)) && _)
  cases p x <;> cases decide (f y x < 0) <;> cases ascB f (x :: l) <;> cases l.all p <;> rfl
theorem goB_none {α : Type} (f : α → α → Int) (p : α → Bool) (l : List α) : goB f p none l = (ascB f l && l.all p) := by
 cases l with
 | nil => rfl
 | cons x l =>
  rw [goB, goB_some, List.all_cons]
  cases p x <;> cases ascB f (x :: l) <;> cases l.all p <;> rfl
theorem goB_zero {α : Type} {f : α → α → Int} {p : α → Bool} {l : List α} {k : Nat} {x : α} (h0 : k = 0) (hx : l[k]? = some x) : goB f p (prevAt l k) (l.drop k) = (p x && goB f p (prevAt l (k + 1)) (l.drop (k + 1))) := by
  subst h0
  cases l with
  | nil => simp at hx
  | cons y l => simp at hx; subst hx; rfl
theorem goB_succ {α : Type} {f : α → α → Int} {p : α → Bool} {l : List α} {k : Nat} {x y : α} (hy : l[k]? = some y) (hx : l[k + 1]? = some x) : goB f p (prevAt l (k + 1)) (l.drop (k + 1)) = (p x && (decide (f y x < 0) && goB f p (prevAt l (k + 2)) (l.drop (k + 2)))) := by
  obtain ⟨h1, e1⟩ := List.getElem?_eq_some_iff.1 hx
  rw [List.drop_eq_getElem_cons h1, e1]
  simp only [prevAt, hy, hx]
  rfl
theorem goB_end {α : Type} {f : α → α → Int} {p : α → Bool} {l : List α} {o : Option α} : goB f p o (l.drop l.length) = true := by
  rw [List.drop_length]; cases o <;> rfl
theorem less_dec (a b : List UInt8) : Op.bytesLess a b = decide (Lib.compareBytes a b < 0) := by
  rw [bytesLess_cmp]
  rcases cmpB_range a b with h | h | h <;> simp [h]
def treeB (v : Val) : Bool := nodeB v && (partsV v).attach.all fun p => treeB p.1
termination_by bulkV v
decreasing_by exact bulk_part p.2
theorem treeB_eq (v : Val) : treeB v = (nodeB v && (partsV v).all treeB) := by
  rw [treeB]; congr 1
  rw [← Bool.coe_iff_coe]; simp
def treeE (e : List Val × Bool × Val) : Bool := e.1.all treeB && (e.2.1 || treeB e.2.2)
theorem treeB_kids (v : Val) : treeB v = (nodeB v && (v.kids.all treeB && v.ents.all treeE)) := by
 rw [treeB_eq, partsV, List.all_append, List.all_flatMap]
 have : ∀ e : List Val × Bool × Val, (partE e).all treeB = treeE e := by
  intro e
  unfold partE treeE
  cases e.2.1 <;> simp
 simp only [this]
theorem Sm.part {v p : Val} (h : Sm v) (hp : p ∈ partsV v) : Sm p := by unfold Sm at *; have := bulk_part hp; omega
theorem refEqual_c (a b : Val) : PC zP 132 [.st (encVal a), .st (encVal b)] (Bo (decide (valC a b = 0))) := by
  have h := refCompare_c a b
  refine PCB.ob Tryz.func132 Tryz.ntmps132 Tryz.results132 ?_
  repeat' (first | (simp only [go_sem, zA, zB, zC, zD, zE, zF, zG, reduceCtorEq, zH, zI, zJ, zK, zL]; all_goals refine nf ?_) | (refine stp ?_; intro K hK) | (apply hK; clear hK K) | refine stn ?_ | (with_reducible refine ⟨_, h, ?_⟩) | refine stq ?_ | fail)
  all_goals (first | exact fun _ h => absurd h List.not_mem_nil | refine fin0 ?_)
  all_goals rfl
def intVal (n : Int) : Val := ⟨1, n, [], [], [], [], []⟩
def strVal (s : List UInt8) : Val := ⟨2, 0, s, [], [], [], []⟩
def atomVal (s : List UInt8) : Val := ⟨3, 0, s, [], [], [], []⟩
def pidVal (n : Int) : Val := ⟨4, n, [], [], [], [], []⟩
def nilVal : Val := ⟨5, 0, [], [], [], [], []⟩
def tupVal (l : List Val) : Val := ⟨6, 0, [], l, [], [], []⟩
def consVal (a b : Val) : Val := ⟨7, 0, [], [a, b], [], [], []⟩
abbrev Vt (v : Val) : T := .st (encVal v)
theorem refInt_c (n : Int) : PC zP 42 [I .i64 n] (Vt (intVal n)) := by
  refine PCB.ob Tryz.func42 Tryz.ntmps42 Tryz.results42 ?_
  repeat' (first | (simp only [go_sem, zA, zB, zC, zD, zE, zF, zG, reduceCtorEq, zH, zI, zJ, zK, zL]; all_goals refine nf ?_) | (refine stp ?_; intro K hK) | (apply hK; clear hK K) | refine stn ?_ | fail)
  all_goals (first | exact fun _ h => absurd h List.not_mem_nil | refine fin0 ?_)
  all_goals (rw [Vt, encVal_eq]; rfl)
theorem refString_c (s : List UInt8) : PC zP 122 [S s] (Vt (strVal s)) := by
  refine PCB.ob Tryz.func122 Tryz.ntmps122 Tryz.results122 ?_
  repeat' (first | (simp only [go_sem, zA, zB, zC, zD, zE, zF, zG, reduceCtorEq, zH, zI, zJ, zK, zL]; all_goals refine nf ?_) | (refine stp ?_; intro K hK) | (apply hK; clear hK K) | refine stn ?_ | fail)
  all_goals (first | exact fun _ h => absurd h List.not_mem_nil | refine fin0 ?_)
  all_goals (rw [Vt, encVal_eq]; rfl)
theorem refAtomV_c (s : List UInt8) : PC zP 123 [S s] (Vt (atomVal s)) := by
  refine PCB.ob Tryz.func123 Tryz.ntmps123 Tryz.results123 ?_
  repeat' (first | (simp only [go_sem, zA, zB, zC, zD, zE, zF, zG, reduceCtorEq, zH, zI, zJ, zK, zL]; all_goals refine nf ?_) | (refine stp ?_; intro K hK) | (apply hK; clear hK K) | refine stn ?_ | fail)
  all_goals (first | exact fun _ h => absurd h List.not_mem_nil | refine fin0 ?_)
  all_goals (rw [Vt, encVal_eq]; rfl)
theorem refPid_c (n : Int) : PC zP 124 [I .i64 n] (Vt (pidVal n)) := by
  refine PCB.ob Tryz.func124 Tryz.ntmps124 Tryz.results124 ?_
  repeat' (first | (simp only [go_sem, zA, zB, zC, zD, zE, zF, zG, reduceCtorEq, zH, zI, zJ, zK, zL]; all_goals refine nf ?_) | (refine stp ?_; intro K hK) | (apply hK; clear hK K) | refine stn ?_ | fail)
  all_goals (first | exact fun _ h => absurd h List.not_mem_nil | refine fin0 ?_)
  all_goals (rw [Vt, encVal_eq]; rfl)
theorem refNil_c : PC zP 75 [] (Vt nilVal) := by
  refine PCB.ob Tryz.func75 Tryz.ntmps75 Tryz.results75 ?_
  repeat' (first | (simp only [go_sem, zA, zB, zC, zD, zE, zF, zG, reduceCtorEq, zH, zI, zJ, zK, zL]; all_goals refine nf ?_) | (refine stp ?_; intro K hK) | (apply hK; clear hK K) | refine stn ?_ | fail)
  all_goals (first | exact fun _ h => absurd h List.not_mem_nil | refine fin0 ?_)
  all_goals (rw [Vt, encVal_eq]; rfl)
theorem copies_n (l : List Val) (hl : l.length ≤ 100000000) : PCN zP 74 [.one (.dat (.sl 7 (l.map encVal)))] (.one (.own 0 l.length)) (.row 7 (l.map encVal)) := by
  refine PCN.of_body 4 Tryz.func74 rfl (by decide) Tryz.ntmps74 Tryz.results74 rfl rfl ?_
  refine AWP.ghQ ?_
  repeat' (first | (simp only [go_sem, zA, zB, zC, zD, zE, zF, zG, reduceCtorEq, zH, zI, zJ, zK, zL, lB]; all_goals refine nf ?_) | (refine stp ?_; intro K hK) | (apply hK; clear hK K) | refine stn ?_ | (with_reducible refine ⟨(by omega : _ ≤ _), ?_⟩) | fail)
  refine ⟨_, Gh.refl _, ?_⟩
  simp only [go_sem, zA, zB, zC, zD, zE, zF, zG, reduceCtorEq, zH, zI, zJ, zK, zL, lB]
  first | exact ⟨rfl, fun x hx => hx⟩ | exact fun x hx => hx
theorem copies_c (l : List Val) (hl : l.length ≤ 100000000) : PC zP 74 [.one (.dat (.sl 7 (l.map encVal)))] (.one (.dat (.sl 7 (l.map encVal)))) := by
  refine PCB.ob Tryz.func74 Tryz.ntmps74 Tryz.results74 ?_
  refine AWP.ghQ ?_
  repeat' (first | (simp only [go_sem, zA, zB, zC, zD, zE, zF, zG, reduceCtorEq, zH, zI, zJ, zK, zL, lB]; all_goals refine nf ?_) | (refine stp ?_; intro K hK) | (apply hK; clear hK K) | refine stn ?_ | (with_reducible refine ⟨(by omega : _ ≤ _), ?_⟩) | fail)
  refine ⟨_, Gh.fz 4, ?_⟩
  simp only [go_sem, zA, zB, zC, zD, zE, zF, zG, reduceCtorEq, zH, zI, zJ, zK, zL, lB]
  all_goals (first | exact fun _ h => absurd h List.not_mem_nil | refine fin0 ?_)
  all_goals rfl
theorem refTuple_c (l : List Val) (hl : l.length ≤ 100000000) : PC zP 30 [.one (.dat (.sl 7 (l.map encVal)))] (Vt (tupVal l)) := by
  have h := copies_c l hl
  refine PCB.ob Tryz.func30 Tryz.ntmps30 Tryz.results30 ?_
  repeat' (first | (simp only [go_sem, zA, zB, zC, zD, zE, zF, zG, reduceCtorEq, zH, zI, zJ, zK, zL]; all_goals refine nf ?_) | (refine stp ?_; intro K hK) | (apply hK; clear hK K) | refine stn ?_ | (with_reducible refine ⟨_, h, ?_⟩) | refine stq ?_ | fail)
  all_goals (first | exact fun _ h => absurd h List.not_mem_nil | refine fin0 ?_)
  all_goals (rw [Vt, encVal_eq]; rfl)
theorem refCons_c (a b : Val) : PC zP 31 [Vt a, Vt b] (Vt (consVal a b)) := by
  refine PCB.ob Tryz.func31 Tryz.ntmps31 Tryz.results31 ?_
  repeat' (first | (simp only [go_sem, zA, zB, zC, zD, zE, zF, zG, reduceCtorEq, zH, zI, zJ, zK, zL]; all_goals refine nf ?_) | (refine stp ?_; intro K hK) | (apply hK; clear hK K) | refine stn ?_ | refine stq ?_ | fail)
  all_goals (first | exact fun _ h => absurd h List.not_mem_nil | refine fin0 ?_)
  all_goals (rw [Vt, encVal_eq (consVal a b)]; rfl)
def leafK (k : Int) (s : Src) : Val × Src :=
  bif decide (k = 0) then (intVal (numV s), nextS s 10) else
  bif decide (k = 1) then (atomVal (atomV s), nextS s 4) else
  bif decide (k = 2) then (strVal (wordV s), nextS s 4) else
  bif decide (k = 3) then (pidVal (nextV s 3), nextS s 3) else
  bif decide (k = 4) then (nilVal, s) else (tupVal [], s)
def leafV (s : Src) : Val × Src := leafK (nextV s 6) (nextS s 6)
theorem tup_nil : PC zP 30 [.one (.dat (.sl 7 []))] (Vt (tupVal [])) := by
  have h := refTuple_c [] (by simp)
  rw [List.map_nil] at h
  exact h
theorem leaf_c (s : Src) (hs : s.ok) : PCB zP 82 [Sp pin] [(pin, srcB s)] (Vt (leafV s).1) [(pin, srcB (leafV s).2)] := by
 have hv := nextV_in s (n := 6) (by omega)
 have hk : nextV s 6 = 0 ∨ nextV s 6 = 1 ∨ nextV s 6 = 2 ∨ nextV s 6 = 3 ∨ nextV s 6 = 4 ∨ nextV s 6 = 5 := by omega
 have hs1 := ok_next hs 6
 rcases hk with hk | hk | hk | hk | hk | hk
 all_goals (rw [leafV, hk])
 all_goals
  refine PCB.ob Tryz.func82 Tryz.ntmps82 Tryz.results82 ?_
  repeat' (first | (simp only [go_sem, zA, zB, zC, zD, zE, zF, zG, reduceCtorEq, zH, zI, zJ, zK, zL, pin, hk]; all_goals refine nf ?_) | (refine stp ?_; intro K hK) | (apply hK; clear hK K) | refine stn ?_ | (with_reducible first | refine ⟨_, refInt_c _, ?_⟩ | refine ⟨_, refAtomV_c _, ?_⟩ | refine ⟨_, refString_c _, ?_⟩ | refine ⟨_, refPid_c _, ?_⟩ | refine ⟨_, refNil_c, ?_⟩ | refine ⟨_, tup_nil, ?_⟩) | (refine ⟨1000000, _, _, _, next_k 1000000 _ (by repeat (first | with_reducible exact hs | with_reducible refine ok_next ?_ _)) _ (by omega), rfl, ?_⟩) | (refine ⟨1000000, _, _, _, number_k 1000000 _ hs1, rfl, ?_⟩) | (refine ⟨1000000, _, _, _, atomName_k 1000000 _ hs1, rfl, ?_⟩) | (refine ⟨1000000, _, _, _, word_k 1000000 _ hs1, rfl, ?_⟩) | refine stq ?_ | (clear hK K))
 all_goals (first | refine ⟨rfl, fun x hx => ?_⟩ | refine fun x hx => ?_)
 all_goals (simp only [List.mem_singleton] at hx; subst hx; simp [leafK, pin])
theorem leaf_k (k : Nat) (s : Src) (hs : s.ok) : PCBk zP 82 [Sp k] k (srcB s) (Vt (leafV s).1) (srcB (leafV s).2) := PCBk.mk k (leaf_c s hs)
theorem ok_leafK (k : Int) {s : Src} (h : s.ok) : (leafK k s).2.ok := by
  unfold leafK
  cases decide (k = 0) <;> cases decide (k = 1) <;> cases decide (k = 2) <;> cases decide (k = 3) <;> cases decide (k = 4) <;> first | exact h | exact ok_next h _
theorem ok_leaf {s : Src} (h : s.ok) : (leafV s).2.ok := ok_leafK _ (ok_next h 6)
def labL : List (List UInt8) := [[65], [66], [67]]
def labelV (s : Src) : List UInt8 := labL.getD (nextV s 3).toNat []
theorem label_c (s : Src) (hs : s.ok) : PCB zP 96 [Sp pin] [(pin, srcB s)] (S (labelV s)) [(pin, srcB (nextS s 3))] := by
  refine PCB.ob Tryz.func96 Tryz.ntmps96 Tryz.results96 ?_
  have hv := nextV_in s (n := 3) (by omega)
  repeat' (first | (simp only [go_sem, zA, zB, zC, zD, zE, zF, zG, reduceCtorEq, zH, zI, zJ, zK, zL, pin]; all_goals refine nf ?_) | (refine stp ?_; intro K hK) | (apply hK; clear hK K) | refine stn ?_ | (refine ⟨1000000, _, _, _, next_k 1000000 s hs 3 (by omega), rfl, ?_⟩) | ( refine ⟨hv.1, [.str (labelV s)], lit_get (fun x => [C.str x]) labL [] hv, ?_⟩) | refine stq ?_ | fail)
  all_goals exact fun x hx => hx
theorem label_k (k : Nat) (s : Src) (hs : s.ok) : PCBk zP 96 [Sp k] k (srcB s) (S (labelV s)) (srcB (nextS s 3)) := PCBk.mk k (label_c s hs)
def tw {α : Type} (p : α → Bool) : List α → Nat
  | [] => 0
  | x :: l => bif p x then 1 + tw p l else 0
theorem tw_step {α : Type} {p : α → Bool} {l : List α} {k : Nat} {x : α} (hx : l[k]? = some x) : tw p (l.drop k) = bif p x then 1 + tw p (l.drop (k + 1)) else 0 := by
  obtain ⟨h1, e1⟩ := List.getElem?_eq_some_iff.1 hx
  rw [List.drop_eq_getElem_cons h1, e1]; rfl
theorem tw_end {α : Type} {p : α → Bool} {l : List α} : tw p (l.drop l.length) = 0 := by rw [List.drop_length]; rfl
def putAt {α : Type} (k : Nat) (x : α) (l : List α) : List α := l.take k ++ [x] ++ l.drop k
theorem putAt_len {α : Type} (k : Nat) (x : α) (l : List α) : (putAt k x l).length = l.length + 1 := by
  unfold putAt; simp; omega
def insS (s : List (List UInt8)) (x : List UInt8) : List (List UInt8) :=
  bif decide (s[tw (fun y => Op.bytesLess y x) s]? = some x) then s else putAt (tw (fun y => Op.bytesLess y x) s) x s
def sortedV (l : List (List UInt8)) : List (List UInt8) := l.foldl insS []
theorem foldl_take {α β : Type} {f : β → α → β} {b : β} {l : List α} {k : Nat} {x : α} (hx : l[k]? = some x) : (l.take (k + 1)).foldl f b = f ((l.take k).foldl f b) x := by
  rw [List.take_add_one, hx]; simp
theorem insS_len (s : List (List UInt8)) (x : List UInt8) : (insS s x).length ≤ s.length + 1 := by
  unfold insS; cases decide (s[tw (fun y => Op.bytesLess y x) s]? = some x) <;> simp [putAt_len]
theorem take_map' {α : Type} (f : α → List C) (l : List α) (k : Nat) : List.take k (l.map f) = (l.take k).map f := by rw [List.map_take]
theorem drop_map' {α : Type} (f : α → List C) (l : List α) (k : Nat) : List.drop k (l.map f) = (l.drop k).map f := by rw [List.map_drop]
theorem str_put (s : List (List UInt8)) (k : Nat) (x : List UInt8) : (List.map Sx.encStr (s.take k) ++ [[C.str x]]) ++ List.map Sx.encStr (s.drop k) = (putAt k x s).map Sx.encStr := by
  unfold putAt; simp [Sx.encStr]
theorem str_end (s : List (List UInt8)) (x : List UInt8) : (List.map Sx.encStr s ++ [[C.str x]]) ++ List.map Sx.encStr (s.drop s.length) = (putAt s.length x s).map Sx.encStr := by
  unfold putAt; simp [Sx.encStr]
theorem sorted_c (l : List (List UInt8)) (hl : l.length ≤ 1000000) : PC zP 73 [.one (.dat (.sl 1 (l.map Sx.encStr)))] (.one (.dat (.sl 1 ((sortedV l).map Sx.encStr)))) := by
 refine PCB.ob Tryz.func73 Tryz.ntmps73 Tryz.results73 ?_
 repeat' (first | (simp only [go_sem, zA, zB, zC, zD, zE, zF, zG, reduceCtorEq, zH, zI, zJ, zK, zL, lB]; all_goals refine nf ?_) | (refine stp ?_; intro K hK) | (apply hK; clear hK K) | refine stn ?_ | fail)
 refine AWP.gh (Gh.nilrow 3 900 rfl rfl rfl rfl) ?_
 refine AWP.gh (Gh.fz 900) ?_
 refine sts ?_
 refine AWP.len 0 rfl fun hlen0 => ?_
 (try rw [lB] at hlen0)
 refine AWP.range (S := List (List UInt8)) (l) Sx.encStr (fun k s => (4, I .i64 (k : Nat)) :: [(3, .one (.dat (.sl 1 (s.map Sx.encStr))))]) (fun k s => []) [0] [] (fun k s => Is s ((l.take k).foldl insS []) ∧ s.length ≤ k) ([]) (by refine sts ?_; exact Gh.tt []) ?_ ?_ ?_
 ·exact ⟨rfl, Nat.le_refl _⟩
 ·intro k s x hlt hx hx' hb hok
  obtain ⟨hok, hsl⟩ := hok
  refine sts ?_
  repeat' (first | (simp only [go_sem, zA, zB, zC, zD, zE, zF, zG, reduceCtorEq, zH, zI, zJ, zK, zL, lB, hb]; all_goals refine nf ?_) | (refine stp ?_; intro K hK) | (apply hK; clear hK K) | refine stn ?_ | fail)
  refine AWP.loopF (X := Nat) (fun j => [(5, I .i64 j)]) (fun j => []) [0, 3, 4] [] (fun j => j ≤ s.length ∧ tw (fun y => Op.bytesLess y x) s = j + tw (fun y => Op.bytesLess y x) (s.drop j)) (fun j => s.length - j) (0) (by refine sts ?_; exact Gh.tt []) ?_ ?_
  ·exact ⟨Nat.zero_le _, by simp⟩
  rintro j ⟨hj, hp⟩
  refine sts ?_
  by_cases hjl : j < s.length
  ·obtain ⟨y, hy, hy', hbj, _⟩ := at_lt (enc := Sx.encStr) hjl
   rw [tw_step hy] at hp
   cases hz : Op.bytesLess y x <;> simp only [hz, cond_true, cond_false, Nat.add_zero] at hp
   ·cases hyx : decide (y = x)
    ·
     repeat' (first | (simp only [go_sem, zA, zB, zC, zD, zE, zF, zG, reduceCtorEq, zH, zI, zJ, zK, zL, lB, hbj, hb, hz, hyx, Sx.encStr, Int.toNat_natCast, List.drop_zero, lK, take_map', drop_map', str_put, str_end]; all_goals refine nf ?_) | (refine stp ?_; intro K hK) | (apply hK; clear hK K) | refine stn ?_ | (with_reducible first | refine ⟨by omega, Sx.encStr x, hx', ?_⟩ | refine ⟨by omega, Sx.encStr y, hy', ?_⟩ | (refine ⟨(by first | omega | (simp only [lA, lB, List.length_take, List.length_drop, lC, List.length_nil, List.length_replicate]; omega) : _ ≤ _), ?_⟩)) | (with_reducible refine AWP.genR (id := 10) [6, 10] [48] mixed (by kernel_rfl) fun K hK => ?_; simp only [Bx.outs, Bx.drop, cond_true, cond_false, Nat.reduceBEq, go_sem]) | (refine stp' ?_; intro K hK) | refine stq ?_ | (clear hK K))
     all_goals (rw [wrap_succ hlt hlen0])
     all_goals (refine ⟨putAt j x s, ?_, ?_⟩)
     all_goals (try first
      | (refine Gh.trans (Gh.freeze 59 rfl rfl (by simp only [go_sem, zA, zB, zC, zD, zE, zF, zG, reduceCtorEq, zH, zI, zJ, zK, zL, lB, lA]) (by simp only [go_sem, zA, zB, zC, zD, zE, zF, zG, reduceCtorEq, zH, zI, zJ, zK, zL, lB, lA])) ?_; simp only [go_sem, zA, zB, zC, zD, zE, zF, zG, reduceCtorEq, zH, zI, zJ, zK, zL, lB, lA]; exact Gh.tt [])
      | (exact Gh.tt []))
     all_goals (refine ⟨?_, by rw [putAt_len]; omega⟩; rw [Is, foldl_take hx, ← hok, insS, hp, hy]; rw [show decide (some y = some x) = decide (y = x) from by simp, hyx]; try rfl)
    ·
     repeat' (first | (simp only [go_sem, zA, zB, zC, zD, zE, zF, zG, reduceCtorEq, zH, zI, zJ, zK, zL, lB, hbj, hb, hz, hyx, Sx.encStr]; all_goals refine nf ?_) | (refine stp ?_; intro K hK) | (apply hK; clear hK K) | refine stn ?_ | (with_reducible first | refine ⟨by omega, Sx.encStr x, hx', ?_⟩ | refine ⟨by omega, Sx.encStr y, hy', ?_⟩) | (refine stp' ?_; intro K hK) | (clear hK K))
     all_goals (rw [wrap_succ hlt hlen0])
     all_goals (refine ⟨s, ?_, Gh.tt []⟩)
     all_goals (refine ⟨?_, by omega⟩; rw [Is, foldl_take hx, ← hok, insS, hp, hy]; rw [show decide (some y = some x) = decide (y = x) from by simp, hyx]; try rfl)
   ·
    repeat' (first | (simp only [go_sem, zA, zB, zC, zD, zE, zF, zG, reduceCtorEq, zH, zI, zJ, zK, zL, lB, hbj, hz, Sx.encStr]; all_goals refine nf ?_) | (refine stp ?_; intro K hK) | (apply hK; clear hK K) | refine stn ?_ | (with_reducible first | refine ⟨by omega, Sx.encStr x, hx', ?_⟩ | refine ⟨by omega, Sx.encStr y, hy', ?_⟩) | (refine stp' ?_; intro K hK) | (clear hK K))
    all_goals (rw [wrap_succ hjl (by omega)])
    all_goals (refine ⟨j + 1, by omega, ⟨by omega, by omega⟩, Gh.tt []⟩)
  ·have hjs : j = s.length := by omega
   subst hjs
   have hbj : decide ((s.length : Int) < (s.length : Int)) = false := by simp
   rw [tw_end, Nat.add_zero] at hp
   have hnone : s[s.length]? = none := by simp
   repeat' (first | (simp only [go_sem, zA, zB, zC, zD, zE, zF, zG, reduceCtorEq, zH, zI, zJ, zK, zL, lB, hbj, hb, Sx.encStr, Int.toNat_natCast, List.drop_zero, lK, take_map', drop_map', str_put, str_end]; all_goals refine nf ?_) | (refine stp ?_; intro K hK) | (apply hK; clear hK K) | refine stn ?_ | (with_reducible first | refine ⟨by omega, Sx.encStr x, hx', ?_⟩ | (refine ⟨(by first | omega | (simp only [lA, lB, List.length_take, List.length_drop, lC, List.length_nil, List.length_replicate]; omega) : _ ≤ _), ?_⟩)) | (with_reducible refine AWP.genR (id := 10) [6, 10] [48] mixed (by kernel_rfl) fun K hK => ?_; simp only [Bx.outs, Bx.drop, cond_true, cond_false, Nat.reduceBEq, go_sem]) | (refine stp' ?_; intro K hK) | refine stq ?_ | (clear hK K))
   all_goals (rw [wrap_succ hlt hlen0])
   all_goals (refine ⟨putAt s.length x s, ?_, ?_⟩)
   all_goals (try first
    | (refine Gh.trans (Gh.freeze 59 rfl rfl (by simp only [go_sem, zA, zB, zC, zD, zE, zF, zG, reduceCtorEq, zH, zI, zJ, zK, zL, lB, lA]) (by simp only [go_sem, zA, zB, zC, zD, zE, zF, zG, reduceCtorEq, zH, zI, zJ, zK, zL, lB, lA])) ?_; simp only [go_sem, zA, zB, zC, zD, zE, zF, zG, reduceCtorEq, zH, zI, zJ, zK, zL, lB, lA]; exact Gh.tt [])
    | (exact Gh.tt []))
   all_goals (refine ⟨?_, by rw [putAt_len]; omega⟩; rw [Is, foldl_take hx, ← hok, insS, hp, hnone]; try rfl)
 ·intro s hb hok
  refine sts ?_
  repeat' (first | (simp only [go_sem, zA, zB, zC, zD, zE, zF, zG, reduceCtorEq, zH, zI, zJ, zK, zL, lB, hb]; all_goals refine nf ?_) | (refine stp ?_; intro K hK) | (apply hK; clear hK K) | refine stn ?_ | (clear hK K))
  all_goals (first | exact fun _ h => absurd h List.not_mem_nil | refine fin0 ?_)
  all_goals (rw [show s = _ from hok.1, lK]; rfl)
end Go.Proofs.YthbcdhfiibpeaaaGreat







namespace Go.Proofs.YthbcdhfiibpeaaaGreat
open Go Go.Sx
def labelsV (s : Src) : List (List UInt8) × Src :=
  bif decide (nextV s 3 = 1) then
    (bif decide (nextV (nextS (nextS s 3) 3) 2 = 1) then (sortedV [labelV (nextS s 3), labelV (nextS (nextS (nextS s 3) 3) 2)], nextS (nextS (nextS (nextS s 3) 3) 2) 3)
     else (sortedV [labelV (nextS s 3)], nextS (nextS (nextS s 3) 3) 2))
  else ([], nextS s 3)
theorem ok_labels {s : Src} (h : s.ok) : (labelsV s).2.ok := by
  unfold labelsV
  cases decide (nextV s 3 = 1) <;> cases decide (nextV (nextS (nextS s 3) 3) 2 = 1) <;> (repeat (first | exact h | refine ok_next ?_ _))
theorem labels_c (s : Src) (hs : s.ok) : PCB zP 56 [Sp pin] [(pin, srcB s)] (.one (.dat (.sl 1 ((labelsV s).1.map Sx.encStr)))) [(pin, srcB (labelsV s).2)] := by
  have h0 := sorted_c [] (by simp)
  have h1 := sorted_c [labelV (nextS s 3)] (by simp)
  have h2 := sorted_c [labelV (nextS s 3), labelV (nextS (nextS (nextS s 3) 3) 2)] (by simp)
  simp only [List.map_cons, List.map_nil, Sx.encStr] at h0 h1 h2
  refine PCB.ob Tryz.func56 Tryz.ntmps56 Tryz.results56 ?_
  repeat' (first | (simp only [go_sem, zA, zB, zC, zD, zE, zF, zG, reduceCtorEq, zH, zI, zJ, zK, zL, pin]; all_goals refine nf ?_) | (refine stp ?_; intro K hK) | (apply hK; clear hK K) | refine stn ?_ | (refine AWP.cnd ?_ ?_ <;> intro h <;> (try simp only [zM, zN] at h)) | (with_reducible first | refine ⟨_, h0, ?_⟩ | refine ⟨_, h1, ?_⟩ | refine ⟨_, h2, ?_⟩) | (refine ⟨1000000, _, _, _, next_k 1000000 _ (by repeat (first | with_reducible exact hs | with_reducible refine ok_next ?_ _)) _ (by omega), rfl, ?_⟩) | (refine ⟨1000000, _, _, _, label_k 1000000 _ (by repeat (first | with_reducible exact hs | with_reducible refine ok_next ?_ _)), rfl, ?_⟩) | refine stq ?_ | fail)
  all_goals (simp only [labelsV, *, cond_true, cond_false])
  all_goals (first | refine ⟨rfl, fun x hx => ?_⟩ | refine ⟨trivial, fun x hx => ?_⟩)
  all_goals (simp only [List.mem_singleton] at hx; subst hx; simp [pin])
theorem labels_k (k : Nat) (s : Src) (hs : s.ok) : PCBk zP 56 [Sp k] k (srcB s) (.one (.dat (.sl 1 ((labelsV s).1.map Sx.encStr)))) (srcB (labelsV s).2) := PCBk.mk k (labels_c s hs)
abbrev Ent := List Val × Bool × Val
def eqAtE (s : List Ent) (k : Nat) (x : Ent) : Bool := match s[k]? with
  | some y => decide (entC y x = 0)
  | none => false
def insE (s : List Ent) (x : Ent) : List Ent :=
  bif eqAtE s (tw (fun y => decide (entC y x < 0)) s) x then s else putAt (tw (fun y => decide (entC y x < 0)) s) x s
def entriesV (l : List Ent) : List Ent := l.foldl insE []
theorem ent_put (s : List Ent) (k : Nat) (x : Ent) : (List.map encEnt (s.take k) ++ [encEnt x]) ++ List.map encEnt (s.drop k) = (putAt k x s).map encEnt := by
  unfold putAt; simp
theorem ent_end (s : List Ent) (x : Ent) : (List.map encEnt s ++ [encEnt x]) ++ List.map encEnt (s.drop s.length) = (putAt s.length x s).map encEnt := by
  unfold putAt; simp
theorem refEnt_c (a b : Ent) : PC zP 133 [.st (encEnt a), .st (encEnt b)] (I .i64 (entC a b)) := refEntries_c a b (fun x _ y => refCompare_c x y) (fun y => refCompare_c _ y)
theorem entries_c (l : List Ent) (hl : l.length ≤ 1000000) : PC zP 136 [.one (.dat (.sl 9 (l.map encEnt)))] (.one (.dat (.sl 9 ((entriesV l).map encEnt)))) := by
 refine PCB.ob Tryz.func136 Tryz.ntmps136 Tryz.results136 ?_
 repeat' (first | (simp only [go_sem, zA, zB, zC, zD, zE, zF, zG, reduceCtorEq, zH, zI, zJ, zK, zL, lB]; all_goals refine nf ?_) | (refine stp ?_; intro K hK) | (apply hK; clear hK K) | refine stn ?_ | fail)
 refine AWP.gh (Gh.nilrow 3 900 rfl rfl rfl rfl) ?_
 refine AWP.gh (Gh.fz 900) ?_
 refine sts ?_
 refine AWP.len 0 rfl fun hlen0 => ?_
 (try rw [lB] at hlen0)
 refine AWP.range (S := List Ent) (l) encEnt (fun k s => (4, I .i64 (k : Nat)) :: [(3, .one (.dat (.sl 9 (s.map encEnt))))]) (fun k s => []) [0] [] (fun k s => Is s ((l.take k).foldl insE []) ∧ s.length ≤ k) ([]) (by refine sts ?_; exact Gh.tt []) ?_ ?_ ?_
 ·exact ⟨rfl, Nat.le_refl _⟩
 ·intro k s x hlt hx hx' hb hok
  obtain ⟨hok, hsl⟩ := hok
  refine sts ?_
  repeat' (first | (simp only [go_sem, zA, zB, zC, zD, zE, zF, zG, reduceCtorEq, zH, zI, zJ, zK, zL, lB, hb]; all_goals refine nf ?_) | (refine stp ?_; intro K hK) | (apply hK; clear hK K) | refine stn ?_ | fail)
  refine AWP.loopF (X := Nat) (fun j => [(5, I .i64 j)]) (fun j => []) [0, 3, 4] [] (fun j => j ≤ s.length ∧ tw (fun y => decide (entC y x < 0)) s = j + tw (fun y => decide (entC y x < 0)) (s.drop j)) (fun j => s.length - j) (0) (by refine sts ?_; exact Gh.tt []) ?_ ?_
  ·exact ⟨Nat.zero_le _, by simp⟩
  rintro j ⟨hj, hp⟩
  refine sts ?_
  by_cases hjl : j < s.length
  ·obtain ⟨y, hy, hy', hbj, _⟩ := at_lt (enc := encEnt) hjl
   rw [tw_step hy] at hp
   have hcc := refEnt_c y x
   cases hz : decide (entC y x < 0) <;> simp only [hz, cond_true, cond_false, Nat.add_zero] at hp
   ·cases hyx : decide (entC y x = 0)
    ·
     repeat' (first | (simp only [go_sem, zA, zB, zC, zD, zE, zF, zG, reduceCtorEq, zH, zI, zJ, zK, zL, lB, hbj, hb, hz, hyx, Int.toNat_natCast, List.drop_zero, lK, take_map', drop_map', ent_put, ent_end]; all_goals refine nf ?_) | (refine stp ?_; intro K hK) | (apply hK; clear hK K) | refine stn ?_ | (with_reducible first | refine ⟨_, hcc, ?_⟩ | refine ⟨by omega, encEnt x, hx', ?_⟩ | refine ⟨by omega, encEnt y, hy', ?_⟩ | (refine ⟨(by first | omega | (simp only [lA, lB, List.length_take, List.length_drop, lC, List.length_nil, List.length_replicate]; omega) : _ ≤ _), ?_⟩)) | (with_reducible refine AWP.genR (id := 10) [6, 10] [50] mixed (by kernel_rfl) fun K hK => ?_; simp only [Bx.outs, Bx.drop, cond_true, cond_false, Nat.reduceBEq, go_sem]) | (refine stp' ?_; intro K hK) | refine stq ?_ | (clear hK K))
     all_goals (rw [wrap_succ hlt hlen0])
     all_goals (refine ⟨putAt j x s, ?_, ?_⟩)
     all_goals (try first
      | (refine Gh.trans (Gh.freeze 61 rfl rfl (by simp only [go_sem, zA, zB, zC, zD, zE, zF, zG, reduceCtorEq, zH, zI, zJ, zK, zL, lB, lA]) (by simp only [go_sem, zA, zB, zC, zD, zE, zF, zG, reduceCtorEq, zH, zI, zJ, zK, zL, lB, lA])) ?_; simp only [go_sem, zA, zB, zC, zD, zE, zF, zG, reduceCtorEq, zH, zI, zJ, zK, zL, lB, lA]; exact Gh.tt [])
      | (exact Gh.tt []))
     all_goals (refine ⟨?_, by rw [putAt_len]; omega⟩; rw [Is, foldl_take hx, ← hok, insE, hp]; simp only [eqAtE, hy, hyx]; try rfl)
    ·
     repeat' (first | (simp only [go_sem, zA, zB, zC, zD, zE, zF, zG, reduceCtorEq, zH, zI, zJ, zK, zL, lB, hbj, hb, hz, hyx]; all_goals refine nf ?_) | (refine stp ?_; intro K hK) | (apply hK; clear hK K) | refine stn ?_ | (with_reducible first | refine ⟨_, hcc, ?_⟩ | refine ⟨by omega, encEnt x, hx', ?_⟩ | refine ⟨by omega, encEnt y, hy', ?_⟩) | (refine stp' ?_; intro K hK) | (clear hK K))
     all_goals (rw [wrap_succ hlt hlen0])
     all_goals (refine ⟨s, ?_, Gh.tt []⟩)
     all_goals (refine ⟨?_, by omega⟩; rw [Is, foldl_take hx, ← hok, insE, hp]; simp only [eqAtE, hy, hyx]; try rfl)
   ·
    repeat' (first | (simp only [go_sem, zA, zB, zC, zD, zE, zF, zG, reduceCtorEq, zH, zI, zJ, zK, zL, lB, hbj, hz]; all_goals refine nf ?_) | (refine stp ?_; intro K hK) | (apply hK; clear hK K) | refine stn ?_ | (with_reducible first | refine ⟨_, hcc, ?_⟩ | refine ⟨by omega, encEnt x, hx', ?_⟩ | refine ⟨by omega, encEnt y, hy', ?_⟩) | (refine stp' ?_; intro K hK) | (clear hK K))
    all_goals (rw [wrap_succ hjl (by omega)])
    all_goals (refine ⟨j + 1, by omega, ⟨by omega, by omega⟩, Gh.tt []⟩)
  ·have hjs : j = s.length := by omega
   subst hjs
   have hbj : decide ((s.length : Int) < (s.length : Int)) = false := by simp
   rw [tw_end, Nat.add_zero] at hp
   have hnone : s[s.length]? = none := by simp
   repeat' (first | (simp only [go_sem, zA, zB, zC, zD, zE, zF, zG, reduceCtorEq, zH, zI, zJ, zK, zL, lB, hbj, hb, Int.toNat_natCast, List.drop_zero, lK, take_map', drop_map', ent_put, ent_end]; all_goals refine nf ?_) | (refine stp ?_; intro K hK) | (apply hK; clear hK K) | refine stn ?_ | (with_reducible first | refine ⟨by omega, encEnt x, hx', ?_⟩ | (refine ⟨(by first | omega | (simp only [lA, lB, List.length_take, List.length_drop, lC, List.length_nil, List.length_replicate]; omega) : _ ≤ _), ?_⟩)) | (with_reducible refine AWP.genR (id := 10) [6, 10] [50] mixed (by kernel_rfl) fun K hK => ?_; simp only [Bx.outs, Bx.drop, cond_true, cond_false, Nat.reduceBEq, go_sem]) | (refine stp' ?_; intro K hK) | refine stq ?_ | (clear hK K))
   all_goals (rw [wrap_succ hlt hlen0])
   all_goals (refine ⟨putAt s.length x s, ?_, ?_⟩)
   all_goals (try first
    | (refine Gh.trans (Gh.freeze 61 rfl rfl (by simp only [go_sem, zA, zB, zC, zD, zE, zF, zG, reduceCtorEq, zH, zI, zJ, zK, zL, lB, lA]) (by simp only [go_sem, zA, zB, zC, zD, zE, zF, zG, reduceCtorEq, zH, zI, zJ, zK, zL, lB, lA])) ?_; simp only [go_sem, zA, zB, zC, zD, zE, zF, zG, reduceCtorEq, zH, zI, zJ, zK, zL, lB, lA]; exact Gh.tt [])
    | (exact Gh.tt []))
   all_goals (refine ⟨?_, by rw [putAt_len]; omega⟩; rw [Is, foldl_take hx, ← hok, insE, hp]; simp only [eqAtE, hnone]; try rfl)
 ·intro s hb hok
  refine sts ?_
  repeat' (first | (simp only [go_sem, zA, zB, zC, zD, zE, zF, zG, reduceCtorEq, zH, zI, zJ, zK, zL, lB, hb]; all_goals refine nf ?_) | (refine stp ?_; intro K hK) | (apply hK; clear hK K) | refine stn ?_ | (clear hK K))
  all_goals (first | exact fun _ h => absurd h List.not_mem_nil | refine fin0 ?_)
  all_goals (rw [show s = _ from hok.1, lK]; rfl)
end Go.Proofs.YthbcdhfiibpeaaaGreat


