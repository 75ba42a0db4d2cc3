/- Lemmas of the proof. -/
import Derived.Test.YthbcdhfiibpeaaaGreatTf1
import Derived.Test.YthbcdhfiibpeaaaGreatTf2
import Derived.Test.YthbcdhfiibpeaaaGreatTf3
open Nat renaming reduceBEq → zA, reduceBNe → zB, reduceAdd → zC, reduceSub → zD, reduceMul → zE, reduceLeDiff → zF, reduceLT → zG, reduceEqDiff → zH
open Int renaming reduceToNat → zI, reduceLE → zJ, reduceLT → zK, reduceEq → zL
open Bool renaming not_eq_true' → zM, not_eq_false' → zN
set_option linter.unusedSimpArgs false
set_option linter.unusedVariables false
set_option maxRecDepth 20000
set_option maxHeartbeats 64000000


namespace Go.Proofs.YthbcdhfiibpeaaaGreat
open Go Go.Sx
theorem chainC_neg (a b : Int) : chainC (-a) (-b) = - chainC a b := by
  unfold chainC
  have : decide (-a = 0) = decide (a = 0) := by rw [← Bool.coe_iff_coe]; simp
  rw [this]
  cases decide (a = 0) <;> rfl
theorem firstC_neg {α : Type} {f : α → α → Int} : ∀ (a b : List α), (∀ x ∈ a, ∀ y ∈ b, f y x = - f x y) → firstC f b a = - firstC f a b
 | [], [], _ => by simp [firstC]
 | [], _ :: _, _ => by simp [firstC]
 | _ :: _, [], _ => by simp [firstC]
 | x :: a, y :: b, h => by
  have h1 := h x List.mem_cons_self y List.mem_cons_self
  have ih := firstC_neg a b fun u hu w hw => h u (List.mem_cons_of_mem _ hu) w (List.mem_cons_of_mem _ hw)
  simp only [firstC]
  rw [h1, ih]
  have : decide (-f x y = 0) = decide (f x y = 0) := by rw [← Bool.coe_iff_coe]; simp
  rw [this]
  cases decide (f x y = 0) <;> rfl
theorem lenC_neg (a b : Nat) (u v : Int) (h : v = -u) : (bif decide (cmpI (b : Int) (a : Int) = 0) then v else cmpI (b : Int) (a : Int)) = - (bif decide (cmpI (a : Int) (b : Int) = 0) then u else cmpI (a : Int) (b : Int)) := by
  rw [cmpI_anti (a : Int) (b : Int), h]
  have : decide (-cmpI (a : Int) (b : Int) = 0) = decide (cmpI (a : Int) (b : Int) = 0) := by rw [← Bool.coe_iff_coe]; simp
  rw [this]
  cases decide (cmpI (a : Int) (b : Int) = 0) <;> rfl
mutual
theorem valC_anti : ∀ a b : Val, valC b a = - valC a b
 | ⟨kind, num, text, kids, keys, ents, labels⟩, ⟨kind', num', text', kids', keys', ents', labels'⟩ => by
  simp only [valC]
  rw [← chainC_neg, ← chainC_neg, ← chainC_neg, ← chainC_neg, ← chainC_neg, ← chainC_neg, cmpI_anti kind, cmpI_anti num, cmpB_anti text]
  congr 3
  congr 1
  ·unfold listCmp
   exact lenC_neg keys.length keys'.length _ _ (firstC_neg keys keys' fun x _ y _ => keyC_anti x y)
  ·congr 1
   ·exact lenC_neg kids.length kids'.length _ _ (valsC_anti kids kids')
   ·congr 1
    ·exact lenC_neg ents.length ents'.length _ _ (entsC_anti ents ents')
    ·unfold listCmp
     exact lenC_neg labels.length labels'.length _ _ (firstC_neg labels labels' fun x _ y _ => cmpB_anti x y)
theorem valsC_anti : ∀ a b : List Val, valsC b a = - valsC a b
 | [], [] => by simp [valsC]
 | [], _ :: _ => by simp [valsC]
 | _ :: _, [] => by simp [valsC]
 | x :: a, y :: b => by
  have h1 := valC_anti x y
  have ih := valsC_anti a b
  simp only [valsC]
  rw [h1, ih]
  have : decide (-valC x y = 0) = decide (valC x y = 0) := by rw [← Bool.coe_iff_coe]; simp
  rw [this]
  cases decide (valC x y = 0) <;> rfl
theorem entC_anti : ∀ a b : List Val × Bool × Val, entC b a = - entC a b
 | (args, fails, result), (args', fails', result') => by
  have h1 := valsC_anti args args'
  have h2 := valC_anti result result'
  simp only [entC]
  rw [← chainC_neg]
  congr 1
  ·exact lenC_neg args.length args'.length _ _ h1
  ·cases fails <;> cases fails' <;> simp [h2]
theorem entsC_anti : ∀ a b : List (List Val × Bool × Val), entsC b a = - entsC a b
 | [], [] => by simp [entsC]
 | [], _ :: _ => by simp [entsC]
 | _ :: _, [] => by simp [entsC]
 | x :: a, y :: b => by
  have h1 := entC_anti x y
  have ih := entsC_anti a b
  simp only [entsC]
  rw [h1, ih]
  have : decide (-entC x y = 0) = decide (entC x y = 0) := by rw [← Bool.coe_iff_coe]; simp
  rw [this]
  cases decide (entC x y = 0) <;> rfl
end
theorem tw_at {α : Type} {p : α → Bool} {l : List α} {y : α} (hy : l[tw p l]? = some y) : p y = false := by
 have h1 := tw_step (p := p) (k := tw p l) hy
 have h2 := tw_stop p l
 cases h : p y with
 | false => rfl
 | true =>
  rw [h2, h] at h1
  simp only [cond_true] at h1
  omega
theorem insE_asc (s : List Ent) (x : Ent) (h : ascB entC s = true) : ascB entC (insE s x) = true := by
 unfold insE
 cases hc : eqAtE s (tw (fun y => decide (entC y x < 0)) s) x with
 | true => exact h
 | false =>
  refine asc_put entC x s h fun y hy => ?_
  have h1 := tw_at hy
  simp only [decide_eq_false_iff_not] at h1
  unfold eqAtE at hc
  rw [hy] at hc
  have h2 := of_decide_eq_false hc
  have := entC_anti y x
  omega
theorem insE_all (p : Ent → Bool) (s : List Ent) (x : Ent) (h : s.all p = true) (hx : p x = true) : (insE s x).all p = true := by
  unfold insE
  cases eqAtE s (tw (fun y => decide (entC y x < 0)) s) x with
  | true => exact h
  | false => rw [cond_false, putAt_all, hx, h]; rfl
theorem entries_ok (p : Ent → Bool) (l : List Ent) (hl : l.all p = true) : ascB entC (entriesV l) = true ∧ (entriesV l).all p = true := by
 unfold entriesV
 have key : ∀ (l s : List Ent), l.all p = true → ascB entC s = true → s.all p = true → ascB entC (l.foldl insE s) = true ∧ (l.foldl insE s).all p = true := by
  intro l
  induction l with
  | nil => intro s _ h1 h2; exact ⟨h1, h2⟩
  | cons x l ih =>
   intro s h h1 h2
   rw [List.all_cons, Bool.and_eq_true] at h
   exact ih (insE s x) h.2 (insE_asc s x h1) (insE_all p s x h2 h.1)
 exact key l [] hl rfl rfl
theorem sorted_ok (l : List (List UInt8)) (hl : l.all isVarB = true) : labelsB (sortedV l) = true := by
 unfold sortedV labelsB
 have key : ∀ (l s : List (List UInt8)), l.all isVarB = true → ascB Lib.compareBytes s = true → s.all isVarB = true → (ascB Lib.compareBytes (l.foldl insS s) && (l.foldl insS s).all isVarB) = true := by
  intro l
  induction l with
  | nil => intro s _ h1 h2; rw [List.foldl_nil, h1, h2]; rfl
  | cons x l ih =>
   intro s h h1 h2
   rw [List.all_cons, Bool.and_eq_true] at h
   have e : (fun y => Op.bytesLess y x) = fun y => decide (Lib.compareBytes y x < 0) := by funext y; exact less_dec y x
   refine ih (insS s x) h.2 ?_ ?_
   ·unfold insS
    cases hc : decide (s[tw (fun y => Op.bytesLess y x) s]? = some x) with
    | true => exact h1
    | false =>
     rw [e] at hc ⊢
     refine asc_put Lib.compareBytes x s h1 fun y hy => ?_
     have h3 := tw_at hy
     simp only [decide_eq_false_iff_not] at h3
     have h4 : Lib.compareBytes y x ≠ 0 := fun h0 => by
      rw [cmpB_zero.1 h0] at hy
      exact (of_decide_eq_false hc) hy
     have := cmpB_anti y x
     omega
   ·unfold insS
    cases decide (s[tw (fun y => Op.bytesLess y x) s]? = some x) with
    | true => exact h2
    | false => rw [cond_false, putAt_all, h.1, h2]; rfl
 exact key l [] hl rfl rfl
theorem labelV_var (s : Src) : isVarB (labelV s) = true := by
  have hv := nextV_in s (n := 3) (by omega)
  have : (nextV s 3).toNat = 0 ∨ (nextV s 3).toNat = 1 ∨ (nextV s 3).toNat = 2 := by omega
  unfold labelV
  rcases this with h | h | h <;> rw [h] <;> decide
theorem labels_ok (s : Src) : labelsB (labelsV s).1 = true := by
 unfold labelsV
 cases decide (nextV s 3 = 1)
 ·rfl
 ·cases decide (nextV (nextS (nextS s 3) 3) 2 = 1)
  ·exact sorted_ok _ (by simp [labelV_var])
  ·exact sorted_ok _ (by simp [labelV_var])
theorem tree_label {v : Val} (h : treeB v = true) {ls : List (List UInt8)} (hl : labelsB ls = true) : treeB { v with labels := ls } = true := by
  obtain ⟨kind, num, text, kids, keys, ents, labels⟩ := v
  rw [treeB_kids] at h ⊢
  simp only [nodeB, Bool.and_eq_true] at h ⊢
  exact ⟨⟨h.1.1, hl, h.1.2.2⟩, h.2⟩
theorem tree_lab {r : Val × Src} (h : treeB r.1 = true) : treeB (lab r).1 = true := tree_label h (labels_ok _)
theorem tree_leafK (k : Int) (s : Src) : treeB (leafK k s).1 = true := by
 refine (leafK_ok k s).2 ?_
 unfold leafK
 cases decide (k = 0) <;> cases decide (k = 1) <;> cases decide (k = 2) <;> cases decide (k = 3) <;> cases decide (k = 4) <;> simp only [cond_true, cond_false] <;>
  (rw [plainB_eq]; simp [intVal, atomVal, strVal, pidVal, nilVal, tupVal])
theorem tree_tup {l : List Val} (h : ∀ v ∈ l, treeB v = true) (hl : l.length ≤ 4) : treeB (tupVal l) = true := by
  rw [treeB_kids]
  have hlb : labelsB [] = true := rfl
  have h4 : (l.length : Int) ≤ 4 := by omega
  have hn : nodeB (tupVal l) = true := by simp [nodeB, kKnown, badFields, bodyB, kNum, kText, kKids, kKeys, kEnts, tupVal, hlb, h4]
  have ha : l.all treeB = true := List.all_eq_true.2 h
  rw [hn]
  simp only [tupVal, ha]; rfl
theorem tree_tail {f0 : Src → Val × Src} (hf : ∀ s : Src, treeB (f0 s).1 = true) (big : Bool) (s : Src) : treeB (tailV f0 big s).1 = true ∧ ((tailV f0 big s).1.kind = 5 ∨ (tailV f0 big s).1.kind = 7) := by
  unfold tailV
  cases big <;> cases decide (nextV s 2 = 1) <;> simp only [cond_true, cond_false]
  · exact ⟨tree_nil, .inl rfl⟩
  · exact ⟨tree_nil, .inl rfl⟩
  · exact ⟨tree_nil, .inl rfl⟩
  · exact ⟨by rw [tree_cons _ _ (.inl rfl), hf, tree_nil]; rfl, .inr rfl⟩
theorem tree_mapV {ks : List KeyD} {l : List Val} (hf : ∀ v ∈ l, treeB v = true) (h0 : (mapV ks l).2 = 0) : treeB (mapV ks l).1 = true := by
 unfold mapV at *
 cases hl : decide ((ks.length : Int) = (l.length : Int)) <;> rw [hl] at h0 <;> simp only [cond_true, cond_false] at h0 ⊢
 ·simp at h0
 ·have hl2 : ks.length = l.length := by have := of_decide_eq_true hl; omega
  cases hv : ks.all validKeyB <;> rw [hv] at h0 <;> simp only [cond_true, cond_false] at h0 ⊢
  ·simp at h0
  ·have e1 : (ks.zip l).map (·.1) = ks := by rw [List.map_fst_zip]; omega
   have e2 : (ks.zip l).map (·.2) = l := by rw [List.map_snd_zip]; omega
   obtain ⟨ks', vs', e, h1, h2, h3, h4⟩ := mapGo_ok (ks.zip l) [] [] rfl rfl rfl (by rw [e1, hv]) h0
   rw [e2] at h4
   have htr := h4 treeB
   rw [e, treeB_kids]
   have hlb : labelsB [] = true := rfl
   have hall : l.all treeB = true := List.all_eq_true.2 hf
   rw [hall] at htr
   have hn : nodeB (mapVal ks' vs') = true := by simp [nodeB, kKnown, badFields, bodyB, kNum, kText, kKids, kKeys, kEnts, mapVal, hlb, mapB, h1, h2, h3]
   rw [hn]
   simp only [mapVal, htr]; rfl
theorem tree_fnV {n : Int} {l : List Ent} (hf : ∀ e ∈ l, treeE e = true) (h0 : (fnV n l).2 = 0) : treeB (fnV n l).1 = true := by
 unfold fnV at *
 cases hb : decide (n < 0) || decide (4 < n) <;> rw [hb] at h0 <;> simp only [cond_true, cond_false] at h0 ⊢
 ·cases ha : (l.all fun e => entB e n) <;> rw [ha] at h0 <;> simp only [cond_true, cond_false] at h0 ⊢
  ·simp at h0
  ·have h1 := entries_ok (fun e => entB e n) l ha
   have h2 := entries_ok treeE l (List.all_eq_true.2 hf)
   rw [Bool.or_eq_false_iff] at hb
   rw [treeB_kids]
   have hlb : labelsB [] = true := rfl
   have hn : nodeB (funVal n (entriesV l)) = true := by simp [nodeB, kKnown, badFields, bodyB, kNum, kText, kKids, kKeys, kEnts, funVal, hlb, funB, h1.1, h1.2]; exact hb
   rw [hn]
   simp only [funVal, h2.2]; rfl
 ·simp at h0
theorem tree_entry {f : Src → Val × Src} (hf : ∀ s : Src, treeB (f s).1 = true) (n : Nat) (s : Src) : treeE (entryV f n s).1 = true := by
  have h1 : ((listM f n s).1).all treeB = true := List.all_eq_true.2 fun v hv => listM_mem (p := fun v => treeB v = true) hf n s v hv
  unfold entryV
  cases decide (nextV (listM f n s).2 4 = 1) <;> simp only [cond_true, cond_false, treeE, h1, hf, Bool.or_true, Bool.true_or, Bool.and_self]
theorem tree_valueK {f1 f0 : Src → Val × Src} (h1 : ∀ s : Src, treeB (f1 s).1 = true) (h0 : ∀ s : Src, treeB (f0 s).1 = true) (big : Bool) (k : Int) (s : Src) : treeB (valueK f1 f0 big k s).1 = true := by
 have v4 := nextV_in s (n := 4) (by omega)
 unfold valueK
 cases decide (k = 1) <;> simp only [cond_true, cond_false]
 ·cases decide (k = 2) <;> simp only [cond_true, cond_false]
  ·cases decide (k = 3) <;> simp only [cond_true, cond_false]
   ·cases decide (k = 4) <;> simp only [cond_true, cond_false]
    ·exact tree_leafK _ _
    ·generalize hn : (nextV s 3).toNat = n
     have hq : ∀ e ∈ (listM (entryV f1 n) (nextV (nextS s 3) 3).toNat (nextS (nextS s 3) 3)).1, treeE e = true := fun e he => listM_mem (p := fun e => treeE e = true) (tree_entry h1 n) _ _ e he
     generalize (listM (entryV f1 n) (nextV (nextS s 3) 3).toNat (nextS (nextS s 3) 3)) = q at hq
     cases hb : decide ((fnV (nextV s 3) q.1).2 = 0) <;> simp only [cond_true, cond_false]
     ·exact tree_leafK _ _
     ·exact tree_fnV hq (of_decide_eq_true hb)
   ·generalize hn : (nextV s 3).toNat = n
    cases hb : decide ((mapV (pairM f1 n (nextS s 3)).1.1 (pairM f1 n (nextS s 3)).1.2).2 = 0) <;> simp only [cond_true, cond_false]
    ·exact tree_leafK _ _
    ·exact tree_mapV (fun v hv => pairM_mem (p := fun v => treeB v = true) h1 n _ v hv) (of_decide_eq_true hb)
  ·have ht := tree_tail h0 big s
   rw [tree_cons _ _ (by rw [lab_kind]; exact ht.2), h1, tree_lab ht.1]; rfl
 ·have hln := listM_len f1 (nextV s 4).toNat (nextS s 4)
  exact tree_tup (fun v hv => listM_mem (p := fun v => treeB v = true) h1 _ _ v hv) (by rw [hln]; omega)
theorem tree_valueF : ∀ (h : Nat) (s : Src), treeB (valueF h s).1 = true
  | 0, s => tree_leafK _ _
  | 1, s => tree_leafK _ _
  | h + 2, s => tree_valueK (fun s => tree_lab (tree_valueF (h + 1) s)) (fun s => tree_lab (tree_valueF h s)) _ _ _
theorem tree_full (h : Nat) (s : Src) : treeB (fullV h s).1 = true := tree_lab (tree_valueF h s)
noncomputable def entW (t : TyD) (e : List Val × Bool × Val) : Bool := !(e.1.all fun p => memT p t) || (!e.2.1 && memT e.2.2 t)
noncomputable def funW (t : TyD) (n : Nat) (x : Val) : Bool := (decide (x.kind = 9) && (decide (x.num = (n : Int)) && decide ((n : Int) ≤ 4))) && x.ents.all (entW t)
theorem zip_one (q : Val → Bool) (g : Val → Int → Bool) : ∀ (vs : List Val) (ks : List Int), vs.length = ks.length → (∀ v, ∀ k ∈ ks, g v k = q v) → ((vs.zip ks).all fun p => g p.1 p.2) = vs.all q
 | [], [], _, _ => rfl
 | [], _ :: _, h, _ => by cases h
 | _ :: _, [], h, _ => by cases h
 | v :: vs, k :: ks, h, hq => by
  rw [List.zip_cons_cons, List.all_cons, List.all_cons, hq v k List.mem_cons_self, zip_one q g vs ks (by simpa using h) fun v k hk => hq v k (List.mem_cons_of_mem _ hk)]
theorem tree_fun {v : Val} (h : treeB v = true) (hk : v.kind = 9) : ∀ e ∈ v.ents, (e.1.length : Int) = v.num := by
  rw [treeB_eq, nodeB, bodyB, hk] at h
  simp only [Int.reduceEq, decide_true, decide_false, cond_true, cond_false, funB, Bool.and_eq_true] at h
  intro e he
  have := List.all_eq_true.1 h.1.2.2.2.2 e he
  simp only [entB, Bool.and_eq_true, decide_eq_true_eq] at this
  exact this.1
theorem memT_fun {t : TyD} {n B : Nat} (h : TyS B (List.replicate n t ++ [t])) (x : Val) (hx : treeB x = true) : memT x (funT (List.replicate n t) t) = funW t n x := by
 unfold funT funW
 rw [List.length_replicate]
 cases h4 : decide ((4 : Int) < (n : Int)) with
 | true =>
  have : decide ((n : Int) ≤ 4) = false := by rw [decide_eq_true_eq] at h4; rw [decide_eq_false_iff_not]; omega
  rw [cond_true, memT_none, this, Bool.and_false, Bool.and_false, Bool.false_and]
 | false =>
  rw [decide_eq_false_iff_not] at h4
  have e4 : decide ((n : Int) ≤ 4) = true := by rw [decide_eq_true_eq]; omega
  have hlen : (List.replicate n t ++ [t]).length = n + 1 := by simp
  have hk : ovK 14 (List.replicate n t ++ [t]).length = true := by
   rw [hlen]
   have : n = 0 ∨ n = 1 ∨ n = 2 ∨ n = 3 ∨ n = 4 := by omega
   rcases this with rfl | rfl | rfl | rfl | rfl <;> decide
  rw [cond_false, overTy, memT_wf (overV_wf hk (ov_big h)), overV_head hk (ov_big h), e4, Bool.and_true]
  obtain ⟨ks, hks⟩ : ∃ ks, ks = (ovS 14 (List.replicate n t ++ [t])).2 := ⟨_, rfl⟩
  have hkl : ks.length = n + 1 := by rw [hks, ov_len2, hlen]
  have hg : ∀ v, ∀ k ∈ ks, memV (overV 14 (List.replicate n t ++ [t])) v k = memT v t := by
   intro v k hk'
   have hm := overV_kid (k := 14) (ov_big h) v
   rw [← hks] at hm
   have h1 : memV (overV 14 (List.replicate n t ++ [t])) v k ∈ (List.replicate n t ++ [t]).map (memT v) := by rw [← hm]; exact List.mem_map_of_mem hk'
   obtain ⟨u, hu, e⟩ := List.mem_map.1 h1
   have : u = t := by
    rcases List.mem_append.1 hu with hu | hu
    ·exact List.eq_of_mem_replicate hu
    ·simpa using hu
   rw [← e, this]
  rw [← hks]
  generalize memV (overV 14 (List.replicate n t ++ [t])) = g at hg
  show (decide (x.kind = 9) && funMB g (headN 14 ks) x) = _
  cases h9 : decide (x.kind = 9) with
  | false => rfl
  | true =>
   rw [Bool.true_and, Bool.true_and]
   unfold funMB
   show (decide (x.num = (ks.length : Int) - 1) && x.ents.all (entMB g ks)) = _
   rw [hkl, show (((n + 1 : Nat) : Int) - 1) = (n : Int) by omega]
   cases hn : decide (x.num = (n : Int)) with
   | false => rfl
   | true =>
    rw [Bool.true_and, Bool.true_and]
    refine all_congr fun e he => ?_
    have hel := tree_fun hx (of_decide_eq_true h9) e he
    have hnn := of_decide_eq_true hn
    unfold entMB entW
    have hne : ks ≠ [] := fun h0 => by rw [h0] at hkl; simp at hkl
    rw [hg e.2.2 _ (last_mem hne)]
    have e1 : memsB g e.1 (ks.take (ks.length - 1)) = e.1.all fun p => memT p t := by
     unfold memsB
     have hl : (ks.take (ks.length - 1)).length = n := by rw [List.length_take]; omega
     rw [hl, show decide ((e.1.length : Int) = (n : Int)) = true by rw [decide_eq_true_eq]; omega, Bool.true_and]
     exact zip_one _ g e.1 _ (by rw [hl]; omega) fun v k hk' => hg v k (List.mem_of_mem_take hk')
    rw [e1]
theorem and7' (a : Int) : ∃ n : Nat, n ≤ 7 ∧ IntKind.i64.wrap ((BitVec.ofInt 64 a &&& BitVec.ofInt 64 7).toNat : Int) = (n : Int) := by
 have h : (BitVec.ofInt 64 a &&& BitVec.ofInt 64 7).toNat ≤ 7 := by
  rw [BitVec.toNat_and]
  exact Nat.le_trans Nat.and_le_right (by decide)
 exact ⟨_, h, by rw [w64 (by omega)]⟩
theorem and7 (a : Int) : ∃ n : Nat, n ≤ 7 ∧ IntKind.i64.wrap (((@BitVec.toNat 64 (@HAnd.hAnd (BitVec 64) (BitVec 64) (BitVec 64) (@instHAndOfAndOp (BitVec IntKind.i64.bits) (@BitVec.instAndOp IntKind.i64.bits)) (BitVec.ofInt 64 a) (BitVec.ofInt 64 7)) : Nat)) : Int) = (n : Int) := and7' a
theorem rep_snoc (t : TyD) (i : Nat) : (List.replicate i t).map encTy ++ [[.sl 8 (t.1.map encNode), .int .i64 t.2]] = (List.replicate (i + 1) t).map encTy := by
  rw [List.replicate_succ', List.map_append]; rfl
theorem sm_none : TSm noneTy.1 := ⟨by simp [noneTy], fun x hx => (by simp only [noneTy, List.mem_singleton] at hx; subst hx; simp [kindN]), fun x hx => (by simp only [noneTy, List.mem_singleton] at hx; subst hx; simp [kindN])⟩
theorem fun_sm {ts : List TyD} {t : TyD} {B : Nat} (h : TyS B (ts ++ [t])) : TSm (funT ts t).1 := by
  unfold funT
  cases decide ((4 : Int) < (ts.length : Int))
  · exact ov_sm h
  · exact sm_none
theorem fun_wf {n : Nat} {t : TyD} {B : Nat} (h : TyS B (List.replicate n t ++ [t])) : wfP (funT (List.replicate n t) t).1 (funT (List.replicate n t) t).2 = 0 := by
 unfold funT
 rw [List.length_replicate]
 cases h4 : decide ((4 : Int) < (n : Int)) with
 | true => exact wf_none
 | false =>
  rw [decide_eq_false_iff_not] at h4
  refine overV_wf ?_ (ov_big h)
  have hlen : (List.replicate n t ++ [t]).length = n + 1 := by simp
  rw [hlen]
  have : n = 0 ∨ n = 1 ∨ n = 2 ∨ n = 3 ∨ n = 4 := by omega
  rcases this with rfl | rfl | rfl | rfl | rfl <;> decide
end Go.Proofs.YthbcdhfiibpeaaaGreat

