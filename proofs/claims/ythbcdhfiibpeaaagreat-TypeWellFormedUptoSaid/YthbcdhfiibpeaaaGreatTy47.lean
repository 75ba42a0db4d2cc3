/- Lemmas of the proof. -/
import Derived.Test.YthbcdhfiibpeaaaGreatTy46
import Derived.Test.YthbcdhfiibpeaaaGreatTy35
open List renaming mem_singleton → lN
open Nat renaming reduceBEq → zA, reduceBNe → zB, reduceAdd → zC, reduceSub → zD, reduceMul → zE, reduceLeDiff → zF, reduceLT → zG, reduceEqDiff → zH
open Int renaming reduceToNat → zI, reduceLE → zJ, reduceLT → zK, reduceEq → zL
open Bool renaming not_eq_true' → zM, not_eq_false' → zN
set_option linter.unusedSimpArgs false
set_option linter.unusedVariables false
set_option maxRecDepth 20000
set_option maxHeartbeats 64000000
namespace Go.Proofs.YthbcdhfiibpeaaaGreat
open Go Go.Sx
theorem kind_inB {x : NodeD} (h : validK x = true) : 1 ≤ x.kind ∧ x.kind ≤ 19 := by
 rcases Decidable.em (1 ≤ x.kind ∧ x.kind ≤ 19) with h1 | h1
 ·exact h1
 ·exfalso
  have e : ∀ i : Int, 1 ≤ i → i ≤ 19 → decide (x.kind = i) = false := fun i h2 h3 => by rw [decide_eq_false_iff_not]; omega
  unfold validK at h
  simp only [e 1 (by omega) (by omega), e 2 (by omega) (by omega), e 3 (by omega) (by omega), e 4 (by omega) (by omega), e 5 (by omega) (by omega), e 6 (by omega) (by omega), e 7 (by omega) (by omega), e 8 (by omega) (by omega), e 9 (by omega) (by omega), e 10 (by omega) (by omega), e 11 (by omega) (by omega), e 12 (by omega) (by omega), e 13 (by omega) (by omega), e 14 (by omega) (by omega), e 15 (by omega) (by omega), e 16 (by omega) (by omega), e 17 (by omega) (by omega), e 18 (by omega) (by omega), e 19 (by omega) (by omega), Bool.or_false, cond_false] at h
  cases h
def nearF (l : List NodeD) (g : Int → Src → Val × Src) : Nat → Int → Src → Val × Src
  | 0, _, s => leafV s
  | f + 1, k, s => nearX l g (nearF l g f) (l.getD k.toNat (kindN 1)) s
def wrapV (p : Val × Src) : Val × Src := bif treeB p.1 then p else leafV p.2
def NearV (l : List NodeD) : Nat → Int → Src → Val × Src
  | 0, k, s => wrapV (leafV s)
  | h + 1, k, s => wrapV (nearF l (NearV l h) l.length k s)
theorem mapM_ok {g : Int → Src → Val × Src} (hg : ∀ k s, s.ok → (g k s).2.ok) : ∀ (fs : List FieldD) (y : MapSt), y.1.ok → (mapS g fs y).1.ok
 | [], y, h => h
 | f :: fs, y, h => by
  rw [mapS]
  cases f.opt && decide (nextV y.1 2 = 1)
  ·refine mapM_ok hg fs _ ?_
   cases f.opt
   ·exact hg _ _ h
   ·exact hg _ _ (ok_next h 2)
  ·exact mapM_ok hg fs _ (ok_next h 2)
theorem nearMap_ok {g : Int → Src → Val × Src} (hg : ∀ k s, s.ok → (g k s).2.ok) (x : NodeD) {s : Src} (h : s.ok) : (nearMapV g x s).2.ok := by
  unfold nearMapV nearMapS mapO
  have h1 := mapM_ok hg x.fields (s, [], []) h
  cases decide (nextV (mapS g x.fields (s, [], [])).1 2 = 1)
  · exact ok_next h1 2
  · exact hg _ _ (ok_next (ok_next h1 2) 2)
theorem nearFun_ok {g : Int → Src → Val × Src} (hg : ∀ k s, s.ok → (g k s).2.ok) (x : NodeD) {s : Src} (h : s.ok) : (nearFunV g x s).2.ok :=
  listM_ok (fun s hs => nent_ok hg _ hs) _ _ (ok_next h 3)
theorem nearX_ok {l : List NodeD} {g nx : Int → Src → Val × Src} (hg : ∀ k s, s.ok → (g k s).2.ok) (hn : ∀ k s, s.ok → (nx k s).2.ok) (x : NodeD) {s : Src} (h : s.ok) : (nearX l g nx x s).2.ok := by
  unfold nearX
  cases decide (x.kind = 3) <;> simp only [cond_true, cond_false] <;> try exact ok_next h _
  cases decide (x.kind = 4) <;> simp only [cond_true, cond_false] <;> try exact h
  cases decide (x.kind = 5) <;> simp only [cond_true, cond_false] <;> try exact ok_next h _
  cases decide (x.kind = 6) <;> simp only [cond_true, cond_false] <;> try exact h
  cases decide (x.kind = 7) <;> simp only [cond_true, cond_false] <;> try exact ok_next h _
  cases decide (x.kind = 8) <;> simp only [cond_true, cond_false] <;> try exact ok_next h _
  cases decide (x.kind = 9) <;> simp only [cond_true, cond_false] <;> try exact h
  cases decide (x.kind = 10) <;> simp only [cond_true, cond_false] <;> try exact listG_ok hg _ _ h
  cases decide (x.kind = 12) <;> simp only [cond_true, cond_false] <;> try exact listG_ok hg _ _ h
  cases decide (x.kind = 13) <;> simp only [cond_true, cond_false] <;> try exact nearMap_ok hg x h
  cases decide (x.kind = 14) <;> simp only [cond_true, cond_false] <;> try exact nearFun_ok hg x h
  cases decide (x.kind = 16) <;> simp only [cond_true, cond_false] <;> try exact hn _ _ (ok_next h _)
  cases decide (x.kind = 17) <;> simp only [cond_true, cond_false] <;> try exact hn _ _ (ok_next h _)
  cases decide (x.kind = 19) <;> simp only [cond_true, cond_false]
  · exact ok_full 2 s h
  · exact ok_leaf h
theorem nearF_ok {l : List NodeD} {g : Int → Src → Val × Src} (hg : ∀ k s, s.ok → (g k s).2.ok) : ∀ (f : Nat) (k : Int) (s : Src), s.ok → (nearF l g f k s).2.ok
  | 0, k, s, h => ok_leaf h
  | f + 1, k, s, h => nearX_ok hg (nearF_ok hg f) _ h
theorem wrap_ok {p : Val × Src} (h : p.2.ok) : (wrapV p).2.ok := by
  unfold wrapV
  cases treeB p.1
  · exact ok_leaf h
  · exact h
theorem NearV_ok (l : List NodeD) : ∀ (h : Nat) (k : Int) (s : Src), s.ok → (NearV l h k s).2.ok
  | 0, k, s, hs => wrap_ok (ok_leaf hs)
  | h + 1, k, s, hs => wrap_ok (nearF_ok (NearV_ok l h) _ _ _ hs)
theorem mapGo_lab : ∀ (r : List (KeyD × Val)) (ks : List KeyD) (vs : List Val), (mapGo r ks vs).1.labels = []
 | [], ks, vs => by rw [mapGo]; rfl
 | (x, v) :: r, ks, vs => by
  rw [mapGo]
  cases decide (ks[kPos ks x]? = some x)
  ·exact mapGo_lab r _ _
  ·rfl
theorem mapV_lab (ks : List KeyD) (l : List Val) : (mapV ks l).1.labels = [] := by
 unfold mapV
 cases decide ((ks.length : Int) = (l.length : Int))
 ·rfl
 ·cases ks.all validKeyB
  ·rfl
  ·exact mapGo_lab _ _ _
theorem fnV_lab (n : Int) (l : List Ent) : (fnV n l).1.labels = [] := by
  unfold fnV
  cases decide (n < 0) || decide (4 < n)
  · cases l.all (fun e => entB e n) <;> rfl
  · rfl
theorem leaf_lab (s : Src) : (leafV s).1.labels = [] := (leafK_ok _ _).1
theorem nearMap_lab (g : Int → Src → Val × Src) (x : NodeD) (s : Src) : (nearMapV g x s).1.labels = [] := by
  unfold nearMapV
  cases decide ((mapV (nearMapS g x s).2.1 (nearMapS g x s).2.2).2 = 0)
  · rfl
  · exact mapV_lab _ _
theorem nearFun_lab (g : Int → Src → Val × Src) (x : NodeD) (s : Src) : (nearFunV g x s).1.labels = [] := by
  unfold nearFunV
  cases decide ((fnV ((x.kids.length : Int) - 1) (nearFunL g x s).1).2 = 0)
  · rfl
  · exact fnV_lab _ _
theorem consFix_lab (l : List Val) : (consFix l).labels = [] := by
  match l with
  | [] => rfl
  | [_] => rfl
  | [_, _] => rfl
  | _ :: _ :: _ :: _ => rfl
theorem foldL_len (l : List NodeD) : ∀ (ks : List Int) (v : Val), (ks.foldl (addL l) v).labels.length ≤ v.labels.length + ks.length
 | [], v => Nat.le_refl _
 | k :: ks, v => by
  have h1 := foldL_len l ks (addL l v k)
  have h2 := addL_len l v k
  rw [List.foldl_cons, List.length_cons]
  omega
theorem nearX_lab {l : List NodeD} {g nx : Int → Src → Val × Src} {B K : Nat} (hB : 2 ≤ B) (hn : ∀ k s, (nx k s).1.labels.length ≤ B) (x : NodeD) (hk : x.kids.length ≤ K) (s : Src) : (nearX l g nx x s).1.labels.length ≤ B + K := by
 unfold nearX
 have z : ([] : List (List UInt8)).length ≤ B + K := Nat.zero_le _
 cases decide (x.kind = 3) <;> simp only [cond_true, cond_false] <;> try exact z
 cases decide (x.kind = 4) <;> simp only [cond_true, cond_false] <;> try exact z
 cases decide (x.kind = 5) <;> simp only [cond_true, cond_false] <;> try exact z
 cases decide (x.kind = 6) <;> simp only [cond_true, cond_false] <;> try exact z
 cases decide (x.kind = 7) <;> simp only [cond_true, cond_false] <;> try exact z
 cases decide (x.kind = 8) <;> simp only [cond_true, cond_false] <;> try exact z
 cases decide (x.kind = 9) <;> simp only [cond_true, cond_false] <;> try exact z
 cases decide (x.kind = 10) <;> simp only [cond_true, cond_false] <;> try exact z
 cases decide (x.kind = 12) <;> simp only [cond_true, cond_false]
 ·cases decide (x.kind = 13) <;> simp only [cond_true, cond_false]
  ·cases decide (x.kind = 14) <;> simp only [cond_true, cond_false]
   ·cases decide (x.kind = 16) <;> simp only [cond_true, cond_false]
    ·cases decide (x.kind = 17) <;> simp only [cond_true, cond_false]
     ·cases decide (x.kind = 19) <;> simp only [cond_true, cond_false]
      ·have h1 : (fullV 2 s).1.labels = (labelsV (valueF 2 s).2).1 := rfl
       have := labels_len (valueF 2 s).2
       rw [h1]; omega
      ·have := sorted_len [x.text]
       simp only [List.length_singleton] at this
       omega
     ·have := foldL_len l x.kids (nx (pickK x.kids s) (nextS s x.kids.length)).1
      have := hn (pickK x.kids s) (nextS s x.kids.length)
      omega
    ·have := hn (pickK x.kids s) (nextS s x.kids.length)
     omega
   ·rw [nearFun_lab]; exact z
  ·rw [nearMap_lab]; exact z
 ·rw [consFix_lab]; exact z
theorem nearF_lab {l : List NodeD} {g : Int → Src → Val × Src} (hl : ∀ x ∈ l, x.kids.length ≤ 10) : ∀ (f : Nat) (k : Int) (s : Src), (nearF l g f k s).1.labels.length ≤ 2 + 10 * f
 | 0, k, s => by rw [nearF, leaf_lab]; exact Nat.zero_le _
 | f + 1, k, s => by
  have hx : (l.getD k.toNat (kindN 1)).kids.length ≤ 10 := by
   rw [List.getD_eq_getElem?_getD]
   cases h : l[k.toNat]? with
   | none => simp [kindN]
   | some x => exact hl x (List.mem_of_getElem? h)
  have := nearX_lab (l := l) (g := g) (B := 2 + 10 * f) (K := 10) (by omega) (nearF_lab (g := g) hl f) _ hx s
  rw [nearF]; omega
theorem near_at {l : List NodeD} (r : Int) (hlen : l.length ≤ 1000) (hl : ∀ (j : Nat) (x : NodeD), l[j]? = some x → GoodN l.length j x) {g : Int → Src → Val × Src} {h : Nat} (H : NearC l r g (h : Int)) (hg : ∀ k s, s.ok → (g k s).2.ok) (hh : h ≤ 1000) :
  ∀ (f : Nat) (k : Nat), k < l.length → l.length ≤ k + f → f ≤ 1000 → ∀ s : Src, s.ok → NearAt l r (nearF l g f (k : Int)) h k s := by
 have h10 : ∀ x ∈ l, x.kids.length ≤ 10 := fun x hx => by
  obtain ⟨j, hj⟩ := List.getElem?_of_mem hx
  exact (hl j x hj).kid
 intro f
 induction f with
 | zero => intro k hk hf; omega
 | succ f ih =>
  intro k hk hf hf1 s hs
  have hx : l[k]? = some l[k] := List.getElem?_eq_getElem hk
  obtain ⟨x, hxe⟩ : ∃ x, x = l[k] := ⟨_, rfl⟩
  rw [← hxe] at hx
  have hG := hl k x hx
  have e : nearF l g (f + 1) (k : Int) = nearX l g (nearF l g f) x := by
   funext s'
   rw [nearF, Int.toNat_natCast, List.getD_eq_getElem?_getD, hx]; rfl
  rw [e]
  have hki : ∀ y ∈ x.kids, 0 ≤ y ∧ y < (l.length : Int) := fun y hy => hG.edge y (List.mem_append_left _ (List.mem_append_left _ hy))
  have hkid := hG.kid
  have hfld := hG.fld
  have hv := hG.kind
  have Hn : boolK x.kind = true → ∀ y : Int, y ∈ x.kids → ∀ s : Src, s.ok → PCB Tryz.prog 81 [Sp pin, Tt l r, I .i64 y, I .i64 ((h + 1 : Nat) : Int)] [(pin, srcB s)] (Vt (nearF l g f y s).1) [(pin, srcB (nearF l g f y s).2)] := by
   intro hb y hy s' hs'
   have h1 := hki y hy
   have h2 := hG.on hb y hy
   have := ih y.toNat (by omega) (by omega) (by omega) s' hs'
   unfold NearAt at this
   rwa [show ((y.toNat : Nat) : Int) = y by omega] at this
  have hL : ∀ y s, (nearF l g f y s).1.labels.length ≤ 900000 := fun y s => by have := nearF_lab (g := g) h10 f y s; omega
  have hkk : 1 ≤ x.kind ∧ x.kind ≤ 19 := kind_inB hv
  have hc : x.kind = 1 ∨ x.kind = 2 ∨ x.kind = 3 ∨ x.kind = 4 ∨ x.kind = 5 ∨ x.kind = 6 ∨ x.kind = 7 ∨ x.kind = 8 ∨ x.kind = 9 ∨ x.kind = 10 ∨ x.kind = 11 ∨ x.kind = 12 ∨ x.kind = 13 ∨ x.kind = 14 ∨ x.kind = 15 ∨ x.kind = 16 ∨ x.kind = 17 ∨ x.kind = 18 ∨ x.kind = 19 := by omega
  rcases hc with c | c | c | c | c | c | c | c | c | c | c | c | c | c | c | c | c | c | c
  ·exact near_k1 l r g _ h hh hlen x k hx c s hs
  ·exact near_k2 l r g _ h hh hlen x k hx c s hs
  ·exact near_k3 l r g _ h hh hlen x k hx c s hs
  ·exact near_k4 l r g _ h hh hlen x k hx c s hs
  ·exact near_k5 l r g _ h hh hlen x k hx c s hs
  ·exact near_k6 l r g _ h hh hlen x k hx c s hs
  ·exact near_k7 l r g _ h hh hlen x k hx c s hs
  ·exact near_k8 l r g _ h hh hlen x k hx c s hs
  ·exact near_k9 l r g _ h hh hlen x k hx c s hs
  ·exact near_k10 l r g _ h H hg hh hlen x k hx c hki (by omega) s hs
  ·exact near_k11 l r g _ h hh hlen x k hx c s hs
  ·have h2 : x.kids.length = 2 := by
    unfold validK at hv
    rw [c] at hv
    simp at hv
    omega
   exact near_k12 l r g _ h H hg hh hlen x k hx c hki h2 s hs
  ·have hr : ∀ y, y = x.r0 ∨ y = x.r1 → 0 ≤ y ∧ y < (l.length : Int) := fun y hy => hG.edge y (by
    unfold edgeL; rw [c]
    rcases hy with rfl | rfl <;> simp)
   refine near_k13 l r g _ h H hg hh hlen x k hx c (fun fl hfl => hG.edge _ ?_) (by omega) (hr _ (.inl rfl)) (hr _ (.inr rfl)) s hs
   unfold edgeL
   exact List.mem_append_left _ (List.mem_append_right _ (List.mem_map_of_mem hfl))
  ·have h1 : 1 ≤ x.kids.length := by
    unfold validK at hv
    rw [c] at hv
    simp at hv
    omega
   exact near_k14 l r g _ h H hg hh hlen x k hx c hki h1 (by omega) s hs
  ·exact near_k15 l r g _ h hh hlen x k hx c s hs
  ·have h1 : 1 ≤ x.kids.length := by
    unfold validK at hv
    rw [c] at hv
    simp at hv
    omega
   exact near_k16 l r g _ h hh hlen x k hx c hki h1 (by omega) (Hn (by rw [c]; rfl)) s hs
  ·have h1 : 1 ≤ x.kids.length := by
    unfold validK at hv
    rw [c] at hv
    simp at hv
    omega
   exact near_k17 l r g _ h hh hlen x k hx c hki h1 (by omega) (Hn (by rw [c]; rfl)) hL s hs
  ·exact near_k18 l r g _ h hh hlen x k hx c s hs
  ·exact near_k19 l r g _ h hh hlen x k hx c s hs
theorem wrap_c {l : List NodeD} {r k : Int} {h : Nat} {s : Src} {p : Val × Src} (hp : p.2.ok) (H : PCB Tryz.prog 81 [Sp pin, Tt l r, I .i64 k, I .i64 (h : Int)] [(pin, srcB s)] (Vt p.1) [(pin, srcB p.2)]) :
  PCB Tryz.prog 46 [Sp pin, Tt l r, I .i64 k, I .i64 (h : Int)] [(pin, srcB s)] (Vt (wrapV p).1) [(pin, srcB (wrapV p).2)] := by
 have hV := valid_c p.1
 have hN : PCBk Tryz.prog 81 [Sp 1000000, .st [.sl 8 (l.map encNode), .int .i64 r], I .i64 k, I .i64 (h : Int)] 1000000 (srcB s) (Vt p.1) (srcB p.2) := PCBk.mk 1000000 H
 rw [Vt, encVal_eq] at hN
 rw [encVal_eq] at hV
 unfold wrapV
 cases ht : treeB p.1
 all_goals
  refine PCB.ob Tryz.func46 Tryz.ntmps46 Tryz.results46 ?_
  repeat' (first | (simp only [go_sem, zA, zB, zC, zD, zE, zF, zG, reduceCtorEq, zH, zI, zJ, zK, zL, pin, ht]; all_goals refine nf ?_) | (refine stp ?_; intro K hK) | (apply hK; clear hK K) | refine stn ?_ | (with_reducible refine ⟨_, hV, ?_⟩) | (refine ⟨1000000, _, _, _, hN, rfl, ?_⟩) | (refine ⟨1000000, _, _, _, leaf_k 1000000 p.2 hp, rfl, ?_⟩) | refine stq ?_ | (clear hK K))
 all_goals first | exact ⟨rfl, fun x hx => by simp only [lN] at hx; subst hx; simp [pin]⟩ | exact ⟨trivial, fun x hx => by simp only [lN] at hx; subst hx; simp [pin]⟩ | (intro x hx; simp only [lN] at hx; subst hx; simp [pin]) | (refine ⟨by simp only [Vt, encVal_eq] <;> rfl, fun x hx => by simp only [lN] at hx; subst hx; simp [pin]⟩) | fail
theorem near_zero (l : List NodeD) (r k : Int) (s : Src) (hs : s.ok) : PCB Tryz.prog 81 [Sp pin, Tt l r, I .i64 k, I .i64 ((0 : Nat) : Int)] [(pin, srcB s)] (Vt (leafV s).1) [(pin, srcB (leafV s).2)] := by
  have h0 : decide (((0 : Nat) : Int) ≤ 0) = true := rfl
  refine PCB.ob Tryz.func81 Tryz.ntmps81 Tryz.results81 ?_
  repeat' (first | (simp only [go_sem, zA, zB, zC, zD, zE, zF, zG, reduceCtorEq, zH, zI, zJ, zK, zL, pin, h0]; all_goals refine nf ?_) | (refine stp ?_; intro K hK) | (apply hK; clear hK K) | refine stn ?_ | (refine ⟨1000000, _, _, _, leaf_k 1000000 s hs, rfl, ?_⟩) | refine stq ?_ | (clear hK K))
  all_goals first | exact fun x hx => hx | exact ⟨rfl, fun x hx => by simp only [lN] at hx; subst hx; simp [pin]⟩ | exact ⟨trivial, fun x hx => by simp only [lN] at hx; subst hx; simp [pin]⟩ | (intro x hx; simp only [lN] at hx; subst hx; simp [pin]) | (refine ⟨by simp only [Vt, encVal_eq] <;> rfl, fun x hx => by simp only [lN] at hx; subst hx; simp [pin]⟩) | fail
theorem Near_c {l : List NodeD} (r : Int) (hlen : l.length ≤ 1000) (hl : ∀ (j : Nat) (x : NodeD), l[j]? = some x → GoodN l.length j x) : ∀ h : Nat, h ≤ 1000 → NearC l r (NearV l h) (h : Int)
 | 0, _ => fun k s hs _ _ => wrap_c (ok_leaf hs) (near_zero l r k s hs)
 | h + 1, hh => fun k s hs h0 h1 => by
  have := near_at r hlen hl (Near_c r hlen hl h (by omega)) (NearV_ok l h) (by omega) l.length k.toNat (by omega) (by omega) (by omega) s hs
  unfold NearAt at this
  rw [show ((k.toNat : Nat) : Int) = k by omega] at this
  exact wrap_c (nearF_ok (NearV_ok l h) _ _ _ hs) this
end Go.Proofs.YthbcdhfiibpeaaaGreat

