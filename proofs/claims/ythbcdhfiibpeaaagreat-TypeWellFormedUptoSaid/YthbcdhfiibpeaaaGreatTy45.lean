/- Lemmas of the proof. -/
import Derived.Test.YthbcdhfiibpeaaaGreatTy31
import Derived.Test.YthbcdhfiibpeaaaGreatTy27
open Nat renaming reduceBEq → zA, reduceBNe → zB, reduceAdd → zC, reduceSub → zD, reduceMul → zE, reduceLeDiff → zF, reduceLT → zG, reduceEqDiff → zH
open Int renaming reduceToNat → zI, reduceLE → zJ, reduceLT → zK, reduceEq → zL
open Bool renaming not_eq_true' → zM, not_eq_false' → zN
set_option linter.unusedSimpArgs false
set_option linter.unusedVariables false
set_option maxRecDepth 20000
set_option maxHeartbeats 64000000
namespace Go.Proofs.YthbcdhfiibpeaaaGreat
open Go Go.Sx
mutual
def plainB : Val → Bool
  | ⟨kind, _, _, kids, _, _, labels⟩ => !(decide (kind = 9) || decide ((0 : Int) < (labels.length : Int))) && plainBs kids
def plainBs : List Val → Bool
  | [] => true
  | v :: l => plainB v && plainBs l
end
theorem sorted_len (l : List (List UInt8)) : (sortedV l).length ≤ l.length := by
 have h : ∀ (l acc : List (List UInt8)), (l.foldl insS acc).length ≤ acc.length + l.length := by
  intro l
  induction l with
  | nil => intro acc; simp
  | cons x l ih =>
   intro acc
   have h1 := ih (insS acc x)
   have h2 := insS_len acc x
   simp only [List.foldl_cons, List.length_cons]
   omega
 have := h l []
 simpa [sortedV] using this
theorem labels_len (s : Src) : (labelsV s).1.length ≤ 2 := by
 unfold labelsV
 cases decide (nextV s 3 = 1) <;> simp only [cond_true, cond_false]
 ·simp
 ·cases decide (nextV (nextS (nextS s 3) 3) 2 = 1) <;> simp only [cond_true, cond_false]
  ·have := sorted_len [labelV (nextS s 3)]; simp at this; omega
  ·have := sorted_len [labelV (nextS s 3), labelV (nextS (nextS (nextS s 3) 3) 2)]; simp at this; omega
def bnd : Nat → Nat
  | 0 => 1
  | 1 => 1
  | h + 2 => 8 * (bnd (h + 1) + 2) + 8 * (bnd h + 2) + 20
def okLeaf (v : Val) : Prop := v.labels = [] ∧ (plainB v = true → treeB v = true)
theorem getD_prop {α : Type} {p : α → Prop} {l : List α} {d : α} (hl : ∀ x ∈ l, p x) (hd : p d) (i : Nat) : p (l.getD i d) := by
  rw [List.getD_eq_getElem?_getD]
  cases h : l[i]? with
  | none => exact hd
  | some x => exact hl x (List.mem_of_getElem? h)
theorem tree_nokids (v : Val) (hk : v.kids = []) (he : v.ents = []) : treeB v = nodeB v := by
  rw [treeB_kids, hk, he]; simp
theorem leafK_ok (k : Int) (s : Src) : okLeaf (leafK k s).1 := by
 have hw : ((wordV s).length : Int) ≤ 64 := getD_prop (p := fun w : List UInt8 => (w.length : Int) ≤ 64) (by simp [wordL]) (by simp) _
 have ha : isAtomB (atomV s) = true ∨ atomV s = [] := getD_prop (p := fun w : List UInt8 => isAtomB w = true ∨ w = []) (by simp only [atomL]; intro x hx; simp only [List.mem_cons, List.not_mem_nil, or_false] at hx; left; rcases hx with rfl | rfl | rfl | rfl <;> decide) (.inr rfl) _
 have hal : atomV s ≠ [] := by
  have hv := nextV_in s (n := 4) (by omega)
  have : (nextV s 4).toNat = 0 ∨ (nextV s 4).toNat = 1 ∨ (nextV s 4).toNat = 2 ∨ (nextV s 4).toNat = 3 := by omega
  unfold atomV
  rcases this with h | h | h | h <;> rw [h] <;> simp [atomL]
 have ha' : isAtomB (atomV s) = true := by rcases ha with h | h; exact h; exact absurd h hal
 have hp : 0 ≤ nextV s 3 := (nextV_in s (by omega)).1
 have hlb : labelsB [] = true := rfl
 unfold leafK
 cases decide (k = 0) <;> cases decide (k = 1) <;> cases decide (k = 2) <;> cases decide (k = 3) <;> cases decide (k = 4) <;> simp only [cond_true, cond_false] <;>
  (refine ⟨rfl, fun _ => ?_⟩; rw [tree_nokids _ rfl rfl]; simp [nodeB, kKnown, badFields, bodyB, kNum, kText, kKids, kKeys, kEnts, intVal, atomVal, strVal, pidVal, nilVal, tupVal, hlb, hw, ha', hp])
theorem tree_nil : treeB nilVal = true := by rw [tree_nokids _ rfl rfl]; rfl
theorem tree_cons (a b : Val) (hb : b.kind = 5 ∨ b.kind = 7) : treeB (consVal a b) = (treeB a && treeB b) := by
 rw [treeB_kids]
 have hn : nodeB (consVal a b) = true := by
  have hlb : labelsB [] = true := rfl
  rcases hb with h | h <;> simp [nodeB, kKnown, badFields, bodyB, kNum, kText, kKids, kKeys, kEnts, consVal, hlb, kidKind, h]
 rw [hn]; simp [consVal]
end Go.Proofs.YthbcdhfiibpeaaaGreat

