/- A part of the proof. Conditions: those that each lemma states. -/
import Derived.Test.YteobojeemflggaaGreatPm15
import Derived.Test.YteobojeemflggaaGreatPm13
open Nat renaming reduceBEq → zA, reduceBNe → zB, reduceAdd → zC, reduceSub → zD, reduceMul → zE, reduceLeDiff → zF, reduceLT → zG, reduceEqDiff → zH
open Int renaming reduceToNat → zI, reduceLE → zJ, reduceLT → zK, reduceEq → zL
open Bool renaming not_eq_true' → zM, not_eq_false' → zN
set_option linter.unusedSimpArgs false
set_option linter.unusedVariables false
set_option maxRecDepth 20000
set_option maxHeartbeats 64000000
namespace Go.Proofs.YteobojeemflggaaGreat
open Go Go.Sx
def lookV : List KeyD → Val → Option (List Val)
  | [], _ => some []
  | k :: ks, v => match valAt v k with
    | some w => (lookV ks v).map (w :: ·)
    | none => none
mutual
def refP : Pat → Val → Option ME
  | ⟨kind, num, text, kids, keys⟩, v =>
    bif decide (kind = 1) then some [] else
    bif decide (kind = 2) then some [(text, v)] else
    bif decide (kind = 10) then (refH kids v).map ((text, v) :: ·) else
    bif decide (kind = 3) then (bif decide (v.kind = 1) && decide (v.num = num) then some [] else none) else
    bif decide (kind = 4) then (bif decide (v.kind = 2) && decide (v.text = text) then some [] else none) else
    bif decide (kind = 5) then (bif decide (v.kind = 3) && decide (v.text = text) then some [] else none) else
    bif decide (kind = 6) then (bif decide (v.kind = 5) then some [] else none) else
    bif decide (kind = 7) then (bif decide (v.kind = 6) && decide (kids.length = v.kids.length) then refL kids v.kids else none) else
    bif decide (kind = 8) then (bif decide (v.kind = 7) && decide (kids.length = v.kids.length) then refL kids v.kids else none) else
    bif decide (v.kind = 8) then (match lookV keys v with | some ws => refL kids ws | none => none) else none
def refH : List Pat → Val → Option ME
  | [], _ => none
  | g :: _, v => refP g v
def refL : List Pat → List Val → Option ME
  | g :: l, v :: vs => match refP g v with
    | some a => (refL l vs).map (a ++ ·)
    | none => none
  | _, _ => some []
end
theorem refP_eq (g : Pat) (v : Val) : refP g v = bif decide (g.kind = 1) then some [] else
    bif decide (g.kind = 2) then some [(g.text, v)] else
    bif decide (g.kind = 10) then (refH g.kids v).map ((g.text, v) :: ·) else
    bif decide (g.kind = 3) then (bif decide (v.kind = 1) && decide (v.num = g.num) then some [] else none) else
    bif decide (g.kind = 4) then (bif decide (v.kind = 2) && decide (v.text = g.text) then some [] else none) else
    bif decide (g.kind = 5) then (bif decide (v.kind = 3) && decide (v.text = g.text) then some [] else none) else
    bif decide (g.kind = 6) then (bif decide (v.kind = 5) then some [] else none) else
    bif decide (g.kind = 7) then (bif decide (v.kind = 6) && decide (g.kids.length = v.kids.length) then refL g.kids v.kids else none) else
    bif decide (g.kind = 8) then (bif decide (v.kind = 7) && decide (g.kids.length = v.kids.length) then refL g.kids v.kids else none) else
    bif decide (v.kind = 8) then (match lookV g.keys v with | some ws => refL g.kids ws | none => none) else none := by cases g; rw [refP]
theorem refL_nil (vs : List Val) : refL [] vs = some [] := by cases vs <;> rfl
theorem refL_drop {l : List Pat} {vs : List Val} {k : Nat} {g : Pat} {v : Val} (hg : l[k]? = some g) (hv : vs[k]? = some v) :
    refL (l.drop k) (vs.drop k) = match refP g v with | some a => (refL (l.drop (k + 1)) (vs.drop (k + 1))).map (a ++ ·) | none => none := by
  obtain ⟨h1, h2⟩ := List.getElem?_eq_some_iff.1 hg
  obtain ⟨h3, h4⟩ := List.getElem?_eq_some_iff.1 hv
  rw [List.drop_eq_getElem_cons h1, List.drop_eq_getElem_cons h3, h2, h4, refL]
  try (cases refP g v <;> rfl)
theorem lookV_drop {ks : List KeyD} {v : Val} {i : Nat} {k : KeyD} (hk : ks[i]? = some k) : lookV (ks.drop i) v = match valAt v k with | some w => (lookV (ks.drop (i + 1)) v).map (w :: ·) | none => none := by
  obtain ⟨h1, h2⟩ := List.getElem?_eq_some_iff.1 hk
  rw [List.drop_eq_getElem_cons h1, h2, lookV]
  try (cases valAt v k <;> rfl)
theorem lookV_mem : ∀ (ks : List KeyD) (v : Val) (ws : List Val), lookV ks v = some ws → ws.length = ks.length ∧ ∀ w ∈ ws, w ∈ v.kids
  | [], v, ws, h => by cases h; exact ⟨rfl, fun w hw => by cases hw⟩
  | k :: ks, v, ws, h => by
    rw [lookV] at h
    cases hv : valAt v k with
    | none => rw [hv] at h; cases h
    | some w =>
      rw [hv] at h
      simp only [Option.map_eq_some_iff] at h
      obtain ⟨us, hu, rfl⟩ := h
      obtain ⟨h1, h2⟩ := lookV_mem ks v us hu
      refine ⟨by simp [h1], fun x hx => ?_⟩
      rcases List.mem_cons.1 hx with rfl | hx
      · exact valAt_mem hv
      · exact h2 x hx
theorem refL_names : ∀ (l : List Pat) (vs : List Val) (a : ME), (∀ g ∈ l, ∀ w ∈ vs, ∀ a, refP g w = some a → a.map (·.1) = collP g) → l.length = vs.length → refL l vs = some a → a.map (·.1) = l.flatMap collP
  | [], vs, a, _, _, h => by rw [refL_nil] at h; cases h; rfl
  | g :: l, [], a, _, hlen, _ => by simp at hlen
  | g :: l, v :: vs, a, hn, hlen, h => by
    rw [refL] at h
    cases hr : refP g v with
    | none => rw [hr] at h; cases h
    | some b =>
      rw [hr] at h
      simp only [Option.map_eq_some_iff] at h
      obtain ⟨c, hc, rfl⟩ := h
      rw [List.map_append, hn g (by simp) v (by simp) b hr, refL_names l vs c (fun g hg w hw => hn g (List.mem_cons_of_mem _ hg) w (List.mem_cons_of_mem _ hw)) (by simpa using hlen) hc, List.flatMap_cons]
theorem refP_names (g : Pat) (v : Val) (hg : treeP g = true) (a : ME) (h : refP g v = some a) : a.map (·.1) = collP g := by
  have ih : ∀ k ∈ g.kids, ∀ w : Val, ∀ a, refP k w = some a → a.map (·.1) = collP k := fun k hk w a h => refP_names k w (treeP_kid hg hk) a h
  have hvp := vP_of hg
  rw [collP_eq]
  rw [refP_eq] at h
  rcases kindsP hvp with hk | hk | hk | hk | hk | hk | hk | hk | ⟨hk, hkk⟩ | ⟨hk, k0, hk0⟩
  · rw [hk] at h; rw [hk, vP_kids0 hvp (by rw [hk]; rfl)]
    have h' : some [] = some a := h
    cases h'; rfl
  · rw [hk] at h; rw [hk, vP_kids0 hvp (by rw [hk]; rfl)]
    have h' : some [(g.text, v)] = some a := h
    cases h'; rfl
  · rw [hk] at h; rw [hk, vP_kids0 hvp (by rw [hk]; rfl)]
    have h' : (bif decide (v.kind = 1) && decide (v.num = g.num) then some [] else none) = some a := h
    cases hz : decide (v.kind = 1) && decide (v.num = g.num) <;> rw [hz] at h' <;> cases h'; rfl
  · rw [hk] at h; rw [hk, vP_kids0 hvp (by rw [hk]; rfl)]
    have h' : (bif decide (v.kind = 2) && decide (v.text = g.text) then some [] else none) = some a := h
    cases hz : decide (v.kind = 2) && decide (v.text = g.text) <;> rw [hz] at h' <;> cases h'; rfl
  · rw [hk] at h; rw [hk, vP_kids0 hvp (by rw [hk]; rfl)]
    have h' : (bif decide (v.kind = 3) && decide (v.text = g.text) then some [] else none) = some a := h
    cases hz : decide (v.kind = 3) && decide (v.text = g.text) <;> rw [hz] at h' <;> cases h'; rfl
  · rw [hk] at h; rw [hk, vP_kids0 hvp (by rw [hk]; rfl)]
    have h' : (bif decide (v.kind = 5) then some [] else none) = some a := h
    cases hz : decide (v.kind = 5) <;> rw [hz] at h' <;> cases h'; rfl
  · rw [hk] at h; rw [hk]
    have h' : (bif decide (v.kind = 6) && decide (g.kids.length = v.kids.length) then refL g.kids v.kids else none) = some a := h
    cases hz : decide (v.kind = 6) && decide (g.kids.length = v.kids.length) <;> rw [hz] at h'
    · cases h'
    · rw [Bool.and_eq_true, decide_eq_true_eq, decide_eq_true_eq] at hz
      exact refL_names g.kids v.kids a (fun g hg w hw => ih g hg w) hz.2 h'
  · rw [hk] at h; rw [hk]
    have h' : (bif decide (v.kind = 7) && decide (g.kids.length = v.kids.length) then refL g.kids v.kids else none) = some a := h
    cases hz : decide (v.kind = 7) && decide (g.kids.length = v.kids.length) <;> rw [hz] at h'
    · cases h'
    · rw [Bool.and_eq_true, decide_eq_true_eq, decide_eq_true_eq] at hz
      exact refL_names g.kids v.kids a (fun g hg w hw => ih g hg w) hz.2 h'
  · rw [hk] at h; rw [hk]
    have h' : (bif decide (v.kind = 8) then (match lookV g.keys v with | some ws => refL g.kids ws | none => none) else none) = some a := h
    cases hz : decide (v.kind = 8) <;> rw [hz] at h'
    · cases h'
    · cases hl : lookV g.keys v with
      | none => rw [hl] at h'; cases h'
      | some ws =>
        rw [hl] at h'
        have hlm := lookV_mem _ _ _ hl
        exact refL_names g.kids ws a (fun g hg w hw => ih g hg w) (by omega) h'
  · rw [hk, hk0] at h; rw [hk, hk0]
    have h' : (refP k0 v).map ((g.text, v) :: ·) = some a := h
    simp only [Option.map_eq_some_iff] at h'
    obtain ⟨b, hb, rfl⟩ := h'
    have := ih k0 (by rw [hk0]; simp) v b hb
    simp [this, nameP]
termination_by cntP g
decreasing_by exact cntP_kid hk
def encN (m : ME) : List (List C) := m.map fun p => Sx.encStr p.1
def encW (m : ME) : List (List C) := m.map fun p => encVal p.2
theorem encN_app (a b : ME) : encN a ++ encN b = encN (a ++ b) := by unfold encN; rw [List.map_append]
theorem encW_app (a b : ME) : encW a ++ encW b = encW (a ++ b) := by unfold encW; rw [List.map_append]
theorem encN_len (a : ME) : (encN a).length = a.length := by unfold encN; rw [List.length_map]
theorem encW_len (a : ME) : (encW a).length = a.length := by unfold encW; rw [List.length_map]
def refR (o : Option ME) : T := .tup [.one (.dat (.sl 1 (encN (o.getD [])))), .one (.dat (.sl 7 (encW (o.getD [])))), Bo o.isSome]
theorem refR_some (l : ME) : refR (some l) = .tup [.one (.dat (.sl 1 (encN l))), .one (.dat (.sl 7 (encW l))), Bo true] := rfl
theorem refR_none : refR none = .tup [.one (.dat (.sl 1 [])), .one (.dat (.sl 7 [])), Bo false] := rfl
theorem refR_b (b : Bool) : refR (bif b then some [] else none) = .tup [.one (.dat (.sl 1 [])), .one (.dat (.sl 7 [])), Bo b] := by cases b <;> rfl
theorem treeB_cons {v : Val} (h : treeB v = true) (hk : v.kind = 7) : v.kids.length = 2 := by
  rw [treeB_kids, Bool.and_eq_true] at h
  have h1 := h.1
  unfold nodeB at h1
  simp only [Bool.and_eq_true] at h1
  have h2 := h1.2.2.2
  unfold bodyB at h2
  simp only [hk, Int.reduceEq, decide_true, decide_false, cond_true, cond_false, Bool.and_eq_true, decide_eq_true_eq] at h2
  omega
theorem vP_cons {g : Pat} (h : vP g = true) (hk : g.kind = 8) : g.kids.length = 2 := by
  have hb : bodyP g = true := by unfold vP at h; simp only [Bool.and_eq_true] at h; exact h.2
  unfold bodyP at hb
  simp only [hk, Int.reduceEq, decide_true, decide_false, Bool.or_false, cond_true, cond_false, decide_eq_true_eq] at hb
  omega
end Go.Proofs.YteobojeemflggaaGreat
