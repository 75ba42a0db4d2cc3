/- Lemmas; conditions: as each states. -/
import Derived.Test.YtajfdbdklphonaaGreatDm12p
open Go.Proofs.Tryz renaming prog → zP
open List renaming length_map → lB, take_length → lK, mem_of_getElem? → lP
open Go.Sx.AWP renaming range → xC, lenB → xE, len → xF
open Nat renaming reduceBEq → D, reduceBNe → E, reduceAdd → H, reduceSub → J, reduceMul → N, reduceLeDiff → O, reduceLT → U, reduceEqDiff → V
open Int renaming reduceToNat → W, reduceLE → Y, reduceLT → Z, reduceEq → zL
open Bool renaming not_eq_true' → zM, not_eq_false' → zN
set_option linter.unusedVariables false
set_option linter.unusedSimpArgs false
set_option maxRecDepth 20000
set_option maxHeartbeats 16000000
namespace Go.Proofs.YtajfdbdklphonaaGreat
open Go Go.Sx
theorem validPattern_c (g : Pat) : PC zP 141 [Pt g] (Bo (vP g)) := by
 have hu := usesP_c g.kind
 have hmp := validMapP_c g
 rw [show Pt g = T.st (encP g) from rfl, encP_eq] at hmp
 rcases pkinds g.kind with hk | hk | hk | hk | hk | hk | hk | hk | hk | hk | ⟨g1, g2, g3, g4, g5, g6, g7, g8, g9, g10⟩
 iterate 10
  ·
   rw [hk] at hu hmp
   refine PCB.ob Tryz.func141 Tryz.ntmps141 Tryz.results141 ?_
   repeat' (first | (simp only [go_sem, D, E, H, J, N, O, U, reduceCtorEq, V, W, Y, Z, zL, encP_eq g, hk, numP, textP, kidsP, keysP, lB] <;> refine nf ?_) | (refine stp ?_; intro K hK) | (apply hK; clear hK K) | refine stn ?_ | (refine AWP.cnd ?_ ?_ <;> intro h <;> (try simp only [zM, zN] at h)) | (refine ⟨fun h => ?_, fun h => ?_⟩ <;> (try simp only [zM, zN] at h) <;> try simp only [h]) | (with_reducible first | refine ⟨_, hu, ?_⟩ | refine ⟨_, identIsVariable_c _, ?_⟩ | refine ⟨_, identIsAtom_c _, ?_⟩ | refine ⟨_, hmp, ?_⟩) | refine stq ?_ | (clear hK K))
   all_goals (first | exact lf | (refine fin0 ?_; simp only [vP, badP, bodyP, numP, textP, kidsP, keysP, hk, Int.reduceEq, Int.reduceLE, *, zb, cT, cF, dT, dF] <;> rfl))
 ·
  refine PCB.ob Tryz.func141 Tryz.ntmps141 Tryz.results141 ?_
  repeat' (first | (simp only [go_sem, D, E, H, J, N, O, U, reduceCtorEq, V, W, Y, Z, zL, encP_eq g, numP, textP, kidsP, keysP, g1, g2, g3, g4, g5, g6, g7, g8, g9, g10, lB] <;> refine nf ?_) | (refine stp ?_; intro K hK) | (apply hK; clear hK K) | refine stn ?_ | (refine AWP.cnd ?_ ?_ <;> intro h <;> (try simp only [zM, zN] at h)) | (refine ⟨fun h => ?_, fun h => ?_⟩ <;> (try simp only [zM, zN] at h) <;> try simp only [h]) | (with_reducible refine ⟨_, hu, ?_⟩) | refine stq ?_ | (clear hK K))
  all_goals (first | exact lf | (refine fin0 ?_; simp only [vP, badP, bodyP, numP, textP, kidsP, keysP, Int.reduceEq, Int.reduceLE, *, zb, cT, cF, dT, dF] <;> rfl))
mutual
def treeP : Pat → Bool
 | ⟨kind, num, text, kids, keys⟩ => vP ⟨kind, num, text, kids, keys⟩ && treePs kids
def treePs : List Pat → Bool
 | [] => true
 | g :: l => treeP g && treePs l
end
theorem treePs_all : ∀ l : List Pat, treePs l = l.all treeP
 | [] => by simp only [treePs, List.all_nil]
 | g :: l => by simp only [treePs, List.all_cons, treePs_all l]
theorem treeP_eq (g : Pat) : treeP g = (vP g && g.kids.all treeP) := by cases g; simp only [treeP, treePs_all]
theorem all_takeP {α : Type} {p : α → Bool} {l : List α} {k : Nat} {x : α} (hx : l[k]? = some x) : (l.take (k + 1)).all p = ((l.take k).all p && p x) := by
 rw [List.take_add_one, hx, List.all_append]; simp
theorem any_notP {α : Type} (p : α → Bool) (l : List α) : (!l.any fun x => !p x) = l.all p := by
 induction l with
 | nil => rfl
 | cons x l ih => rw [List.any_cons, List.all_cons, ← ih]; cases p x <;> simp
theorem validTreeP_c (g : Pat) : PC zP 102 [Pt g] (Bo (treeP g)) := by
 have ih : ∀ k ∈ g.kids, PC zP 102 [Pt k] (Bo (treeP k)) := fun k hk => validTreeP_c k
 have ih1 : ∀ k ∈ g.kids, PC zP 143 [Pt k] (Bo (!treeP k)) := fun k hk => by
  have h := ih k hk
  refine PCB.ob Tryz.func143 Tryz.ntmps143 Tryz.results143 ?_
  repeat' (first | (simp only [go_sem, D, E, H, J, N, O, U, reduceCtorEq, V, W, Y, Z, zL] <;> refine nf ?_) | (refine stp ?_; intro K hK) | (apply hK; clear hK K) | refine stn ?_ | (with_reducible refine ⟨_, h, ?_⟩) | refine stq ?_ | fail)
  all_goals exact lf
 have hc := containsP0 143 (fun k => !treeP k) g.kids ih1
 have hv : PC zP 141 [.st (encP g)] (Bo (vP g)) := validPattern_c g
 have ha := any_notP treeP g.kids
 rw [encP_eq] at hv
 rw [treeP_eq]
 refine PCB.ob Tryz.func102 Tryz.ntmps102 Tryz.results102 ?_
 cases hz : vP g
 all_goals
  repeat' (first | (simp only [go_sem, D, E, H, J, N, O, U, reduceCtorEq, V, W, Y, Z, zL, encP_eq g, hz] <;> refine nf ?_) | (refine stp ?_; intro K hK) | (apply hK; clear hK K) | refine stn ?_ | (with_reducible first | refine ⟨_, hv, ?_⟩ | refine ⟨_, hc, ?_⟩) | refine stq ?_ | fail)
 all_goals (first | exact nn | refine fin0 ?_)
 all_goals (first | rfl | (rw [ha]; done) | (rw [ha]; rfl))
termination_by cntP g
decreasing_by exact cntP_kid hk
def lastO {α : Type} : Option α → List α → Option α
 | o, [] => o
 | _, z :: l => lastO (some z) l
theorem lastO_snoc {α : Type} (y : α) : ∀ (l : List α) (o : Option α), lastO o (l ++ [y]) = some y
 | [], _ => rfl
 | _ :: l, _ => lastO_snoc y l _
theorem goB_snoc {α : Type} (f : α → α → Int) (p : α → Bool) (x : α) : ∀ (l : List α) (o : Option α), goB f p o (l ++ [x]) = (goB f p o l && (p x && (match lastO o l with | none => true | some y => decide (f y x < 0))))
 | [], none => by simp [goB, lastO]
 | [], some y => by simp [goB, lastO]
 | z :: l, none => by simp only [List.cons_append, goB, goB_snoc f p x l, lastO, Bool.and_assoc]
 | z :: l, some y => by simp only [List.cons_append, goB, goB_snoc f p x l, lastO, Bool.and_assoc]
theorem goB_take0 {α : Type} {f : α → α → Int} {p : α → Bool} {l : List α} {k : Nat} {x : α} (h0 : k = 0) (hx : l[k]? = some x) : goB f p none (l.take (k + 1)) = (goB f p none (l.take k) && p x) := by
 subst h0
 cases l with
 | nil => simp at hx
 | cons z l => simp at hx; subst hx; simp [goB]
theorem goB_takeS {α : Type} {f : α → α → Int} {p : α → Bool} {l : List α} {k : Nat} {x y : α} (hy : l[k]? = some y) (hx : l[k + 1]? = some x) : goB f p none (l.take (k + 2)) = (goB f p none (l.take (k + 1)) && (p x && decide (f y x < 0))) := by
 rw [List.take_add_one (i := k + 1), hx, Option.toList_some, goB_snoc]
 have : lastO none (l.take (k + 1)) = some y := by rw [List.take_add_one, hy, Option.toList_some, lastO_snoc]
 rw [this]
set_option maxHeartbeats 64000000 in
theorem goodP_a (g : Pat) (ih : ∀ k ∈ g.kids, PC zP 89 [Pt k] (Bo (treeP k))) (hk : g.kind = 1 ∨ g.kind = 2 ∨ g.kind = 3 ∨ g.kind = 4) : PC zP 89 [Pt g] (Bo (treeP g)) := by
 have htr := treeP_eq g
 have hz0 : decide ((0 : Int) < (g.kids.length : Int)) = !decide ((g.kids.length : Int) = 0) := by rw [← Bool.coe_iff_coe]; simp only [decide_eq_true_eq, Bool.not_eq_true', decide_eq_false_iff_not]; omega
 rcases hk with hk | hk | hk | hk
 iterate 4
  ·
   refine PCB.ob Tryz.func89 Tryz.ntmps89 Tryz.results89 ?_
   repeat' (first | (with_reducible refine AWP.join (id := 6) (fun b : Bool => [(5, Bo b)]) (fun _ => []) [1, 3] [1] (fun b => Is (vP g) b) ?_ ?_) | (simp only [go_sem, D, E, H, J, N, O, U, reduceCtorEq, V, W, Y, Z, zL, encP_eq g, hk, lB] <;> refine nf ?_) | (refine stp ?_; intro K hK) | (apply hK; clear hK K) | refine stn ?_ | (refine AWP.cnd ?_ ?_ <;> intro h <;> (try simp only [zM, zN] at h)) | (refine ⟨fun h => ?_, fun h => ?_⟩ <;> (try simp only [zM, zN] at h) <;> try simp only [h]) | (with_reducible refine ⟨_, refIsVariable_c _, ?_⟩) | refine stq ?_ | (clear hK K))
   any_goals (refine fin0 ?_; rw [htr]; simp only [vP, badP, bodyP, numP, textP, kidsP, keysP, hk, hz0, Int.reduceEq, Int.reduceLE, *, zb, Bool.not_not, cT, cF, dT, dF]; done)
   any_goals (refine ⟨_, ?_, Gh.ts []⟩; unfold Is; simp only [vP, badP, bodyP, numP, textP, kidsP, keysP, hk, hz0, Int.reduceEq, Int.reduceLE, *, zb, Bool.not_not, cT, cF, dT, dF]; done)
   intro b hvb
   try simp only [go_sem, D, E, H, J, N, O, U, reduceCtorEq, V, W, Y, Z, zL]
   repeat' (first | (simp only [go_sem, D, E, H, J, N, O, U, reduceCtorEq, V, W, Y, Z, zL, encP_eq g, lB] <;> refine nf ?_) | (refine stp ?_; intro K hK) | (apply hK; clear hK K) | refine stn ?_ | fail)
   refine xE 1 3 rfl rfl fun hlen1 => ?_
   (try rw [lB] at hlen1)
   refine xC (S := Bool) (g.kids) encP (fun k s => (7, I .i64 (k : Nat)) :: [(5, Bo s)]) (fun k s => []) [1, 3] [1] (fun k s => Is s (b && (g.kids.take k).all treeP)) (b) (by simp only [go_sem, D, E, H, J, N, O, U, reduceCtorEq, V, W, Y, Z, zL, encP_eq]; exact Gh.ts []) ?_ ?_ ?_
   ·simp [Is]
   ·intro k s x hlt hx hx' hb hok
    refine st ?_
    have hix := ih x (lP hx)
    have hat := all_takeP (p := treeP) hx
    cases s
    ·
     repeat' (first | (simp only [go_sem, D, E, H, J, N, O, U, reduceCtorEq, V, W, Y, Z, zL, encP_eq g, lB, hb] <;> refine nf ?_) | (refine stp ?_; intro K hK) | (apply hK; clear hK K) | refine stn ?_ | (clear hK K))
     all_goals (rw [wrap_succ hlt hlen1])
     all_goals (refine ⟨false, ?_, Gh.ts []⟩)
     all_goals (show false = _; rw [hat, ← Bool.and_assoc, ← show false = _ from hok]; rfl)
    ·
     repeat' (first | (simp only [go_sem, D, E, H, J, N, O, U, reduceCtorEq, V, W, Y, Z, zL, encP_eq g, lB, hb] <;> refine nf ?_) | (refine stp ?_; intro K hK) | (apply hK; clear hK K) | refine stn ?_ | (with_reducible first | refine ⟨_, hix, ?_⟩ | refine ⟨by omega, encP x, hx', ?_⟩) | refine stq ?_ | (clear hK K))
     all_goals (rw [wrap_succ hlt hlen1])
     all_goals (refine ⟨treeP x, ?_, Gh.ts []⟩)
     all_goals (show treeP x = _; rw [hat, ← Bool.and_assoc, ← show true = _ from hok]; rfl)
   ·intro s hb hok
    refine st ?_
    rw [Is, lK] at hok
    repeat' (first | (simp only [go_sem, D, E, H, J, N, O, U, reduceCtorEq, V, W, Y, Z, zL, encP_eq g, lB, hb] <;> refine nf ?_) | (refine stp ?_; intro K hK) | (apply hK; clear hK K) | refine stn ?_ | (clear hK K))
    all_goals (refine fin0 ?_; rw [htr, show vP g = b from hvb, show s = _ from hok])
end Go.Proofs.YtajfdbdklphonaaGreat
set_option maxRecDepth 20000
set_option maxHeartbeats 16000000
namespace Go.Proofs.YtajfdbdklphonaaGreat
open Go Go.Sx
end Go.Proofs.YtajfdbdklphonaaGreat