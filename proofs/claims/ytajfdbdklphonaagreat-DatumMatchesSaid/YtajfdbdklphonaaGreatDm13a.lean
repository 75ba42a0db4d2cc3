/- Lemmas; conditions: as each states. -/
import Derived.Test.YtajfdbdklphonaaGreatDm13at
import Derived.Test.YtajfdbdklphonaaGreatDm13au
import Derived.Test.YtajfdbdklphonaaGreatDm13ar
import Derived.Test.YtajfdbdklphonaaGreatDm13as
open Go.Proofs.Tryz renaming prog → zP
open List renaming length_map → lB, take_length → lK, drop_length → lL, mem_of_getElem? → lP
open Go.Sx.AWP renaming range → xC, lenB → xE
open Nat renaming reduceBEq → D, reduceBNe → E, reduceAdd → H, reduceSub → J, reduceMul → N, reduceLeDiff → O, reduceLT → U, reduceEqDiff → V
open Int renaming reduceToNat → W, reduceLE → Y, reduceLT → Z, reduceEq → zL
open Bool renaming not_eq_true' → zM, not_eq_false' → zN
set_option linter.unusedVariables false
set_option linter.unusedSimpArgs false
set_option maxRecDepth 20000
set_option maxHeartbeats 16000000
namespace Go.Proofs.YtajfdbdklphonaaGreat
open Go Go.Sx
theorem VG4 (g : Grd) : PC zP 150 [Gt g] (Bo (vG g)) := by
 rcases gkinds g.kind with hk | hk | hk | hk | hk | hk | hk | hk | hk | hk | hk | hk | hk | hk | hk | hk | hk | ⟨g1, g2, g3, g4, g5, g6, g7, g8, g9, g10, g11, g12, g13, g14, g15, g16, g17, ht⟩
 · exact VG1 g (by simp [hk])
 · exact VG1 g (by simp [hk])
 · exact VG1 g (by simp [hk])
 · exact VG1 g (by simp [hk])
 · exact VG1 g (by simp [hk])
 · exact VG1 g (by simp [hk])
 · exact VG2 g (by simp [hk])
 · exact VG2 g (by simp [hk])
 · exact VG2 g (by simp [hk])
 · exact VG2 g (by simp [hk])
 · exact VG2 g (by simp [hk])
 · exact VG2 g (by simp [hk])
 · exact VG3 g (by simp [hk])
 · exact VG3 g (by simp [hk])
 · exact VG3 g (by simp [hk])
 · exact VG3 g (by simp [hk])
 · exact VG3 g (by simp [hk])
 ·
  refine PCB.ob Tryz.func150 Tryz.ntmps150 Tryz.results150 ?_
  repeat' (first | (simp only [go_sem, D, E, H, J, N, O, U, reduceCtorEq, V, W, Y, Z, zL, encG_eq, ht, g1, g2, g3, g4, g5, g6, g7, g8, g9, g10, g11, g12, g13, g14, g15, g16, g17, intG, lB] <;> refine nf ?_) | (refine stp ?_; intro K hK) | (apply hK; clear hK K) | refine stn ?_ | (refine AWP.cnd ?_ ?_ <;> intro h <;> (try simp only [zM, zN] at h)) | (refine ⟨fun h => ?_, fun h => ?_⟩ <;> (try simp only [zM, zN] at h) <;> try simp only [h]) | (with_reducible first | refine ⟨_, isTest_c _, ?_⟩ | refine ⟨_, usesInt_c _, ?_⟩) | refine stq ?_ | (clear hK K))
  all_goals (first | exact lf | (refine fin0 ?_; simp only [vG, badG, bodyG, connG, ht, intG, textG, keyZ, Int.reduceEq, Int.reduceLE, *, zb, cT, cF, dT, dF] <;> rfl))
theorem validGuard_c (g : Grd) : PC zP 150 [Gt g] (Bo (vG g)) := VG4 g
end Go.Proofs.YtajfdbdklphonaaGreat
set_option maxRecDepth 20000
set_option maxHeartbeats 16000000
namespace Go.Proofs.YtajfdbdklphonaaGreat
open Go Go.Sx
mutual
def treeG : Grd → Bool
 | ⟨kind, name, num, text, key, kids⟩ => vG ⟨kind, name, num, text, key, kids⟩ && treeGs kids
def treeGs : List Grd → Bool
 | [] => true
 | g :: l => treeG g && treeGs l
end
theorem treeGs_all : ∀ l : List Grd, treeGs l = l.all treeG
 | [] => by simp only [treeGs, List.all_nil]
 | g :: l => by simp only [treeGs, List.all_cons, treeGs_all l]
theorem treeG_eq (g : Grd) : treeG g = (vG g && g.kids.all treeG) := by cases g; simp only [treeG, treeGs_all]
theorem all_take {α : Type} {p : α → Bool} {l : List α} {k : Nat} {x : α} (hx : l[k]? = some x) : (l.take (k + 1)).all p = ((l.take k).all p && p x) := by
 rw [List.take_add_one, hx, List.all_append]; simp
theorem any_not {α : Type} (p : α → Bool) (l : List α) : (!l.any fun x => !p x) = l.all p := by
 induction l with
 | nil => rfl
 | cons x l ih => rw [List.any_cons, List.all_cons, ← ih]; cases p x <;> simp
theorem validTreeG_c (g : Grd) : PC zP 110 [Gt g] (Bo (treeG g)) := by
 have ih : ∀ k ∈ g.kids, PC zP 110 [Gt k] (Bo (treeG k)) := fun k hk => validTreeG_c k
 have ih1 : ∀ k ∈ g.kids, PC zP 151 [Gt k] (Bo (!treeG k)) := fun k hk => by
  have h := ih k hk
  refine PCB.ob Tryz.func151 Tryz.ntmps151 Tryz.results151 ?_
  repeat' (first | (simp only [go_sem, D, E, H, J, N, O, U, reduceCtorEq, V, W, Y, Z, zL] <;> refine nf ?_) | (refine stp ?_; intro K hK) | (apply hK; clear hK K) | refine stn ?_ | (with_reducible refine ⟨_, h, ?_⟩) | refine stq ?_ | fail)
  all_goals exact lf
 have hc := containsG0 151 (fun k => !treeG k) g.kids ih1
 have hv : PC zP 150 [.st (encG g)] (Bo (vG g)) := validGuard_c g
 have ha := any_not treeG g.kids
 rw [encG_eq] at hv
 rw [treeG_eq]
 refine PCB.ob Tryz.func110 Tryz.ntmps110 Tryz.results110 ?_
 cases hz : vG g
 all_goals
  repeat' (first | (simp only [go_sem, D, E, H, J, N, O, U, reduceCtorEq, V, W, Y, Z, zL, encG_eq g, hz] <;> refine nf ?_) | (refine stp ?_; intro K hK) | (apply hK; clear hK K) | refine stn ?_ | (with_reducible first | refine ⟨_, hv, ?_⟩ | refine ⟨_, hc, ?_⟩) | refine stq ?_ | fail)
 all_goals (first | exact nn | refine fin0 ?_)
 all_goals (first | rfl | (rw [ha]; done) | (rw [ha]; rfl))
termination_by cntG g
decreasing_by exact cnt_kid hk
theorem indexStr_c (l : List (List UInt8)) (s : List UInt8) : PC zP 33 [.one (.dat (.sl 1 (l.map encStr))), S s] (I .i64 (findI (fun x => decide (s = x)) 0 l)) := by
 refine PCB.ob Tryz.func33 Tryz.ntmps33 Tryz.results33 ?_
 repeat' (first | (simp only [go_sem, D, E, H, J, N, O, U, reduceCtorEq, V, W, Y, Z, zL, lB] <;> refine nf ?_) | (refine stp ?_; intro K hK) | (apply hK; clear hK K) | refine stn ?_ | fail)
 refine AWP.len 0 rfl fun hlen0 => ?_
 (try rw [lB] at hlen0)
 refine xC (S := Unit) (l) encStr (fun k s => (8, I .i64 (k : Nat)) :: []) (fun k s => []) [0, 1, 7] [] (fun k u => findI (fun x => decide (s = x)) 0 l = findI (fun x => decide (s = x)) k (l.drop k)) (()) (by refine st ?_; exact Gh.ts []) ?_ ?_ ?_
 ·rfl
 ·intro k u x hlt hx hx' hb hok
  refine st ?_
  rw [findI_drop _ l k x hx] at hok
  cases hz : decide (s = x) <;> simp only [hz, cT, cF] at hok
  ·
   repeat' (first | (simp only [go_sem, D, E, H, J, N, O, U, reduceCtorEq, V, W, Y, Z, zL, lB, encStr, hb, hz] <;> refine nf ?_) | (refine stp ?_; intro K hK) | (apply hK; clear hK K) | refine stn ?_ | (with_reducible refine ⟨by omega, encStr x, hx', ?_⟩) | (clear hK K))
   all_goals (rw [wrap_succ hlt hlen0])
   all_goals (refine ⟨(), ?_, Gh.ts []⟩)
   all_goals exact hok
  ·
   repeat' (first | (simp only [go_sem, D, E, H, J, N, O, U, reduceCtorEq, V, W, Y, Z, zL, lB, encStr, hb, hz] <;> refine nf ?_) | (refine stp ?_; intro K hK) | (apply hK; clear hK K) | refine stn ?_ | (with_reducible refine ⟨by omega, encStr x, hx', ?_⟩) | (clear hK K))
   all_goals (first | exact lf | (refine fin0 ?_; simp only [hok, zb, cT, cF, dT, dF] <;> rfl))
 intro s0 hb0 hok0
 refine st ?_
 rw [lL] at hok0
 repeat' (first | (simp only [go_sem, D, E, H, J, N, O, U, reduceCtorEq, V, W, Y, Z, zL, lB, hb0] <;> refine nf ?_) | (refine stp ?_; intro K hK) | (apply hK; clear hK K) | refine stn ?_ | (clear hK K))
 all_goals (refine fin0 ?_; rw [hok0]; rfl)
end Go.Proofs.YtajfdbdklphonaaGreat