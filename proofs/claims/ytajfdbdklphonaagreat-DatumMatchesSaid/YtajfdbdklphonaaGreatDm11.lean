/- Lemmas; conditions: as each states. -/
import Derived.Test.YtajfdbdklphonaaGreatDm11b
open Go.Proofs.Tryz renaming prog → zP
open List renaming length_append → lA, length_map → lB, length_cons → lC, length_nil → lD, map_cons → lE, take_length → lK, take_add_one → lO, mem_of_getElem? → lP, length_take → lQ
open Go.Sx.AWP renaming range → xC, gh → xD, len → xF
open Go.Sx.Gh renaming nilrow → xI
open Nat renaming reduceBEq → D, reduceBNe → E, reduceAdd → H, reduceSub → J, reduceMul → N, reduceLeDiff → O, reduceLT → U, reduceEqDiff → V
open Int renaming reduceToNat → W, reduceLE → Y, reduceLT → Z, reduceEq → zL
set_option linter.unusedVariables false
set_option linter.unusedSimpArgs false
set_option maxRecDepth 20000
set_option maxHeartbeats 16000000
namespace Go.Proofs.YtajfdbdklphonaaGreat
open Go Go.Sx
theorem eachDat_c (F : FuncId) (l : List Dat) (hl : l.length ≤ 100000000) (h : ∀ d ∈ l, PC zP F [.st (encDat d)] (.st (encDat d))) : PC zP 49 [.one (.dat (.sl 13 (l.map encDat))), .one (.dat (.fn F))] (.one (.dat (.sl 13 (l.map encDat)))) := by
 refine PCB.ob Tryz.func49 Tryz.ntmps49 Tryz.results49 ?_
 refine AWP.ghQ ?_
 repeat' (first | (simp only [go_sem, D, E, H, J, N, O, U, reduceCtorEq, V, W, Y, Z, zL, lB] <;> refine nf ?_) | (refine stp ?_; intro K hK) | (apply hK; clear hK K) | refine stn ?_ | fail)
 refine xD (xI 5 900 rfl rfl rfl rfl) ?_
 refine xF 8 rfl fun hlen0 => ?_
 (try rw [lB] at hlen0)
 refine xC (S := List (Dat)) (l) encDat (fun k s => (10, I .i64 (k : Nat)) :: [(5, .one (.own 900 s.length))]) (fun k s => [(900, .row 13 (s.map encDat))]) [1, 8, 9] [] (fun k s => Is s (l.take k)) ([]) (by refine st ?_; exact Gh.ts []) ?_ ?_ ?_
 ·simp [Is]
 ·intro k s x hlt hx hx' hb hok
  refine st ?_
  have hix := h x (lP hx)
  have hsl : s.length ≤ k := by rw [show s = _ from hok, lQ]; omega
  have hsn : s.map encDat ++ [encDat x] = (s ++ [x]).map encDat := by simp
  repeat' (first | (simp only [go_sem, D, E, H, J, N, O, U, reduceCtorEq, V, W, Y, Z, zL, lB, hb, hsn] <;> refine nf ?_) | (refine stp ?_; intro K hK) | (apply hK; clear hK K) | refine stn ?_ | (with_reducible first | refine ⟨_, hix, ?_⟩ | refine ⟨by omega, encDat x, hx', ?_⟩ | (refine ⟨(by first | omega | (simp only [lA, lB, lQ, List.length_drop, lC, lD, List.length_replicate]; omega) : _ ≤ _), ?_⟩)) | refine stq ?_ | (clear hK K))
  all_goals (rw [wrap_succ hlt hlen0])
  all_goals (refine ⟨s ++ [x], ?_, Gh.ts [(900, 19)]⟩)
  all_goals (rw [Is, lO, hx, ← show s = _ from hok]; rfl)
 ·intro s hb hok
  refine st ?_
  rw [Is, lK] at hok
  repeat' (first | (simp only [go_sem, D, E, H, J, N, O, U, reduceCtorEq, V, W, Y, Z, zL, lB, hb] <;> refine nf ?_) | (refine stp ?_; intro K hK) | (apply hK; clear hK K) | refine stn ?_ | (clear hK K))
  refine ⟨_, Gh.fs 900, ?_⟩
  simp only [go_sem, D, E, H, J, N, O, U, reduceCtorEq, V, W, Y, Z, zL, lB]
  all_goals (first | exact nn | refine fin0 ?_)
  all_goals (rw [show s = _ from hok])
theorem eachNode_c (F : FuncId) (l : List NodeD) (hl : l.length ≤ 100000000) (h : ∀ d ∈ l, PC zP F [.st (encNode d)] (.st (encNode d))) : PC zP 86 [.one (.dat (.sl 8 (l.map encNode))), .one (.dat (.fn F))] (.one (.dat (.sl 8 (l.map encNode)))) := by
 refine PCB.ob Tryz.func86 Tryz.ntmps86 Tryz.results86 ?_
 refine AWP.ghQ ?_
 repeat' (first | (simp only [go_sem, D, E, H, J, N, O, U, reduceCtorEq, V, W, Y, Z, zL, lB] <;> refine nf ?_) | (refine stp ?_; intro K hK) | (apply hK; clear hK K) | refine stn ?_ | fail)
 refine xD (xI 5 900 rfl rfl rfl rfl) ?_
 refine xF 8 rfl fun hlen0 => ?_
 (try rw [lB] at hlen0)
 refine xC (S := List (NodeD)) (l) encNode (fun k s => (10, I .i64 (k : Nat)) :: [(5, .one (.own 900 s.length))]) (fun k s => [(900, .row 8 (s.map encNode))]) [1, 8, 9] [] (fun k s => Is s (l.take k)) ([]) (by refine st ?_; exact Gh.ts []) ?_ ?_ ?_
 ·simp [Is]
 ·intro k s x hlt hx hx' hb hok
  refine st ?_
  have hix := h x (lP hx)
  have hsl : s.length ≤ k := by rw [show s = _ from hok, lQ]; omega
  have hsn : s.map encNode ++ [encNode x] = (s ++ [x]).map encNode := by simp
  repeat' (first | (simp only [go_sem, D, E, H, J, N, O, U, reduceCtorEq, V, W, Y, Z, zL, lB, hb, hsn] <;> refine nf ?_) | (refine stp ?_; intro K hK) | (apply hK; clear hK K) | refine stn ?_ | (with_reducible first | refine ⟨_, hix, ?_⟩ | refine ⟨by omega, encNode x, hx', ?_⟩ | (refine ⟨(by first | omega | (simp only [lA, lB, lQ, List.length_drop, lC, lD, List.length_replicate]; omega) : _ ≤ _), ?_⟩)) | refine stq ?_ | (clear hK K))
  all_goals (rw [wrap_succ hlt hlen0])
  all_goals (refine ⟨s ++ [x], ?_, Gh.ts [(900, 19)]⟩)
  all_goals (rw [Is, lO, hx, ← show s = _ from hok]; rfl)
 ·intro s hb hok
  refine st ?_
  rw [Is, lK] at hok
  repeat' (first | (simp only [go_sem, D, E, H, J, N, O, U, reduceCtorEq, V, W, Y, Z, zL, lB, hb] <;> refine nf ?_) | (refine stp ?_; intro K hK) | (apply hK; clear hK K) | refine stn ?_ | (clear hK K))
  refine ⟨_, Gh.fs 900, ?_⟩
  simp only [go_sem, D, E, H, J, N, O, U, reduceCtorEq, V, W, Y, Z, zL, lB]
  all_goals (first | exact nn | refine fin0 ?_)
  all_goals (rw [show s = _ from hok])
theorem eachVal_c (F : FuncId) (l : List Val) (hl : l.length ≤ 100000000) (h : ∀ d ∈ l, PC zP F [.st (encVal d)] (.st (encVal d))) : PC zP 62 [.one (.dat (.sl 7 (l.map encVal))), .one (.dat (.fn F))] (.one (.dat (.sl 7 (l.map encVal)))) := by
 refine PCB.ob Tryz.func62 Tryz.ntmps62 Tryz.results62 ?_
 refine AWP.ghQ ?_
 repeat' (first | (simp only [go_sem, D, E, H, J, N, O, U, reduceCtorEq, V, W, Y, Z, zL, lB] <;> refine nf ?_) | (refine stp ?_; intro K hK) | (apply hK; clear hK K) | refine stn ?_ | fail)
 refine xD (xI 5 900 rfl rfl rfl rfl) ?_
 refine xF 8 rfl fun hlen0 => ?_
 (try rw [lB] at hlen0)
 refine xC (S := List (Val)) (l) encVal (fun k s => (10, I .i64 (k : Nat)) :: [(5, .one (.own 900 s.length))]) (fun k s => [(900, .row 7 (s.map encVal))]) [1, 8, 9] [] (fun k s => Is s (l.take k)) ([]) (by refine st ?_; exact Gh.ts []) ?_ ?_ ?_
 ·simp [Is]
 ·intro k s x hlt hx hx' hb hok
  refine st ?_
  have hix := h x (lP hx)
  have hsl : s.length ≤ k := by rw [show s = _ from hok, lQ]; omega
  have hsn : s.map encVal ++ [encVal x] = (s ++ [x]).map encVal := by simp
  repeat' (first | (simp only [go_sem, D, E, H, J, N, O, U, reduceCtorEq, V, W, Y, Z, zL, lB, hb, hsn] <;> refine nf ?_) | (refine stp ?_; intro K hK) | (apply hK; clear hK K) | refine stn ?_ | (with_reducible first | refine ⟨_, hix, ?_⟩ | refine ⟨by omega, encVal x, hx', ?_⟩ | (refine ⟨(by first | omega | (simp only [lA, lB, lQ, List.length_drop, lC, lD, List.length_replicate]; omega) : _ ≤ _), ?_⟩)) | refine stq ?_ | (clear hK K))
  all_goals (rw [wrap_succ hlt hlen0])
  all_goals (refine ⟨s ++ [x], ?_, Gh.ts [(900, 19)]⟩)
  all_goals (rw [Is, lO, hx, ← show s = _ from hok]; rfl)
 ·intro s hb hok
  refine st ?_
  rw [Is, lK] at hok
  repeat' (first | (simp only [go_sem, D, E, H, J, N, O, U, reduceCtorEq, V, W, Y, Z, zL, lB, hb] <;> refine nf ?_) | (refine stp ?_; intro K hK) | (apply hK; clear hK K) | refine stn ?_ | (clear hK K))
  refine ⟨_, Gh.fs 900, ?_⟩
  simp only [go_sem, D, E, H, J, N, O, U, reduceCtorEq, V, W, Y, Z, zL, lB]
  all_goals (first | exact nn | refine fin0 ?_)
  all_goals (rw [show s = _ from hok])
theorem cloneInts_c (l : List (List C)) (hl : l.length ≤ 100000000) : PC zP 122 [.one (.dat (.sl 1 l))] (.one (.dat (.sl 1 l))) := by
 refine PCB.ob Tryz.func122 Tryz.ntmps122 Tryz.results122 ?_
 refine AWP.ghQ ?_
 repeat' (first | ( refine AWP.nilR (e := 3) rfl (by decide) (by decide) rfl (fun hnil => ?_) ?_) | (simp only [go_sem, D, E, H, J, N, O, U, reduceCtorEq, V, W, Y, Z, zL] <;> refine nf ?_) | (refine stp ?_; intro K hK) | (apply hK; clear hK K) | refine stn ?_ | (with_reducible first | (refine Or.inr (show vBuildOwn _ 5 _ _ _ _ _ _ from ?_); unfold vBuildOwn; with_reducible refine Or.inr ?_; simp only [vBuildRow, go_sem, D, E, H, J, N, O, U, reduceCtorEq, V, W, Y, Z, zL]) | (refine ⟨(by first | omega | (simp only [lA, lB, lQ, List.length_drop, lC, lD, List.length_replicate]; omega) : _ ≤ _), ?_⟩)) | (clear hK K))
 ·refine ⟨_, Gh.refl _, ?_⟩
  simp only [go_sem, D, E, H, J, N, O, U, reduceCtorEq, V, W, Y, Z, zL]
  refine fin0 ?_
  rw [hnil]
 ·
  refine ⟨_, Gh.fs 7, ?_⟩
  refine st ?_
  all_goals (first | exact nn | refine fin0 ?_)
  all_goals rfl
theorem cloneFields_c (l : List (List C)) (hl : l.length ≤ 100000000) : PC zP 123 [.one (.dat (.sl 4 l))] (.one (.dat (.sl 4 l))) := by
 refine PCB.ob Tryz.func123 Tryz.ntmps123 Tryz.results123 ?_
 refine AWP.ghQ ?_
 repeat' (first | ( refine AWP.nilR (e := 109) rfl (by decide) (by decide) rfl (fun hnil => ?_) ?_) | (simp only [go_sem, D, E, H, J, N, O, U, reduceCtorEq, V, W, Y, Z, zL] <;> refine nf ?_) | (refine stp ?_; intro K hK) | (apply hK; clear hK K) | refine stn ?_ | (with_reducible first | (refine Or.inr (show vBuildOwn _ 5 _ _ _ _ _ _ from ?_); unfold vBuildOwn; with_reducible refine Or.inr ?_; simp only [vBuildRow, go_sem, D, E, H, J, N, O, U, reduceCtorEq, V, W, Y, Z, zL]) | (refine ⟨(by first | omega | (simp only [lA, lB, lQ, List.length_drop, lC, lD, List.length_replicate]; omega) : _ ≤ _), ?_⟩)) | (clear hK K))
 ·refine ⟨_, Gh.refl _, ?_⟩
  simp only [go_sem, D, E, H, J, N, O, U, reduceCtorEq, V, W, Y, Z, zL]
  refine fin0 ?_
  rw [hnil]
 ·
  refine ⟨_, Gh.fs 7, ?_⟩
  refine st ?_
  all_goals (first | exact nn | refine fin0 ?_)
  all_goals rfl
theorem encNode_soft (x : NodeD) : (encNode x).map C.soft = encNode x := rfl
theorem cnode_c (x : NodeD) (h1 : x.kids.length ≤ 100000000) (h2 : x.fields.length ≤ 100000000) : PC zP 87 [.st (encNode x)] (.st (encNode x)) := by
 have c1 := cloneInts_c (x.kids.map encInt) (by rw [lB]; exact h1)
 have c2 := cloneFields_c (x.fields.map encField) (by rw [lB]; exact h2)
 refine PCB.ob Tryz.func87 Tryz.ntmps87 Tryz.results87 ?_
 repeat' (first | (simp only [go_sem, D, E, H, J, N, O, U, reduceCtorEq, V, W, Y, Z, zL, encNode] <;> refine nf ?_) | (refine stp ?_; intro K hK) | (apply hK; clear hK K) | refine stn ?_ | (with_reducible first | refine ⟨_, c1, ?_⟩ | refine ⟨_, c2, ?_⟩) | (with_reducible refine AWP.genR2 (id := 1) [7,9] [1] [1,4] 6 [] mixed (by kernel_rfl) fun K hK => ?_; simp only [Bx.outs, Bx.drop, cT, cF, Nat.reduceBEq, go_sem]) | fail)
 all_goals (first | exact nn | refine fin0 ?_)
 all_goals rfl
end Go.Proofs.YtajfdbdklphonaaGreat
namespace Go.Sx
variable {P : Program}
attribute [go_sem] evsH Bx.drops
theorem vCallX.mk {g : FuncId} {us : List T} {env : Env} {B : Bx} {K : T → Bx → Prop} {r : T} {B1 B1' : Bx} (h : PCX P g us B1 r B1') (h1 : Bx.subL B1 B) (h2 : nodupN (B1.map (·.1)) = true) (h3 : newNames (B1'.map (·.1)) env B = true)
    (h4 : r.inP (B1'.map (·.1)).contains = true) (h5 : bxInP (B1'.map (·.1)).contains B1' = true) (hK : K r (B1' ++ Bx.drops (B1.map (·.1)) B)) : vCallX P g us env B K :=
  ⟨r, B1, B1', h, h1, h2, h3, h4, h5, hK⟩
end Go.Sx
set_option maxRecDepth 20000
set_option maxHeartbeats 16000000
namespace Go.Proofs.YtajfdbdklphonaaGreat
open Go Go.Sx
def NSm (x : NodeD) : Prop := x.kids.length ≤ 100000000 ∧ x.fields.length ≤ 100000000
inductive DCl : Dat → Prop
 | mk (d : Dat) (h1 : d.kids.length ≤ 1000000) (h2 : d.keys.length ≤ 1000000) (h3 : d.nodes.length ≤ 100000000) (h4 : ∀ x ∈ d.nodes, NSm x) (h : ∀ k ∈ d.kids, DCl k) : DCl d
theorem DCl.kids {d : Dat} (h : DCl d) : d.kids.length ≤ 1000000 := by cases h; assumption
theorem DCl.keys {d : Dat} (h : DCl d) : d.keys.length ≤ 1000000 := by cases h; assumption
theorem DCl.nodes {d : Dat} (h : DCl d) : d.nodes.length ≤ 100000000 := by cases h; assumption
theorem DCl.node {d : Dat} (h : DCl d) : ∀ x ∈ d.nodes, NSm x := by cases h; assumption
theorem DCl.kid {d : Dat} (h : DCl d) : ∀ k ∈ d.kids, DCl k := by cases h; assumption
theorem DCl.small {d : Dat} (h : DCl d) : Small d := by
 induction h with
 | mk d h1 h2 h3 h4 h ih => exact Small.mk d h1 h2 ih
theorem cloneType_c (l : List NodeD) (r : Int) (hl : l.length ≤ 100000000) (h : ∀ x ∈ l, NSm x) : PC zP 50 [.st [.sl 8 (l.map encNode), .int .i64 r]] (.st [.sl 8 (l.map encNode), .int .i64 r]) := by
 have c1 := eachNode_c 87 l hl fun x hx => cnode_c x (h x hx).1 (h x hx).2
 refine PCB.ob Tryz.func50 Tryz.ntmps50 Tryz.results50 ?_
 repeat' (first | (simp only [go_sem, D, E, H, J, N, O, U, reduceCtorEq, V, W, Y, Z, zL] <;> refine nf ?_) | (refine stp ?_; intro K hK) | (apply hK; clear hK K) | refine stn ?_ | (with_reducible refine ⟨_, c1, ?_⟩) | refine stq ?_ | fail)
 all_goals (first | exact nn | refine fin0 ?_)
 all_goals rfl
theorem cloneDat_c (d : Dat) (hd : DCl d) : PC zP 24 [.st (encDat d)] (.st (encDat d)) := by
 have ih : ∀ k ∈ d.kids, PC zP 24 [.st (encDat k)] (.st (encDat k)) := fun k hk => cloneDat_c k (hd.kid k hk)
 have c1 := eachDat_c 24 d.kids (by have := hd.kids; omega) ih
 have c2 := cloneKeys_c d.keys (by have := hd.keys; omega)
 have c3 := cloneType_c d.nodes d.root hd.nodes hd.node
 rw [encDat_eq]
 refine PCB.ob Tryz.func24 Tryz.ntmps24 Tryz.results24 ?_
 repeat' (first | (simp only [go_sem, D, E, H, J, N, O, U, reduceCtorEq, V, W, Y, Z, zL, encDat_eq d] <;> refine nf ?_) | (refine stp ?_; intro K hK) | (apply hK; clear hK K) | refine stn ?_ | (with_reducible first | refine ⟨_, c1, ?_⟩ | refine ⟨_, c2, ?_⟩ | refine ⟨_, c3, ?_⟩) | (with_reducible refine AWP.genR2 (id := 1) [10,12,14] [1] [1,4,7] 9 [] mixed (by kernel_rfl) fun K hK => ?_; simp only [Bx.outs, Bx.drop, cT, cF, Nat.reduceBEq, go_sem]) | fail)
 all_goals (first | exact nn | refine fin0 ?_)
 all_goals rfl
termination_by SizeOf.sizeOf d
decreasing_by
 cases d; simp only at hk; have := List.sizeOf_lt_of_mem hk; simp; omega
theorem eachEnt0_c (F : FuncId) : PC zP 63 [.one (.dat (.sl 9 [])), .one (.dat (.fn F))] (.one (.dat (.sl 9 []))) := by
 refine PCB.ob Tryz.func63 Tryz.ntmps63 Tryz.results63 ?_
 repeat' (first | (simp only [go_sem, D, E, H, J, N, O, U, reduceCtorEq, V, W, Y, Z, zL, lD] <;> refine nf ?_) | (refine stp ?_; intro K hK) | (apply hK; clear hK K) | refine stn ?_ | fail)
 refine AWP.loopS (X := Unit) (fun x => [(10, I .i64 0), (9, I .i64 0), (5, .one (.dat (.nil 9)))]) (fun _ => []) (fun x => True) (fun x => 0) () (Gh.ts []) trivial ?_
 rintro u hu
 repeat' (first | (simp only [go_sem, D, E, H, J, N, O, U, reduceCtorEq, V, W, Y, Z, zL] <;> refine nf ?_) | (refine stp ?_; intro K hK) | (apply hK; clear hK K) | refine stn ?_ | (clear hK K))
 all_goals (first | exact nn | refine fin0 ?_)
 all_goals rfl
theorem cloneVal_c (d : Dat) (hd : Small d) : PC zP 34 [.st (encVal (eraseV d))] (.st (encVal (eraseV d))) := by
 have ih : ∀ k ∈ d.kids, PC zP 34 [.st (encVal (eraseV k))] (.st (encVal (eraseV k))) := fun k hk => cloneVal_c k (hd.kid k hk)
 obtain ⟨kids, hke, hkl, hkk⟩ : ∃ kids : List Val, (eraseV d).kids = kids ∧ kids.length ≤ 1000000 ∧ ∀ v ∈ kids, PC zP 34 [.st (encVal v)] (.st (encVal v)) := by
  rw [eraseV_eq]
  cases decide (d.kind = 9)
  ·refine ⟨d.kids.map eraseV, rfl, by rw [lB]; exact hd.kids, fun v hv => ?_⟩
   obtain ⟨k, hk, rfl⟩ := List.mem_map.1 hv
   exact ih k hk
  ·exact ⟨[], rfl, by simp, fun v hv => by cases hv⟩
 obtain ⟨keys, hye, hyl⟩ : ∃ keys : List KeyD, (eraseV d).keys = keys ∧ keys.length ≤ 1000000 := by
  rw [eraseV_eq]
  cases decide (d.kind = 9)
  ·exact ⟨d.keys, rfl, hd.keys⟩
  ·exact ⟨[], rfl, by simp⟩
 have hen : (eraseV d).ents = [] := by rw [eraseV_eq]; cases decide (d.kind = 9) <;> rfl
 have hla : (eraseV d).labels = [] := by rw [eraseV_eq]; cases decide (d.kind = 9) <;> rfl
 generalize eraseV d = v at *
 have c1 := eachVal_c 34 kids (by omega) hkk
 have c2 := cloneKeys_c keys (by omega)
 have c3 := eachEnt0_c 64
 have c4 : PC zP 65 [.one (.dat (.sl 1 []))] (.one (.dat (.sl 1 []))) := cloneStr_c [] (by simp)
 rw [encVal_eq, hke, hye, hen, hla]
 simp only [List.map_nil]
 refine PCB.ob Tryz.func34 Tryz.ntmps34 Tryz.results34 ?_
 repeat' (first | (simp only [go_sem, D, E, H, J, N, O, U, reduceCtorEq, V, W, Y, Z, zL] <;> refine nf ?_) | (refine stp ?_; intro K hK) | (apply hK; clear hK K) | refine stn ?_ | (with_reducible first | refine ⟨_, c1, ?_⟩ | refine ⟨_, c2, ?_⟩ | refine ⟨_, c3, ?_⟩ | refine ⟨_, c4, ?_⟩) | (with_reducible refine AWP.genR2 (id := 1) [7,9] [1] [1,4] 6 [] mixed (by kernel_rfl) fun K hK => ?_; simp only [Bx.outs, Bx.drop, cT, cF, Nat.reduceBEq, go_sem]) | (with_reducible refine AWP.genR2 (id := 2) [7,9] [1] [1,4] 6 [] mixed (by kernel_rfl) fun K hK => ?_; simp only [Bx.outs, Bx.drop, cT, cF, Nat.reduceBEq, go_sem]) | fail)
 all_goals (first | exact nn | refine fin0 ?_)
 all_goals rfl
termination_by SizeOf.sizeOf d
decreasing_by
 cases d; simp only at hk; have := List.sizeOf_lt_of_mem hk; simp; omega
mutual
def bulkD : Dat → Nat
 | ⟨_, _, _, kids, keys, _, _, _, _, _, _, _, _⟩ => 1 + keys.length + bulkDs kids
def bulkDs : List Dat → Nat
 | [] => 0
 | d :: l => bulkD d + bulkDs l
end
theorem bulkD_eq (d : Dat) : bulkD d = 1 + d.keys.length + bulkDs d.kids := by cases d; rw [bulkD]
theorem bulkDs_app : ∀ a b : List Dat, bulkDs (a ++ b) = bulkDs a + bulkDs b
 | [], b => by simp [bulkDs]
 | d :: a, b => by simp only [List.cons_append, bulkDs, bulkDs_app a b]; omega
theorem bulkDs_mem {d : Dat} : ∀ {l : List Dat}, d ∈ l → bulkD d ≤ bulkDs l
 | x :: l, h => by
  rw [bulkDs]
  rcases List.mem_cons.1 h with rfl | h
  ·omega
  ·have := bulkDs_mem h; omega
theorem bulkDs_len : ∀ l : List Dat, l.length ≤ bulkDs l
 | [] => by simp
 | d :: l => by have := bulkDs_len l; have := bulkD_eq d; rw [bulkDs, lC]; omega
theorem bulkD_kid {d k : Dat} (h : k ∈ d.kids) : bulkD k < bulkD d := by have := bulkDs_mem h; have := bulkD_eq d; omega
mutual
theorem cnt_bulkD : ∀ d : Dat, cntD d ≤ bulkD d
 | ⟨_, _, _, kids, keys, _, _, _, _, _, _, _, _⟩ => by have := cnts_bulkD kids; rw [cntD, bulkD]; omega
theorem cnts_bulkD : ∀ l : List Dat, cntDs l ≤ bulkDs l
 | [] => by simp [cntDs]
 | d :: l => by have := cnt_bulkD d; have := cnts_bulkD l; rw [cntDs, bulkDs]; omega
end
theorem bulk_erases : ∀ l : List Dat, (∀ d ∈ l, bulkV (eraseV d) ≤ bulkD d) → bulkVs (l.map eraseV) ≤ bulkDs l
 | [], _ => by simp [bulkVs]
 | d :: l, h => by
  have h1 := h d (by simp)
  have h2 := bulk_erases l fun x hx => h x (List.mem_cons_of_mem _ hx)
  rw [lE, bulkVs, bulkDs]; omega
theorem bulk_erase (d : Dat) : bulkV (eraseV d) ≤ bulkD d := by
 have ih : ∀ k ∈ d.kids, bulkV (eraseV k) ≤ bulkD k := fun k hk => bulk_erase k
 have h2 := bulk_erases d.kids ih
 rw [eraseV_eq, bulkD_eq]
 cases decide (d.kind = 9)
 ·rw [cF, bulkV_eq]; simp only [bulkEs, lD]; omega
 ·rw [cT, bulkV_eq]; simp only [bulkEs, bulkVs, lD]; omega
termination_by SizeOf.sizeOf d
decreasing_by
 cases d; simp only at hk; have := List.sizeOf_lt_of_mem hk; simp; omega
inductive NdG : Dat → Prop
 | mk (d : Dat) (h1 : d.nodes.length ≤ 2) (h2 : ∀ x ∈ d.nodes, x.kids.length ≤ 10 ∧ x.fields = []) (h : ∀ k ∈ d.kids, NdG k) : NdG d
theorem NdG.n {d : Dat} (h : NdG d) : d.nodes.length ≤ 2 := by cases h; assumption
theorem NdG.x {d : Dat} (h : NdG d) : ∀ x ∈ d.nodes, x.kids.length ≤ 10 ∧ x.fields = [] := by cases h; assumption
theorem NdG.kid {d : Dat} (h : NdG d) : ∀ k ∈ d.kids, NdG k := by cases h; assumption
theorem cl_of (d : Dat) (h : NdG d) (hb : bulkD d ≤ 1000000) : DCl d := by
 have e := bulkD_eq d
 have hl := bulkDs_len d.kids
 refine DCl.mk d (by omega) (by omega) (by have := h.n; omega) (fun x hx => by have := h.x x hx; exact ⟨by omega, by rw [this.2]; simp⟩) fun k hk => cl_of k (h.kid k hk) (by have := bulkD_kid hk; omega)
termination_by bulkD d
decreasing_by exact bulkD_kid hk
theorem NdG.leaf {d : Dat} (h1 : d.nodes = []) (h2 : d.kids = []) : NdG d := NdG.mk d (by rw [h1]; simp) (fun x hx => by rw [h1] at hx; cases hx) fun k hk => by rw [h2] at hk; cases hk
theorem foldK (k : KeyD) (d : Dat) : ∀ (l : List (KeyD × Dat)) (a : PutA), bulkDs (l.foldl (putStep k d) a).kids + (bif (l.foldl (putStep k d) a).placed then 0 else bulkD d) ≤ bulkDs a.kids + (bif a.placed then 0 else bulkD d) + bulkDs (l.map (·.2)) ∧
    (l.foldl (putStep k d) a).keys.length + (bif (l.foldl (putStep k d) a).placed then 0 else 1) ≤ a.keys.length + (bif a.placed then 0 else 1) + l.length ∧ ∀ x ∈ (l.foldl (putStep k d) a).kids, x ∈ a.kids ∨ x = d ∨ x ∈ l.map (·.2)
  | [], a => ⟨by simp [bulkDs], by simp, fun x hx => .inl hx⟩
  | x :: l, a => by
    rw [List.foldl_cons]
    obtain ⟨h1, h2, h3⟩ := foldK k d l (putStep k d a x)
    have hs : bulkDs (putStep k d a x).kids + (bif (putStep k d a x).placed then 0 else bulkD d) ≤ bulkDs a.kids + (bif a.placed then 0 else bulkD d) + bulkD x.2 ∧
        (putStep k d a x).keys.length + (bif (putStep k d a x).placed then 0 else 1) ≤ a.keys.length + (bif a.placed then 0 else 1) + 1 ∧ ∀ y ∈ (putStep k d a x).kids, y ∈ a.kids ∨ y = d ∨ y = x.2 := by
      obtain ⟨ak, ad, ap⟩ := a
      unfold putStep
      cases decide (keyCmp k x.1 ≤ 0) <;> cases decide (keyCmp k x.1 = 0) <;> cases ap <;> simp only [Bool.not_true, Bool.not_false, Bool.and_true, Bool.and_false, Bool.and_self, cT, cF, bulkDs_app, bulkDs, lA, lC, lD]
      all_goals (refine ⟨by omega, by omega, fun y hy => ?_⟩)
      all_goals first
        | exact .inl hy
        | (rcases List.mem_append.1 hy with h | h
           · first
             | exact .inl h
             | (rcases List.mem_append.1 h with h | h
                · exact .inl h
                · exact .inr (.inl (List.mem_singleton.1 h)))
           · first
             | exact .inr (.inr (List.mem_singleton.1 h))
             | exact .inr (.inl (List.mem_singleton.1 h)))
    refine ⟨?_, ?_, fun y hy => ?_⟩
    · rw [lE, bulkDs]; omega
    · rw [lC]; omega
    · rcases h3 y hy with h | h | h
      · rcases hs.2.2 y h with h | h | h
        · exact .inl h
        · exact .inr (.inl h)
        · exact .inr (.inr (by rw [h]; simp))
      · exact .inr (.inl h)
      · exact .inr (.inr (by rw [lE]; exact List.mem_cons_of_mem _ h))
theorem bulkDs_zip : ∀ (a : List KeyD) (b : List Dat), bulkDs ((a.zip b).map (·.2)) ≤ bulkDs b
 | [], b => by simp [bulkDs]
 | _ :: _, [] => by simp
 | x :: a, d :: b => by have := bulkDs_zip a b; simp only [List.zip_cons_cons, lE, bulkDs]; omega
theorem zip_snd {a : List KeyD} {b : List Dat} {x : Dat} (h : x ∈ (a.zip b).map (·.2)) : x ∈ b := by
 obtain ⟨p, hp, rfl⟩ := List.mem_map.1 h
 exact (List.of_mem_zip hp).2
theorem put_bulk (m : Dat) (k : KeyD) (d : Dat) : bulkD (putR m k d).1 ≤ bulkD m + bulkD d + 1 := by
 unfold putR
 cases putBad m k
 ·simp only [cF, mapDat, bulkD_eq]
  obtain ⟨h1, h2, _⟩ := foldK k d (m.keys.zip m.kids) ⟨[], [], false⟩
  generalize (m.keys.zip m.kids).foldl (putStep k d) ⟨[], [], false⟩ = a at *
  have h3 := bulkDs_zip m.keys m.kids
  have h4 : (m.keys.zip m.kids).length ≤ m.keys.length := by simp; omega
  have e := bulkD_eq d
  simp only [bulkDs, cF, lD] at h1 h2
  unfold putEnd
  cases hp : a.placed <;> rw [hp] at h1 h2 <;> simp only [Bool.not_false, Bool.not_true, cT, cF, lA, lC, lD, bulkDs_app, bulkDs] at * <;> omega
 ·show bulkD zeroDat ≤ _
  rw [bulkD_eq]; simp [zeroDat, bulkDs]
  try omega
theorem put_ndg {m : Dat} {k : KeyD} {d : Dat} (hm : NdG m) (hd : NdG d) : NdG (putR m k d).1 := by
 unfold putR
 cases putBad m k
 ·obtain ⟨_, _, h3⟩ := foldK k d (m.keys.zip m.kids) ⟨[], [], false⟩
  refine NdG.mk _ (by simp [mapDat, zeroDat]) (fun x hx => by cases hx) fun x hx => ?_
  have hx' : x ∈ ((m.keys.zip m.kids).foldl (putStep k d) ⟨[], [], false⟩).kids ∨ x = d := by
   have hx2 : x ∈ (putEnd k d ((m.keys.zip m.kids).foldl (putStep k d) ⟨[], [], false⟩)).kids := hx
   unfold putEnd at hx2
   cases hp : ((m.keys.zip m.kids).foldl (putStep k d) ⟨[], [], false⟩).placed <;> rw [hp] at hx2
   ·rcases List.mem_append.1 hx2 with h | h
    ·exact .inl h
    ·exact .inr (by simpa using h)
   ·exact .inl hx2
  rcases hx' with h | rfl
  ·rcases h3 x h with h | h | h
   ·cases h
   ·exact h ▸ hd
   ·exact hm.kid x (zip_snd h)
  ·exact hd
 ·exact NdG.leaf rfl rfl
theorem base_bulk (k : Int) (s : Src) : bulkD (madeBase k s).1 = 1 ∧ NdG (madeBase k s).1 := by
 unfold madeBase
 cases decide (k = 1) <;> cases decide (k = 2) <;> cases decide (k = 3) <;> cases decide (k = 4) <;> cases decide (k = 5) <;> cases decide (k = 6) <;> exact ⟨by rw [bulkD_eq]; rfl, NdG.leaf rfl rfl⟩
theorem base_fun (k : Int) (s : Src) (h : (madeBase k s).1.kind = 9) : (madeBase k s).1.num < 3 := by
 have hv := nextV_in s (n := 3) (by omega)
 unfold madeBase at *
 cases h1 : decide (k = 1) <;> cases h2 : decide (k = 2) <;> cases h3 : decide (k = 3) <;> cases h4 : decide (k = 4) <;> cases h5 : decide (k = 5) <;> cases h6 : decide (k = 6) <;> rw [h1, h2, h3, h4, h5, h6] at h <;> simp only [cT, cF] at h ⊢ <;> first
  | exact absurd h (by simp [atomDat, intDat, zeroDat]; done)
  | exact hv.2
def MB (B : Nat) (d : Dat) : Prop := bulkD d ≤ B ∧ NdG d
theorem madeN_mb {f : Src → Dat × Src} {B : Nat} (hf : ∀ s, MB B (f s).1) : ∀ (n : Nat) (s : Src) (acc : List Dat), bulkDs (madeN f n s acc).1 ≤ bulkDs acc + n * B ∧ ((∀ x ∈ acc, NdG x) → ∀ x ∈ (madeN f n s acc).1, NdG x)
 | 0, s, acc => ⟨by simp [madeN], fun h => h⟩
 | n + 1, s, acc => by
  obtain ⟨h1, h2⟩ := madeN_mb hf n (f s).2 (acc ++ [(f s).1])
  have h3 := (hf s).1
  rw [madeN]
  refine ⟨?_, fun h => h2 fun x hx => ?_⟩
  ·rw [bulkDs_app, bulkDs, bulkDs] at h1; rw [Nat.add_mul]; omega
  ·rcases List.mem_append.1 hx with hx | hx
   ·exact h x hx
   ·rw [List.mem_singleton.1 hx]; exact (hf s).2
theorem listN_mb {f : Src → Dat × Src} {B : Nat} (hf : ∀ s, MB B (f s).1) : ∀ (n : Nat) (s : Src) (t : Dat), NdG t → MB (bulkD t + n * (B + 1)) (listN f n s t).1
 | 0, s, t, h => ⟨by simp [listN], h⟩
 | n + 1, s, t, h => by
  have h3 := hf s
  obtain ⟨h1, h2⟩ := listN_mb hf n (f s).2 (consDat (f s).1 t) (NdG.mk _ (by simp [consDat, zeroDat]) (fun x hx => by cases hx) fun k hk => by
   have hk' : k ∈ [(f s).1, t] := hk
   rcases List.mem_cons.1 hk' with rfl | hk'
   ·exact h3.2
   ·rw [List.mem_singleton.1 hk']; exact h)
  rw [listN]
  refine ⟨?_, h2⟩
  have e : bulkD (consDat (f s).1 t) = 1 + (bulkD (f s).1 + bulkD t) := by rw [bulkD_eq]; simp [consDat, zeroDat, bulkDs]
  have := h3.1
  rw [e] at h1; rw [Nat.add_mul]; omega
theorem mapN_mb {f : Src → Dat × Src} {B : Nat} (hf : ∀ s, MB B (f s).1) : ∀ (n : Nat) (s : Src) (t : Dat), NdG t → MB (bulkD t + n * (B + 1)) (mapN f n s t).1
 | 0, s, t, h => ⟨by simp [mapN], h⟩
 | n + 1, s, t, h => by
  have h3 := hf (keyV s).2
  obtain ⟨h1, h2⟩ := mapN_mb hf n (f (keyV s).2).2 (putR t (keyV s).1 (f (keyV s).2).1).1 (put_ndg h h3.2)
  rw [mapN]
  refine ⟨?_, h2⟩
  have e := put_bulk t (keyV s).1 (f (keyV s).2).1
  have := h3.1
  rw [Nat.add_mul]; omega
def mbB : Nat → Nat
 | 0 => 2
 | d + 1 => 4 * mbB d + 4
theorem mbB_two : ∀ d, 2 ≤ mbB d
 | 0 => Nat.le_refl _
 | d + 1 => by rw [mbB]; omega
theorem made_mb : ∀ (d : Nat) (s : Src), MB (mbB d) (made d s).1
 | 0, s => by
  have := base_bulk (bif decide (6 < nextV s 12) then 0 else nextV s 12) (nextS s 12)
  exact ⟨by show bulkD (madeBase _ _).1 ≤ 2; omega, this.2⟩
 | d + 1, s => by
  have ih := made_mb d
  have hB := mbB_two d
  have hB1 : mbB (d + 1) = 4 * mbB d + 4 := rfl
  have hz : ∀ k : Int, bulkD { zeroDat with kind := k } = 1 := fun k => by rw [bulkD_eq]; rfl
  unfold made
  cases decide (nextV s 12 ≤ 6)
  ·cases decide (nextV s 12 = 7)
   ·cases decide (nextV s 12 ≤ 9)
    ·cases decide (nextV s 12 = 10)
     ·have h1 := nextV_in (nextS s 12) (n := 3) (by omega)
      have h := mapN_mb ih (nextV (nextS s 12) 3).toNat (nextS (nextS s 12) 3) { zeroDat with kind := 8 } (NdG.leaf rfl rfl)
      refine ⟨Nat.le_trans h.1 ?_, h.2⟩
      rw [hz]
      have h2 : (nextV (nextS s 12) 3).toNat ≤ 2 := by omega
      have := Nat.mul_le_mul_right (mbB d + 1) h2
      omega
     ·have h1 := nextV_in (nextS s 12) (n := 2) (by omega)
      have h := listN_mb ih (1 + nextV (nextS s 12) 2).toNat (nextS (nextS s 12) 2) { zeroDat with kind := 5 } (NdG.leaf rfl rfl)
      refine ⟨Nat.le_trans h.1 ?_, h.2⟩
      rw [hz]
      have h2 : (1 + nextV (nextS s 12) 2).toNat ≤ 2 := by omega
      have := Nat.mul_le_mul_right (mbB d + 1) h2
      omega
    ·have h1 := nextV_in (nextS s 12) (n := 4) (by omega)
     have h := madeN_mb ih (nextV (nextS s 12) 4).toNat (nextS (nextS s 12) 4) []
     refine ⟨?_, NdG.mk _ (by simp [zeroDat]) (fun x hx => by cases hx) (h.2 fun x hx => by cases hx)⟩
     have h2 : (nextV (nextS s 12) 4).toNat ≤ 3 := by omega
     have h3 := Nat.mul_le_mul_right (mbB d) h2
     have h4 := h.1
     have e : bulkD { zeroDat with kind := 6, kids := (madeN (made d) (nextV (nextS s 12) 4).toNat (nextS (nextS s 12) 4) []).1 } = 1 + bulkDs (madeN (made d) (nextV (nextS s 12) 4).toNat (nextS (nextS s 12) 4) []).1 := by rw [bulkD_eq]; rfl
     simp only [cT, cF]
     rw [e]
     rw [bulkDs] at h4
     omega
   ·have h0 := base_bulk (bif decide (6 < nextV (nextS s 12) 12) then 0 else nextV (nextS s 12) 12) (nextS (nextS s 12) 12)
    have h0' : bulkD (made0 (nextS s 12)).1 = 1 ∧ NdG (made0 (nextS s 12)).1 := h0
    have h9 : (made0 (nextS s 12)).1.kind = 9 → (made0 (nextS s 12)).1.num < 3 := base_fun _ _
    generalize made0 (nextS s 12) = r at *
    cases hz9 : decide (r.1.kind = 9)
    ·exact ⟨by simp only [cT, cF]; omega, h0'.2⟩
    ·refine ⟨?_, NdG.mk _ (by simp [wrapD]) (fun x hx => ?_) (fun k hk => ?_)⟩
     ·have e : bulkD (wrapD r.1) = 1 + bulkD r.1 := by rw [bulkD_eq]; simp [wrapD, zeroDat, bulkDs]
      simp only [cT, cF]; rw [e]; omega
     ·have hx' : x ∈ [node14 (r.1.num + 1).toNat, node2] := hx
      have := h9 (of_decide_eq_true hz9)
      rcases List.mem_cons.1 hx' with rfl | hx'
      ·exact ⟨by show (List.replicate (r.1.num + 1).toNat 1).length ≤ 10; rw [List.length_replicate]; omega, rfl⟩
      ·rw [List.mem_singleton.1 hx']; exact ⟨Nat.zero_le _, rfl⟩
     ·have hk' : k ∈ [r.1] := hk
      rw [List.mem_singleton.1 hk']; exact h0'.2
  ·have := base_bulk (nextV s 12) (nextS s 12)
   exact ⟨by simp only [cT, cF]; omega, this.2⟩
def sameK (x y : KeyD) : Bool := decide (x.kind = y.kind) && (decide (x.text = y.text) && true)
@[go_sem] theorem eqKeyE (x y : KeyD) : eqStT zP 6 39 (encKey x) (encKey y) = some (sameK x y) := by kernel_rfl
theorem sameK_comm (x y : KeyD) : sameK x y = sameK y x := by unfold sameK; rw [show decide (x.kind = y.kind) = decide (y.kind = x.kind) by simp [eq_comm], show decide (x.text = y.text) = decide (y.text = x.text) by simp [eq_comm]]
end Go.Proofs.YtajfdbdklphonaaGreat
