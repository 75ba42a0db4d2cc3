/- A part of the proof: lemmas about the walk of the program and about plain integers and lists. No conditions beyond those that each lemma states. -/
import Derived.Test.YtogponhonjiidaaDoorTx11
import Derived.Test.YtogponhonjiidaaDoorTx6
import Derived.Test.YtogponhonjiidaaDoorTx4
import Derived.Test.YtogponhonjiidaaDoorTx8
import Derived.Shelf.Bytes.BufferK
import Derived.Shelf.Bytes.String
import Derived.Test.YtogponhonjiidaaDoorProg
import Derived.Test.YtogponhonjiidaaDoorTx1
import Derived.Lib.BufferKept
import Derived.BigCall
import Derived.Deep.RegionWith
import Derived.Lib.BufferOld
set_option linter.unusedSimpArgs false
set_option linter.unusedVariables false
set_option maxRecDepth 20000
set_option maxHeartbeats 16000000
namespace Go.Proofs.YtogponhonjiidaaDoor
open Go Go.Sx
open Nat renaming reduceBEq → zA, reduceBNe → zB, reduceAdd → zC, reduceSub → zD, reduceMul → zE, reduceLeDiff → zF, reduceLT → zG, reduceEqDiff → zH
open Int renaming reduceToNat → zI, reduceLE → zJ, reduceLT → zK, reduceEq → zL
open Bool renaming not_eq_true' → zM, not_eq_false' → zN
def outV (name : List UInt8) (d : CalD) : CalD := { d with mod := name }
abbrev Cst0 (wild : Int) (many : Bool) : Cst := ⟨[], wild, many⟩
theorem module_c (wild : Int) (many : Bool) (hw : wild = 0) (g : Gn) (hg : g.s.ok) (name : List UInt8) (hn : name.length ≤ 100) : PCB Tryd.prog 23 [Sp 1000000, S name, .one (.dat (.sl 4 []))] [(1000000, .cells [.ptr 1000001 0, .dat (.nil 4), .dat (.int .i64 wild), .dat (.bool many), .dat (.int .i64 g.k)]), (1000001, srcB g.s)] (.tup [S (moduleV (Cst0 wild many) name g).1, .one (.dat (.sl 4 ((modL g).1.map (encCal ∘ outV name))))]) (gB (modC (Cst0 wild many) g) (moduleV (Cst0 wild many) name g).2) := by
 have hmax : 10000000 ≤ maxLen := by unfold maxLen; omega
 have hv := drawV_in g.s (n := 3) (by omega)
 have hfin := modL_fine g hg
 have hcc := callees_c (Cst0 wild many) (nxt g 3) (ok_nxt hg 3) [] (by simp) (drawV g.s 3 + 1).toNat (by omega)
 have hwr : IntKind.i64.wrap (1 + drawV g.s 3) = (((drawV g.s 3 + 1).toNat : Nat) : Int) := by rw [wrapI _ (by omega) (by omega)]; omega
 have hlm : (modL g).1.length ≤ 3 := by omega
 have hmd : calsAt [] (nxt g 3) (drawV g.s 3 + 1).toNat = modL g := rfl
 rw [hmd] at hcc
 refine PCB.of_body Tryd.func23 rfl (by decide) Tryd.ntmps23 Tryd.results23 rfl rfl rfl ?_ rfl rfl
 refine AWP.gh (Gh.soft 1000000 rfl) ?_
 repeat' (first | (simp only [go_sem, zA, zB, zC, zD, zE, zF, zG, reduceCtorEq, zH, zI, zJ, zK, zL, List.length_map, List.length_nil, Bx.puts, hwr]; all_goals fail_if_success guard_target =ₛ False) | (with_reducible first | ((first | refine seqVC_stepN rfl ?_ | refine seqVC_stepG rfl (by with_unfolding_all rfl) ?_ | refine AWP.seq ?_ | refine AWP.seqR (by kernel_rfl) ?_ | refine parVC_stepN rfl ?_ | refine parVC_stepG rfl (by with_unfolding_all rfl) ?_ | refine parEVC_stepN rfl ?_ | refine parEVC_stepG rfl (by with_unfolding_all rfl) ?_ | refine genVC_stepN rfl ?_ | refine genVC_stepG rfl (by with_unfolding_all rfl) ?_); intro K hK) | ((first | refine hK _ _ _ ?_ | refine hK _ _ ?_ | refine hK _ ?_); clear hK K) | refine seqVC_nil ?_ | refine parVC_nil ?_ | refine parEVC_nil ?_ | refine genVC_nil ?_ | refine AWP.block ?_ | (refine AWP.cond (by with_unfolding_all rfl) ?_ ?_ <;> intro h <;> (try simp only [zM, zN] at h) <;> try exact absurd h (by decide)) | refine AWP.skip ?_ | refine AWP.ret ?_ | refine AWP.exit ?_ | (refine ⟨fun h => ?_, fun h => ?_⟩ <;> (try simp only [zM, zN] at h) <;> try simp only [h]) | (refine ⟨(by first | omega | (simp only [List.length_append, List.length_map, List.length_take, List.length_drop, List.length_cons, List.length_nil, List.length_replicate]; omega) : _ ≤ _), ?_⟩) | refine ⟨by omega, by omega, ?_⟩) | (refine ⟨1000001, _, _, _, draw_k 1000001 g.s hg 3 (by omega), rfl, ?_⟩) | ( refine Or.inr ⟨_, _, _, hcc, ⟨rfl, rfl, trivial⟩, rfl, rfl, ?_⟩) | (with_reducible first | (refine AWP.segP (id := 9) 7 mixed (by kernel_rfl) fun K hK => ?_; simp only [List.take_succ_cons, List.take_zero, List.drop_succ_cons, List.drop_zero]) | (refine AWP.segP (id := 18) 10 mixed (by kernel_rfl) fun K hK => ?_; simp only [List.take_succ_cons, List.take_zero, List.drop_succ_cons, List.drop_zero]) | refine AWP.parR mixed (by kernel_rfl) fun K hK => ?_ | refine ⟨(by kernel_rfl : depB _ _ _ = true), ?_⟩ | refine Or.inl ?_) | (clear hK K))
 generalize hmm : modL g = r at *
 obtain ⟨l, g1⟩ := r
 simp only at hfin hlm
 refine AWP.loopF (X := Unit) (fun u => [(36, I .i64 0), (9, .one (.dat (.nil 1)))]) (fun u => [(1000000, .cells [.ptr 1000001 0, .dat (.nil 4), .dat (.int .i64 wild), .dat (.bool many), .dat (.int .i64 g1.k)]), (1000001, srcB g1.s)]) [0, 1, 8, 10, 34, 35] [] (fun u => True) (fun u => 0) (()) (by simp only [go_sem, zA, zB, zC, zD, zE, zF, zG, reduceCtorEq, zH, zI, zJ, zK, zL]; exact Gh.to [] (by repeat (first | exact trivial | refine ⟨rfl, ?_⟩ | refine ⟨by (simp only [go_sem, zA, zB, zC, zD, zE, zF, zG, reduceCtorEq, zH, zI, zJ, zK, zL, List.length_append, List.length_map, List.length_cons, List.length_nil, Nat.zero_add]) <;> rfl, ?_⟩)) (by repeat (first | exact trivial | refine ⟨rfl, ?_⟩ | refine ⟨by (simp only [go_sem, zA, zB, zC, zD, zE, zF, zG, reduceCtorEq, zH, zI, zJ, zK, zL, List.length_append, List.length_map, List.length_cons, List.length_nil, Nat.zero_add]) <;> rfl, ?_⟩)) rfl rfl rfl) ?_ ?_
 ·trivial
 rintro u -
 simp only [go_sem, zA, zB, zC, zD, zE, zF, zG, reduceCtorEq, zH, zI, zJ, zK, zL]
 have hd0 : decide ((0 : Int) < 0) = false := by decide
 repeat' (first | (simp only [go_sem, zA, zB, zC, zD, zE, zF, zG, reduceCtorEq, zH, zI, zJ, zK, zL, List.length_map, hd0]; all_goals fail_if_success guard_target =ₛ False) | (with_reducible first | ((first | refine seqVC_stepN rfl ?_ | refine seqVC_stepG rfl (by with_unfolding_all rfl) ?_ | refine AWP.seq ?_ | refine AWP.seqR (by kernel_rfl) ?_ | refine parVC_stepN rfl ?_ | refine parVC_stepG rfl (by with_unfolding_all rfl) ?_ | refine parEVC_stepN rfl ?_ | refine parEVC_stepG rfl (by with_unfolding_all rfl) ?_ | refine genVC_stepN rfl ?_ | refine genVC_stepG rfl (by with_unfolding_all rfl) ?_); intro K hK) | ((first | refine hK _ _ _ ?_ | refine hK _ _ ?_ | refine hK _ ?_); clear hK K) | refine seqVC_nil ?_ | refine parVC_nil ?_ | refine parEVC_nil ?_ | refine genVC_nil ?_ | refine AWP.block ?_ | (refine AWP.cond (by with_unfolding_all rfl) ?_ ?_ <;> intro h <;> (try simp only [zM, zN] at h) <;> try exact absurd h (by decide)) | refine AWP.skip ?_ | refine AWP.ret ?_ | refine AWP.exit ?_ | (refine ⟨fun h => ?_, fun h => ?_⟩ <;> (try simp only [zM, zN] at h) <;> try simp only [h]) | (refine ⟨(by first | omega | (simp only [List.length_append, List.length_map, List.length_take, List.length_drop, List.length_cons, List.length_nil, List.length_replicate]; omega) : _ ≤ _), ?_⟩) | refine ⟨by omega, by omega, ?_⟩ | (refine AWP.segP (id := 9) 7 mixed (by kernel_rfl) fun K hK => ?_; simp only [List.take_succ_cons, List.take_zero, List.drop_succ_cons, List.drop_zero]) | (refine AWP.segP (id := 18) 10 mixed (by kernel_rfl) fun K hK => ?_; simp only [List.take_succ_cons, List.take_zero, List.drop_succ_cons, List.drop_zero]) | refine AWP.parR mixed (by kernel_rfl) fun K hK => ?_ | refine ⟨(by kernel_rfl : depB _ _ _ = true), ?_⟩ | refine Or.inl ?_) | (clear hK K))
 refine AWP.gh (Gh.nilrow 10 900 rfl rfl rfl (by simp [Bx.fresh, Cell.freshs, Cell.fresh])) ?_
 refine AWP.gh (Gh.nilrow 14 901 rfl rfl rfl (by simp [Bx.fresh, Cell.freshs, Cell.fresh])) ?_
 refine AWP.len 73 rfl fun hlen1 => ?_
 (try rw [List.length_map] at hlen1)
 refine AWP.range (S := Unit) (l) encCal (fun k u => (75, I .i64 (k : Nat)) :: [(10, .one (.own 900 k)), (14, .one (.own 901 k))]) (fun k u => [(900, .row 1 (((l.take k).map expV).map encStr)), (901, .row 4 ((l.take k).map (encCal ∘ outV name))), (1000000, .cells [.ptr 1000001 0, .dat (.nil 4), .dat (.int .i64 wild), .dat (.bool many), .dat (.int .i64 g1.k)]), (1000001, srcB g1.s)]) [0, 1, 8, 13, 73, 74] [] (fun k u => True) (()) (by simp only [go_sem, zA, zB, zC, zD, zE, zF, zG, reduceCtorEq, zH, zI, zJ, zK, zL]; exact Gh.to [] (by repeat (first | exact trivial | refine ⟨rfl, ?_⟩ | refine ⟨by (simp only [go_sem, zA, zB, zC, zD, zE, zF, zG, reduceCtorEq, zH, zI, zJ, zK, zL, List.length_append, List.length_map, List.length_cons, List.length_nil, Nat.zero_add]) <;> rfl, ?_⟩)) (by repeat (first | exact trivial | refine ⟨rfl, ?_⟩ | refine ⟨by (simp only [go_sem, zA, zB, zC, zD, zE, zF, zG, reduceCtorEq, zH, zI, zJ, zK, zL, List.length_append, List.length_map, List.length_cons, List.length_nil, Nat.zero_add]) <;> rfl, ?_⟩)) rfl rfl rfl) ?_ ?_ ?_
 ·trivial
 ·intro k u d hlt hx hx' hbb hok
  simp only [go_sem, zA, zB, zC, zD, zE, zF, zG, reduceCtorEq, zH, zI, zJ, zK, zL]
  have hdm := hfin.2.2 d (List.mem_of_getElem? hx)
  obtain ⟨hd1, hd2, hd3⟩ := hdm.1
  have hil := itoa_len (n := (d.params.length : Int)) (by omega) (by omega)
  have hdec := decimal_c _ (d.params.length : Int) (Nat.le_refl _) (by omega) (by omega)
  have hs1 : ((l.take k).map expV).map encStr ++ [[.str (d.name ++ [47] ++ Lib.itoa (d.params.length : Int))]] = ((l.take (k + 1)).map expV).map encStr := by rw [List.take_add_one, hx]; simp [expV, encStr]
  have hs2 : (l.take k).map (encCal ∘ outV name) ++ [[.str name, .str d.name, .sl 1 (d.params.map encZ), .int .i64 d.res]] = (l.take (k + 1)).map (encCal ∘ outV name) := by rw [List.take_add_one, hx]; simp [outV, encCal]
  have ht1 : (l.take k).length = k := by rw [List.length_take]; omega
  have ht2 : (l.take (k + 1)).length = k + 1 := by rw [List.length_take]; omega
  repeat' (first | (simp only [go_sem, zA, zB, zC, zD, zE, zF, zG, reduceCtorEq, zH, zI, zJ, zK, zL, hbb, encCal, hs1, hs2, ht1, ht2, List.length_map]; all_goals fail_if_success guard_target =ₛ False) | (with_reducible first | ((first | refine seqVC_stepN rfl ?_ | refine seqVC_stepG rfl (by with_unfolding_all rfl) ?_ | refine AWP.seq ?_ | refine AWP.seqR (by kernel_rfl) ?_ | refine parVC_stepN rfl ?_ | refine parVC_stepG rfl (by with_unfolding_all rfl) ?_ | refine parEVC_stepN rfl ?_ | refine parEVC_stepG rfl (by with_unfolding_all rfl) ?_ | refine genVC_stepN rfl ?_ | refine genVC_stepG rfl (by with_unfolding_all rfl) ?_); intro K hK) | ((first | refine hK _ _ _ ?_ | refine hK _ _ ?_ | refine hK _ ?_); clear hK K) | refine seqVC_nil ?_ | refine parVC_nil ?_ | refine parEVC_nil ?_ | refine genVC_nil ?_ | refine AWP.block ?_ | (refine AWP.cond (by with_unfolding_all rfl) ?_ ?_ <;> intro h <;> (try simp only [zM, zN] at h) <;> try exact absurd h (by decide)) | refine AWP.skip ?_ | refine AWP.ret ?_ | refine AWP.exit ?_ | (refine ⟨fun h => ?_, fun h => ?_⟩ <;> (try simp only [zM, zN] at h) <;> try simp only [h]) | refine ⟨_, hdec, ?_⟩ | refine ⟨by omega, encCal d, hx', ?_⟩ | refine ⟨encCal d, hx', ?_⟩ | refine ⟨(by omega : _ ≤ _), ?_⟩ | refine ⟨(by omega : _ ≤ _), (by omega : _ ≤ _), ?_⟩ | (refine ⟨(by first | omega | (simp only [List.length_append, List.length_map, List.length_take, List.length_drop, List.length_cons, List.length_nil, List.length_replicate]; omega) : _ ≤ _), ?_⟩) | refine ⟨by omega, by omega, ?_⟩ | (refine AWP.segP (id := 9) 7 mixed (by kernel_rfl) fun K hK => ?_; simp only [List.take_succ_cons, List.take_zero, List.drop_succ_cons, List.drop_zero]) | (refine AWP.segP (id := 18) 10 mixed (by kernel_rfl) fun K hK => ?_; simp only [List.take_succ_cons, List.take_zero, List.drop_succ_cons, List.drop_zero]) | refine AWP.parR mixed (by kernel_rfl) fun K hK => ?_ | refine ⟨(by kernel_rfl : depB _ _ _ = true), ?_⟩ | refine Or.inl ?_) | (clear hK K))
  all_goals rw [wrap_succ hlt hlen1]
  all_goals first | exact ⟨(), trivial, Gh.to [(900, 89), (901, 96)] (by repeat (first | exact trivial | refine ⟨rfl, ?_⟩ | refine ⟨by (simp only [go_sem, zA, zB, zC, zD, zE, zF, zG, reduceCtorEq, zH, zI, zJ, zK, zL, List.length_append, List.length_map, List.length_cons, List.length_nil, Nat.zero_add]) <;> rfl, ?_⟩)) (by repeat (first | exact trivial | refine ⟨rfl, ?_⟩ | refine ⟨by (simp only [go_sem, zA, zB, zC, zD, zE, zF, zG, reduceCtorEq, zH, zI, zJ, zK, zL, List.length_append, List.length_map, List.length_cons, List.length_nil, Nat.zero_add]) <;> rfl, ?_⟩)) rfl rfl rfl⟩ | exact ⟨(), Gh.to [(900, 89), (901, 96)] (by repeat (first | exact trivial | refine ⟨rfl, ?_⟩ | refine ⟨by (simp only [go_sem, zA, zB, zC, zD, zE, zF, zG, reduceCtorEq, zH, zI, zJ, zK, zL, List.length_append, List.length_map, List.length_cons, List.length_nil, Nat.zero_add]) <;> rfl, ?_⟩)) (by repeat (first | exact trivial | refine ⟨rfl, ?_⟩ | refine ⟨by (simp only [go_sem, zA, zB, zC, zD, zE, zF, zG, reduceCtorEq, zH, zI, zJ, zK, zL, List.length_append, List.length_map, List.length_cons, List.length_nil, Nat.zero_add]) <;> rfl, ?_⟩)) rfl rfl rfl⟩ | exact Gh.to [(900, 89), (901, 96)] (by repeat (first | exact trivial | refine ⟨rfl, ?_⟩ | refine ⟨by (simp only [go_sem, zA, zB, zC, zD, zE, zF, zG, reduceCtorEq, zH, zI, zJ, zK, zL, List.length_append, List.length_map, List.length_cons, List.length_nil, Nat.zero_add]) <;> rfl, ?_⟩)) (by repeat (first | exact trivial | refine ⟨rfl, ?_⟩ | refine ⟨by (simp only [go_sem, zA, zB, zC, zD, zE, zF, zG, reduceCtorEq, zH, zI, zJ, zK, zL, List.length_append, List.length_map, List.length_cons, List.length_nil, Nat.zero_add]) <;> rfl, ?_⟩)) rfl rfl rfl
 ·intro u hbb hok
  simp only [go_sem, zA, zB, zC, zD, zE, zF, zG, reduceCtorEq, zH, zI, zJ, zK, zL]
  rw [List.take_length]
  have hjl : ∀ x ∈ l.map expV, x.length ≤ 200 := fun x hx => by obtain ⟨d, hd, rfl⟩ := List.mem_map.1 hx; exact expV_len d (hfin.2.2 d hd).1
  have hjc := comma_c (l.map expV) (by rw [List.length_map]; omega) hjl
  have hjn := commaV_len (l.map expV) (by rw [List.length_map]; omega) hjl
  refine AWP.gh (Gh.freeze 900 rfl rfl (by simp only [go_sem, zA, zB, zC, zD, zE, zF, zG, reduceCtorEq, zH, zI, zJ, zK, zL, List.length_map]) (by simp only [go_sem, zA, zB, zC, zD, zE, zF, zG, reduceCtorEq, zH, zI, zJ, zK, zL, List.length_map])) ?_
  simp only [go_sem, zA, zB, zC, zD, zE, zF, zG, reduceCtorEq, zH, zI, zJ, zK, zL, List.length_map]
  repeat' (first | (simp only [go_sem, zA, zB, zC, zD, zE, zF, zG, reduceCtorEq, zH, zI, zJ, zK, zL, hbb, List.length_map]; all_goals fail_if_success guard_target =ₛ False) | (with_reducible first | ((first | refine seqVC_stepN rfl ?_ | refine seqVC_stepG rfl (by with_unfolding_all rfl) ?_ | refine AWP.seq ?_ | refine AWP.seqR (by kernel_rfl) ?_ | refine parVC_stepN rfl ?_ | refine parVC_stepG rfl (by with_unfolding_all rfl) ?_ | refine parEVC_stepN rfl ?_ | refine parEVC_stepG rfl (by with_unfolding_all rfl) ?_ | refine genVC_stepN rfl ?_ | refine genVC_stepG rfl (by with_unfolding_all rfl) ?_); intro K hK) | ((first | refine hK _ _ _ ?_ | refine hK _ _ ?_ | refine hK _ ?_); clear hK K) | refine seqVC_nil ?_ | refine parVC_nil ?_ | refine parEVC_nil ?_ | refine genVC_nil ?_ | refine AWP.block ?_ | (refine AWP.cond (by with_unfolding_all rfl) ?_ ?_ <;> intro h <;> (try simp only [zM, zN] at h) <;> try exact absurd h (by decide)) | refine AWP.skip ?_ | refine AWP.ret ?_ | refine AWP.exit ?_ | (refine ⟨fun h => ?_, fun h => ?_⟩ <;> (try simp only [zM, zN] at h) <;> try simp only [h]) | refine ⟨_, hjc, ?_⟩ | (refine ⟨(by first | omega | (simp only [List.length_append, List.length_map, List.length_take, List.length_drop, List.length_cons, List.length_nil, List.length_replicate]; omega) : _ ≤ _), ?_⟩) | refine ⟨by omega, by omega, ?_⟩ | refine ⟨(by omega : _ ≤ _), ?_⟩ | refine ⟨(by omega : _ ≤ _), (by omega : _ ≤ _), ?_⟩ | (refine AWP.segP (id := 9) 7 mixed (by kernel_rfl) fun K hK => ?_; simp only [List.take_succ_cons, List.take_zero, List.drop_succ_cons, List.drop_zero]) | (refine AWP.segP (id := 18) 10 mixed (by kernel_rfl) fun K hK => ?_; simp only [List.take_succ_cons, List.take_zero, List.drop_succ_cons, List.drop_zero]) | refine AWP.parR mixed (by kernel_rfl) fun K hK => ?_ | refine ⟨(by kernel_rfl : depB _ _ _ = true), ?_⟩ | refine Or.inl ?_) | (clear hK K))
  refine AWP.gh (Gh.freeze 110 rfl rfl (by simp only [go_sem, zA, zB, zC, zD, zE, zF, zG, reduceCtorEq, zH, zI, zJ, zK, zL, List.length_map]) (by simp only [go_sem, zA, zB, zC, zD, zE, zF, zG, reduceCtorEq, zH, zI, zJ, zK, zL, List.length_map])) ?_
  simp only [go_sem, zA, zB, zC, zD, zE, zF, zG, reduceCtorEq, zH, zI, zJ, zK, zL, List.length_map]
  have hmc : modC (Cst0 wild many) g = { Cst0 wild many with calls := l } := by unfold modC; rw [hmm]
  have hms : modS name g = 109 :: 111 :: 100 :: 117 :: 108 :: 101 :: 32 :: (name ++ [46, 10] ++ 101 :: 120 :: 112 :: 111 :: 114 :: 116 :: 32 :: (commaV (l.map expV) ++ [46, 10])) := by
   unfold modS; rw [hmm]; simp only [List.append_assoc, List.cons_append, List.nil_append]
  have hml := modS_len name hn g hg
  have hmv : moduleV (Cst0 wild many) name g = fnAt (modC (Cst0 wild many) g) l (hdAt l (modS name g) g1 l.length).1 (hdAt l (modS name g) g1 l.length).2 l.length := by unfold moduleV; rw [hmm]
  have hcok := modC_ok (Cst0 wild many) g hg
  have hcw : (modC (Cst0 wild many) g).wild = 0 := hw
  have hhf := hdAt_fine l hfin.2.2 (modS name g) g1 hfin.1
  have hff := fnAt_fine (modC (Cst0 wild many) g) hcw hcok l hfin.2.2 (hdAt l (modS name g) g1 l.length).1 (hdAt l (modS name g) g1 l.length).2 (hhf l.length (Nat.le_refl _)).1
  rw [← hms]
  refine AWP.len 113 rfl fun hlen2 => ?_
  (try rw [List.length_map] at hlen2)
  refine AWP.range (S := List UInt8 × Gn) (l) encCal (fun k s => (115, I .i64 (k : Nat)) :: [(13, S s.1)]) (fun k s => [(901, .row 4 (l.map (encCal ∘ outV name))), (1000000, mkB (modC (Cst0 wild many) g) s.2), (1000001, srcB s.2.s)]) [0, 8, 14, 113, 114] [] (fun k s => s = hdAt l (modS name g) g1 k) ((modS name g, g1)) (by simp only [go_sem, zA, zB, zC, zD, zE, zF, zG, reduceCtorEq, zH, zI, zJ, zK, zL, hmc]; exact Gh.to [] (by repeat (first | exact trivial | refine ⟨rfl, ?_⟩ | refine ⟨by (simp only [go_sem, zA, zB, zC, zD, zE, zF, zG, reduceCtorEq, zH, zI, zJ, zK, zL, List.length_append, List.length_map, List.length_cons, List.length_nil, Nat.zero_add]) <;> rfl, ?_⟩)) (by repeat (first | exact trivial | refine ⟨rfl, ?_⟩ | refine ⟨by (simp only [go_sem, zA, zB, zC, zD, zE, zF, zG, reduceCtorEq, zH, zI, zJ, zK, zL, List.length_append, List.length_map, List.length_cons, List.length_nil, Nat.zero_add]) <;> rfl, ?_⟩)) rfl rfl rfl) ?_ ?_ ?_
  ·rfl
  ·intro k s d hlt hx hx' hbb hok
   simp only [go_sem, zA, zB, zC, zD, zE, zF, zG, reduceCtorEq, zH, zI, zJ, zK, zL]
   have hdm := hfin.2.2 d (List.mem_of_getElem? hx)
   have hfk := hhf k (by omega)
   rw [← hok] at hfk
   obtain ⟨hf1, hf2⟩ := hfk
   have hhl := headerV_len d hdm.1 hdm.2
   have hhc := header_c d hdm.1 hdm.2
   simp only [encCal] at hhc
   have hsuc : hdAt l (modS name g) g1 (k + 1) = (bif decide (drawV s.2.s 3 = 0) then s.1 ++ headerV d else s.1, nxt s.2 3) := by
    simp only [hdAt, ← hok]; rw [List.getD_eq_getElem?_getD, hx]; rfl
   cases h0 : decide (drawV s.2.s 3 = 0) with
   | true =>
    rw [h0, cond_true] at hsuc
    repeat' (first | (simp only [go_sem, zA, zB, zC, zD, zE, zF, zG, reduceCtorEq, zH, zI, zJ, zK, zL, hbb, encCal, h0, List.length_map]; all_goals fail_if_success guard_target =ₛ False) | (with_reducible first | ((first | refine seqVC_stepN rfl ?_ | refine seqVC_stepG rfl (by with_unfolding_all rfl) ?_ | refine AWP.seq ?_ | refine AWP.seqR (by kernel_rfl) ?_ | refine parVC_stepN rfl ?_ | refine parVC_stepG rfl (by with_unfolding_all rfl) ?_ | refine parEVC_stepN rfl ?_ | refine parEVC_stepG rfl (by with_unfolding_all rfl) ?_ | refine genVC_stepN rfl ?_ | refine genVC_stepG rfl (by with_unfolding_all rfl) ?_); intro K hK) | ((first | refine hK _ _ _ ?_ | refine hK _ _ ?_ | refine hK _ ?_); clear hK K) | refine seqVC_nil ?_ | refine parVC_nil ?_ | refine parEVC_nil ?_ | refine genVC_nil ?_ | refine AWP.block ?_ | (refine AWP.cond (by with_unfolding_all rfl) ?_ ?_ <;> intro h <;> (try simp only [zM, zN] at h) <;> try exact absurd h (by decide)) | refine AWP.skip ?_ | refine AWP.ret ?_ | refine AWP.exit ?_ | (refine ⟨fun h => ?_, fun h => ?_⟩ <;> (try simp only [zM, zN] at h) <;> try simp only [h]) | refine ⟨_, hhc, ?_⟩ | refine ⟨by omega, encCal d, hx', ?_⟩ | refine ⟨encCal d, hx', ?_⟩ | (refine ⟨(by first | omega | (simp only [List.length_append, List.length_map, List.length_take, List.length_drop, List.length_cons, List.length_nil, List.length_replicate]; omega) : _ ≤ _), ?_⟩) | refine ⟨by omega, by omega, ?_⟩) | (refine ⟨1000001, _, _, _, draw_k 1000001 s.2.s hf1 3 (by omega), rfl, ?_⟩) | (with_reducible first | (refine AWP.segP (id := 9) 7 mixed (by kernel_rfl) fun K hK => ?_; simp only [List.take_succ_cons, List.take_zero, List.drop_succ_cons, List.drop_zero]) | (refine AWP.segP (id := 18) 10 mixed (by kernel_rfl) fun K hK => ?_; simp only [List.take_succ_cons, List.take_zero, List.drop_succ_cons, List.drop_zero]) | refine AWP.parR mixed (by kernel_rfl) fun K hK => ?_ | refine ⟨(by kernel_rfl : depB _ _ _ = true), ?_⟩ | refine Or.inl ?_) | (clear hK K))
    all_goals (rw [wrap_succ hlt hlen2, hsuc]; exact Gh.to [] (by repeat (first | exact trivial | refine ⟨rfl, ?_⟩ | refine ⟨by (simp only [go_sem, zA, zB, zC, zD, zE, zF, zG, reduceCtorEq, zH, zI, zJ, zK, zL, List.length_append, List.length_map, List.length_cons, List.length_nil, Nat.zero_add]) <;> rfl, ?_⟩)) (by repeat (first | exact trivial | refine ⟨rfl, ?_⟩ | refine ⟨by (simp only [go_sem, zA, zB, zC, zD, zE, zF, zG, reduceCtorEq, zH, zI, zJ, zK, zL, List.length_append, List.length_map, List.length_cons, List.length_nil, Nat.zero_add]) <;> rfl, ?_⟩)) rfl rfl rfl)
   | false =>
    rw [h0, cond_false] at hsuc
    repeat' (first | (simp only [go_sem, zA, zB, zC, zD, zE, zF, zG, reduceCtorEq, zH, zI, zJ, zK, zL, hbb, encCal, h0, List.length_map]; all_goals fail_if_success guard_target =ₛ False) | (with_reducible first | ((first | refine seqVC_stepN rfl ?_ | refine seqVC_stepG rfl (by with_unfolding_all rfl) ?_ | refine AWP.seq ?_ | refine AWP.seqR (by kernel_rfl) ?_ | refine parVC_stepN rfl ?_ | refine parVC_stepG rfl (by with_unfolding_all rfl) ?_ | refine parEVC_stepN rfl ?_ | refine parEVC_stepG rfl (by with_unfolding_all rfl) ?_ | refine genVC_stepN rfl ?_ | refine genVC_stepG rfl (by with_unfolding_all rfl) ?_); intro K hK) | ((first | refine hK _ _ _ ?_ | refine hK _ _ ?_ | refine hK _ ?_); clear hK K) | refine seqVC_nil ?_ | refine parVC_nil ?_ | refine parEVC_nil ?_ | refine genVC_nil ?_ | refine AWP.block ?_ | (refine AWP.cond (by with_unfolding_all rfl) ?_ ?_ <;> intro h <;> (try simp only [zM, zN] at h) <;> try exact absurd h (by decide)) | refine AWP.skip ?_ | refine AWP.ret ?_ | refine AWP.exit ?_ | (refine ⟨fun h => ?_, fun h => ?_⟩ <;> (try simp only [zM, zN] at h) <;> try simp only [h]) | refine ⟨_, hhc, ?_⟩ | refine ⟨by omega, encCal d, hx', ?_⟩ | refine ⟨encCal d, hx', ?_⟩ | (refine ⟨(by first | omega | (simp only [List.length_append, List.length_map, List.length_take, List.length_drop, List.length_cons, List.length_nil, List.length_replicate]; omega) : _ ≤ _), ?_⟩) | refine ⟨by omega, by omega, ?_⟩) | (refine ⟨1000001, _, _, _, draw_k 1000001 s.2.s hf1 3 (by omega), rfl, ?_⟩) | (with_reducible first | (refine AWP.segP (id := 9) 7 mixed (by kernel_rfl) fun K hK => ?_; simp only [List.take_succ_cons, List.take_zero, List.drop_succ_cons, List.drop_zero]) | (refine AWP.segP (id := 18) 10 mixed (by kernel_rfl) fun K hK => ?_; simp only [List.take_succ_cons, List.take_zero, List.drop_succ_cons, List.drop_zero]) | refine AWP.parR mixed (by kernel_rfl) fun K hK => ?_ | refine ⟨(by kernel_rfl : depB _ _ _ = true), ?_⟩ | refine Or.inl ?_) | (clear hK K))
    all_goals (rw [wrap_succ hlt hlen2, hsuc]; exact Gh.to [] (by repeat (first | exact trivial | refine ⟨rfl, ?_⟩ | refine ⟨by (simp only [go_sem, zA, zB, zC, zD, zE, zF, zG, reduceCtorEq, zH, zI, zJ, zK, zL, List.length_append, List.length_map, List.length_cons, List.length_nil, Nat.zero_add]) <;> rfl, ?_⟩)) (by repeat (first | exact trivial | refine ⟨rfl, ?_⟩ | refine ⟨by (simp only [go_sem, zA, zB, zC, zD, zE, zF, zG, reduceCtorEq, zH, zI, zJ, zK, zL, List.length_append, List.length_map, List.length_cons, List.length_nil, Nat.zero_add]) <;> rfl, ?_⟩)) rfl rfl rfl)
  ·intro s hbb hok
   simp only [go_sem, zA, zB, zC, zD, zE, zF, zG, reduceCtorEq, zH, zI, zJ, zK, zL]
   have hhg := hhf l.length (Nat.le_refl _)
   rw [← hok] at hmv hff hhg
   repeat' (first | (simp only [go_sem, zA, zB, zC, zD, zE, zF, zG, reduceCtorEq, zH, zI, zJ, zK, zL, hbb, List.length_map]; all_goals fail_if_success guard_target =ₛ False) | (with_reducible first | ((first | refine seqVC_stepN rfl ?_ | refine seqVC_stepG rfl (by with_unfolding_all rfl) ?_ | refine AWP.seq ?_ | refine AWP.seqR (by kernel_rfl) ?_ | refine parVC_stepN rfl ?_ | refine parVC_stepG rfl (by with_unfolding_all rfl) ?_ | refine parEVC_stepN rfl ?_ | refine parEVC_stepG rfl (by with_unfolding_all rfl) ?_ | refine genVC_stepN rfl ?_ | refine genVC_stepG rfl (by with_unfolding_all rfl) ?_); intro K hK) | ((first | refine hK _ _ _ ?_ | refine hK _ _ ?_ | refine hK _ ?_); clear hK K) | refine seqVC_nil ?_ | refine parVC_nil ?_ | refine parEVC_nil ?_ | refine genVC_nil ?_ | refine AWP.block ?_ | (refine AWP.cond (by with_unfolding_all rfl) ?_ ?_ <;> intro h <;> (try simp only [zM, zN] at h) <;> try exact absurd h (by decide)) | refine AWP.skip ?_ | refine AWP.ret ?_ | refine AWP.exit ?_ | (refine ⟨fun h => ?_, fun h => ?_⟩ <;> (try simp only [zM, zN] at h) <;> try simp only [h]) | (refine AWP.segP (id := 9) 7 mixed (by kernel_rfl) fun K hK => ?_; simp only [List.take_succ_cons, List.take_zero, List.drop_succ_cons, List.drop_zero]) | (refine AWP.segP (id := 18) 10 mixed (by kernel_rfl) fun K hK => ?_; simp only [List.take_succ_cons, List.take_zero, List.drop_succ_cons, List.drop_zero]) | refine AWP.parR mixed (by kernel_rfl) fun K hK => ?_ | refine ⟨(by kernel_rfl : depB _ _ _ = true), ?_⟩ | refine Or.inl ?_) | (clear hK K))
   refine AWP.len 130 rfl fun hlen3 => ?_
   (try rw [List.length_map] at hlen3)
   refine AWP.range (S := List UInt8 × Gn) (l) encCal (fun k t => (132, I .i64 (k : Nat)) :: [(13, S t.1)]) (fun k t => [(901, .row 4 (l.map (encCal ∘ outV name))), (1000000, mkB (modC (Cst0 wild many) g) t.2), (1000001, srcB t.2.s)]) [0, 14, 130, 131] [] (fun k t => t = fnAt (modC (Cst0 wild many) g) l s.1 s.2 k) (s) (by simp only [go_sem, zA, zB, zC, zD, zE, zF, zG, reduceCtorEq, zH, zI, zJ, zK, zL]; exact Gh.to [] (by repeat (first | exact trivial | refine ⟨rfl, ?_⟩ | refine ⟨by (simp only [go_sem, zA, zB, zC, zD, zE, zF, zG, reduceCtorEq, zH, zI, zJ, zK, zL, List.length_append, List.length_map, List.length_cons, List.length_nil, Nat.zero_add]) <;> rfl, ?_⟩)) (by repeat (first | exact trivial | refine ⟨rfl, ?_⟩ | refine ⟨by (simp only [go_sem, zA, zB, zC, zD, zE, zF, zG, reduceCtorEq, zH, zI, zJ, zK, zL, List.length_append, List.length_map, List.length_cons, List.length_nil, Nat.zero_add]) <;> rfl, ?_⟩)) rfl rfl rfl) ?_ ?_ ?_
   ·rfl
   ·intro k t d hlt hx hx' hbb hok
    simp only [go_sem, zA, zB, zC, zD, zE, zF, zG, reduceCtorEq, zH, zI, zJ, zK, zL]
    have hdm := hfin.2.2 d (List.mem_of_getElem? hx)
    have hfk := hff k (by omega)
    rw [← hok] at hfk
    obtain ⟨ht1, ht2⟩ := hfk
    have hh2 := hhg.2
    have hv3 := drawV_in t.2.s (n := 3) (by omega)
    have hsuc : fnAt (modC (Cst0 wild many) g) l s.1 s.2 (k + 1) = (t.1 ++ (fnV (modC (Cst0 wild many) g) d t.2).1, (fnV (modC (Cst0 wild many) g) d t.2).2) := by
     simp only [fnAt, ← hok]; rw [List.getD_eq_getElem?_getD, hx]; rfl
    have hnn : ((drawV t.2.s 3).toNat : Int) = drawV t.2.s 3 := Int.toNat_of_nonneg hv3.1
    have hfv : fnV (modC (Cst0 wild many) g) d t.2 = fnV (modC (Cst0 wild many) g) d t.2 := rfl
    conv at hfv => rhs; unfold fnV
    simp only [] at hfv
    generalize hN : (drawV t.2.s 3).toNat = n at *
    have hwd : IntKind.i64.wrap (1 + drawV t.2.s 3) = ((n + 1 : Nat) : Int) := by rw [wrapI _ (by omega) (by omega)]; omega
    have hwe : IntKind.i64.wrap (((n + 1 : Nat) : Int) - 1) = (n : Int) := by rw [wrapI _ (by omega) (by omega)]; omega
    have hLn : ∀ n, n ≤ 3 → lenE n ≤ 1000000 := by decide
    have cS := fun g1 hg1 => clauseS_c (modC (Cst0 wild many) g) n _ _ (expr_good (modC (Cst0 wild many) g) hcw hcok n (by omega)) (by omega) (hLn n (by omega)) (by omega) g1 hg1 d hdm.1
    have cN := fun g1 hg1 => clauseN_c (modC (Cst0 wild many) g) (n + 1) _ _ (expr_good (modC (Cst0 wild many) g) hcw hcok (n + 1) (by omega)) (by omega) (hLn (n + 1) (by omega)) (by omega) g1 hg1 d hdm.1
    have fS := fun g1 hg1 => clauseV_fine (modC (Cst0 wild many) g) hcw hcok true d hdm.1 n (by omega) g1 hg1
    have fN := fun g1 hg1 => clauseV_fine (modC (Cst0 wild many) g) hcw hcok false d hdm.1 (n + 1) (by omega) g1 hg1
    simp only [encCal] at cS cN
    have hok3 := ok_nxt ht1 3
    have hok2 := ok_nxt hok3 2
    cases hp : decide (0 < (d.params.length : Int)) with
    | false =>
     rw [hp, cond_false] at hfv
     have rN := cN _ hok3
     have lN := (fN _ hok3).2
     repeat' (first | (simp only [go_sem, zA, zB, zC, zD, zE, zF, zG, reduceCtorEq, zH, zI, zJ, zK, zL, hbb, encCal, hp, hwd, hwe, Bx.puts, List.length_map]; all_goals fail_if_success guard_target =ₛ False) | (with_reducible first | ((first | refine seqVC_stepN rfl ?_ | refine seqVC_stepG rfl (by with_unfolding_all rfl) ?_ | refine AWP.seq ?_ | refine AWP.seqR (by kernel_rfl) ?_ | refine parVC_stepN rfl ?_ | refine parVC_stepG rfl (by with_unfolding_all rfl) ?_ | refine parEVC_stepN rfl ?_ | refine parEVC_stepG rfl (by with_unfolding_all rfl) ?_ | refine genVC_stepN rfl ?_ | refine genVC_stepG rfl (by with_unfolding_all rfl) ?_); intro K hK) | ((first | refine hK _ _ _ ?_ | refine hK _ _ ?_ | refine hK _ ?_); clear hK K) | refine seqVC_nil ?_ | refine parVC_nil ?_ | refine parEVC_nil ?_ | refine genVC_nil ?_ | refine AWP.block ?_ | (refine AWP.cond (by with_unfolding_all rfl) ?_ ?_ <;> intro h <;> (try simp only [zM, zN] at h) <;> try exact absurd h (by decide)) | refine AWP.skip ?_ | refine AWP.ret ?_ | refine AWP.exit ?_ | (refine ⟨fun h => ?_, fun h => ?_⟩ <;> (try simp only [zM, zN] at h) <;> try simp only [h]) | refine ⟨by omega, encCal d, hx', ?_⟩ | refine ⟨encCal d, hx', ?_⟩ | (refine ⟨(by first | omega | (simp only [List.length_append, List.length_map, List.length_take, List.length_drop, List.length_cons, List.length_nil, List.length_replicate]; omega) : _ ≤ _), ?_⟩) | refine ⟨by omega, by omega, ?_⟩) | (refine ⟨1000001, _, _, _, draw_k 1000001 t.2.s ht1 3 (by omega), rfl, ?_⟩) | (refine ⟨1000001, _, _, _, draw_k 1000001 (nxt t.2 3).s (ok_nxt ht1 3) 2 (by omega), rfl, ?_⟩) | ( refine Or.inr ⟨_, _, _, rN, ⟨rfl, rfl, trivial⟩, rfl, rfl, ?_⟩) | (with_reducible first | (refine AWP.segP (id := 9) 7 mixed (by kernel_rfl) fun K hK => ?_; simp only [List.take_succ_cons, List.take_zero, List.drop_succ_cons, List.drop_zero]) | (refine AWP.segP (id := 18) 10 mixed (by kernel_rfl) fun K hK => ?_; simp only [List.take_succ_cons, List.take_zero, List.drop_succ_cons, List.drop_zero]) | refine AWP.parR mixed (by kernel_rfl) fun K hK => ?_ | refine ⟨(by kernel_rfl : depB _ _ _ = true), ?_⟩ | refine Or.inl ?_) | (clear hK K))
     all_goals (rw [wrap_succ hlt hlen3, hsuc, hfv]; exact Gh.to [] (by repeat (first | exact trivial | refine ⟨rfl, ?_⟩ | refine ⟨by (simp only [go_sem, zA, zB, zC, zD, zE, zF, zG, reduceCtorEq, zH, zI, zJ, zK, zL, List.length_append, List.length_map, List.length_cons, List.length_nil, Nat.zero_add]) <;> rfl, ?_⟩)) (by repeat (first | exact trivial | refine ⟨rfl, ?_⟩ | refine ⟨by (simp only [go_sem, zA, zB, zC, zD, zE, zF, zG, reduceCtorEq, zH, zI, zJ, zK, zL, List.length_append, List.length_map, List.length_cons, List.length_nil, Nat.zero_add]) <;> rfl, ?_⟩)) rfl rfl rfl)
    | true =>
     rw [hp, cond_true] at hfv
     cases h2 : decide (drawV (nxt t.2 3).s 2 = 0) with
     | false =>
      rw [h2, cond_false] at hfv
      have rN := cN _ hok2
      have lN := (fN _ hok2).2
      repeat' (first | (simp only [go_sem, zA, zB, zC, zD, zE, zF, zG, reduceCtorEq, zH, zI, zJ, zK, zL, hbb, encCal, hp, h2, hwd, hwe, Bx.puts, List.length_map]; all_goals fail_if_success guard_target =ₛ False) | (with_reducible first | ((first | refine seqVC_stepN rfl ?_ | refine seqVC_stepG rfl (by with_unfolding_all rfl) ?_ | refine AWP.seq ?_ | refine AWP.seqR (by kernel_rfl) ?_ | refine parVC_stepN rfl ?_ | refine parVC_stepG rfl (by with_unfolding_all rfl) ?_ | refine parEVC_stepN rfl ?_ | refine parEVC_stepG rfl (by with_unfolding_all rfl) ?_ | refine genVC_stepN rfl ?_ | refine genVC_stepG rfl (by with_unfolding_all rfl) ?_); intro K hK) | ((first | refine hK _ _ _ ?_ | refine hK _ _ ?_ | refine hK _ ?_); clear hK K) | refine seqVC_nil ?_ | refine parVC_nil ?_ | refine parEVC_nil ?_ | refine genVC_nil ?_ | refine AWP.block ?_ | (refine AWP.cond (by with_unfolding_all rfl) ?_ ?_ <;> intro h <;> (try simp only [zM, zN] at h) <;> try exact absurd h (by decide)) | refine AWP.skip ?_ | refine AWP.ret ?_ | refine AWP.exit ?_ | (refine ⟨fun h => ?_, fun h => ?_⟩ <;> (try simp only [zM, zN] at h) <;> try simp only [h]) | refine ⟨by omega, encCal d, hx', ?_⟩ | refine ⟨encCal d, hx', ?_⟩ | (refine ⟨(by first | omega | (simp only [List.length_append, List.length_map, List.length_take, List.length_drop, List.length_cons, List.length_nil, List.length_replicate]; omega) : _ ≤ _), ?_⟩) | refine ⟨by omega, by omega, ?_⟩) | (refine ⟨1000001, _, _, _, draw_k 1000001 t.2.s ht1 3 (by omega), rfl, ?_⟩) | (refine ⟨1000001, _, _, _, draw_k 1000001 (nxt t.2 3).s (ok_nxt ht1 3) 2 (by omega), rfl, ?_⟩) | ( refine Or.inr ⟨_, _, _, rN, ⟨rfl, rfl, trivial⟩, rfl, rfl, ?_⟩) | (with_reducible first | (refine AWP.segP (id := 9) 7 mixed (by kernel_rfl) fun K hK => ?_; simp only [List.take_succ_cons, List.take_zero, List.drop_succ_cons, List.drop_zero]) | (refine AWP.segP (id := 18) 10 mixed (by kernel_rfl) fun K hK => ?_; simp only [List.take_succ_cons, List.take_zero, List.drop_succ_cons, List.drop_zero]) | refine AWP.parR mixed (by kernel_rfl) fun K hK => ?_ | refine ⟨(by kernel_rfl : depB _ _ _ = true), ?_⟩ | refine Or.inl ?_) | (clear hK K))
      all_goals (rw [wrap_succ hlt hlen3, hsuc, hfv]; exact Gh.to [] (by repeat (first | exact trivial | refine ⟨rfl, ?_⟩ | refine ⟨by (simp only [go_sem, zA, zB, zC, zD, zE, zF, zG, reduceCtorEq, zH, zI, zJ, zK, zL, List.length_append, List.length_map, List.length_cons, List.length_nil, Nat.zero_add]) <;> rfl, ?_⟩)) (by repeat (first | exact trivial | refine ⟨rfl, ?_⟩ | refine ⟨by (simp only [go_sem, zA, zB, zC, zD, zE, zF, zG, reduceCtorEq, zH, zI, zJ, zK, zL, List.length_append, List.length_map, List.length_cons, List.length_nil, Nat.zero_add]) <;> rfl, ?_⟩)) rfl rfl rfl)
     | true =>
      rw [h2, cond_true] at hfv
      have rS := cS _ hok2
      have lS := (fS _ hok2).2
      have kS := (fS _ hok2).1
      have rN := cN _ kS
      have lN := (fN _ kS).2
      repeat' (first | (simp only [go_sem, zA, zB, zC, zD, zE, zF, zG, reduceCtorEq, zH, zI, zJ, zK, zL, hbb, encCal, hp, h2, hwd, hwe, Bx.puts, List.length_map]; all_goals fail_if_success guard_target =ₛ False) | (with_reducible first | ((first | refine seqVC_stepN rfl ?_ | refine seqVC_stepG rfl (by with_unfolding_all rfl) ?_ | refine AWP.seq ?_ | refine AWP.seqR (by kernel_rfl) ?_ | refine parVC_stepN rfl ?_ | refine parVC_stepG rfl (by with_unfolding_all rfl) ?_ | refine parEVC_stepN rfl ?_ | refine parEVC_stepG rfl (by with_unfolding_all rfl) ?_ | refine genVC_stepN rfl ?_ | refine genVC_stepG rfl (by with_unfolding_all rfl) ?_); intro K hK) | ((first | refine hK _ _ _ ?_ | refine hK _ _ ?_ | refine hK _ ?_); clear hK K) | refine seqVC_nil ?_ | refine parVC_nil ?_ | refine parEVC_nil ?_ | refine genVC_nil ?_ | refine AWP.block ?_ | (refine AWP.cond (by with_unfolding_all rfl) ?_ ?_ <;> intro h <;> (try simp only [zM, zN] at h) <;> try exact absurd h (by decide)) | refine AWP.skip ?_ | refine AWP.ret ?_ | refine AWP.exit ?_ | (refine ⟨fun h => ?_, fun h => ?_⟩ <;> (try simp only [zM, zN] at h) <;> try simp only [h]) | refine ⟨by omega, encCal d, hx', ?_⟩ | refine ⟨encCal d, hx', ?_⟩ | (refine ⟨(by first | omega | (simp only [List.length_append, List.length_map, List.length_take, List.length_drop, List.length_cons, List.length_nil, List.length_replicate]; omega) : _ ≤ _), ?_⟩) | refine ⟨by omega, by omega, ?_⟩) | (refine ⟨1000001, _, _, _, draw_k 1000001 t.2.s ht1 3 (by omega), rfl, ?_⟩) | (refine ⟨1000001, _, _, _, draw_k 1000001 (nxt t.2 3).s (ok_nxt ht1 3) 2 (by omega), rfl, ?_⟩) | ( refine Or.inr ⟨_, _, _, rS, ⟨rfl, rfl, trivial⟩, rfl, rfl, ?_⟩) | ( refine Or.inr ⟨_, _, _, rN, ⟨rfl, rfl, trivial⟩, rfl, rfl, ?_⟩) | (with_reducible first | (refine AWP.segP (id := 9) 7 mixed (by kernel_rfl) fun K hK => ?_; simp only [List.take_succ_cons, List.take_zero, List.drop_succ_cons, List.drop_zero]) | (refine AWP.segP (id := 18) 10 mixed (by kernel_rfl) fun K hK => ?_; simp only [List.take_succ_cons, List.take_zero, List.drop_succ_cons, List.drop_zero]) | refine AWP.parR mixed (by kernel_rfl) fun K hK => ?_ | refine ⟨(by kernel_rfl : depB _ _ _ = true), ?_⟩ | refine Or.inl ?_) | (clear hK K))
      have hsuc2 : fnAt (modC (Cst0 wild many) g) l s.1 s.2 (k + 1) = (t.1 ++ ((clauseV (modC (Cst0 wild many) g) true d n (nxt (nxt t.2 3) 2)).1 ++ [59, 10]) ++ ((clauseV (modC (Cst0 wild many) g) false d (n + 1) (clauseV (modC (Cst0 wild many) g) true d n (nxt (nxt t.2 3) 2)).2).1 ++ [46, 10]), (clauseV (modC (Cst0 wild many) g) false d (n + 1) (clauseV (modC (Cst0 wild many) g) true d n (nxt (nxt t.2 3) 2)).2).2) := by rw [hsuc, hfv]; simp only [List.append_assoc]
      all_goals (rw [wrap_succ hlt hlen3, hsuc2]; exact Gh.to [] (by repeat (first | exact trivial | refine ⟨rfl, ?_⟩ | refine ⟨by (simp only [go_sem, zA, zB, zC, zD, zE, zF, zG, reduceCtorEq, zH, zI, zJ, zK, zL, List.length_append, List.length_map, List.length_cons, List.length_nil, Nat.zero_add]) <;> rfl, ?_⟩)) (by repeat (first | exact trivial | refine ⟨rfl, ?_⟩ | refine ⟨by (simp only [go_sem, zA, zB, zC, zD, zE, zF, zG, reduceCtorEq, zH, zI, zJ, zK, zL, List.length_append, List.length_map, List.length_cons, List.length_nil, Nat.zero_add]) <;> rfl, ?_⟩)) rfl rfl rfl)
   ·intro t hbb hok
    simp only [go_sem, zA, zB, zC, zD, zE, zF, zG, reduceCtorEq, zH, zI, zJ, zK, zL]
    rw [← hok] at hmv
    refine AWP.gh (Gh.freeze 901 rfl rfl (by simp only [go_sem, zA, zB, zC, zD, zE, zF, zG, reduceCtorEq, zH, zI, zJ, zK, zL, List.length_map]) (by simp only [go_sem, zA, zB, zC, zD, zE, zF, zG, reduceCtorEq, zH, zI, zJ, zK, zL, List.length_map])) ?_
    simp only [go_sem, zA, zB, zC, zD, zE, zF, zG, reduceCtorEq, zH, zI, zJ, zK, zL, List.length_map]
    repeat' (first | (simp only [go_sem, zA, zB, zC, zD, zE, zF, zG, reduceCtorEq, zH, zI, zJ, zK, zL, hbb, List.length_map]; all_goals fail_if_success guard_target =ₛ False) | (with_reducible first | ((first | refine seqVC_stepN rfl ?_ | refine seqVC_stepG rfl (by with_unfolding_all rfl) ?_ | refine AWP.seq ?_ | refine AWP.seqR (by kernel_rfl) ?_ | refine parVC_stepN rfl ?_ | refine parVC_stepG rfl (by with_unfolding_all rfl) ?_ | refine parEVC_stepN rfl ?_ | refine parEVC_stepG rfl (by with_unfolding_all rfl) ?_ | refine genVC_stepN rfl ?_ | refine genVC_stepG rfl (by with_unfolding_all rfl) ?_); intro K hK) | ((first | refine hK _ _ _ ?_ | refine hK _ _ ?_ | refine hK _ ?_); clear hK K) | refine seqVC_nil ?_ | refine parVC_nil ?_ | refine parEVC_nil ?_ | refine genVC_nil ?_ | refine AWP.block ?_ | (refine AWP.cond (by with_unfolding_all rfl) ?_ ?_ <;> intro h <;> (try simp only [zM, zN] at h) <;> try exact absurd h (by decide)) | refine AWP.skip ?_ | refine AWP.ret ?_ | refine AWP.exit ?_ | (refine ⟨fun h => ?_, fun h => ?_⟩ <;> (try simp only [zM, zN] at h) <;> try simp only [h]) | (refine AWP.segP (id := 9) 7 mixed (by kernel_rfl) fun K hK => ?_; simp only [List.take_succ_cons, List.take_zero, List.drop_succ_cons, List.drop_zero]) | (refine AWP.segP (id := 18) 10 mixed (by kernel_rfl) fun K hK => ?_; simp only [List.take_succ_cons, List.take_zero, List.drop_succ_cons, List.drop_zero]) | refine AWP.parR mixed (by kernel_rfl) fun K hK => ?_ | refine ⟨(by kernel_rfl : depB _ _ _ = true), ?_⟩ | refine Or.inl ?_) | (clear hK K))
    all_goals (rw [hmv]; exact ⟨rfl, fun x hx => hx⟩)
end Go.Proofs.YtogponhonjiidaaDoor
set_option linter.unusedVariables false
namespace Go.Sx
variable {P : Program} {n : Nat} {Q : Exit → AS → Prop}
theorem AWP.nilP {id d : Nat} {ty : TypeId} {pos : String} {after : Array Edge} {env : Env} {B : Bx} (hd : Nat.blt d n = true) (hf : env.lookup d = none) (h : Q .normal ⟨env, B⟩) :
  AWP P n (.region id #[{ dst := some d, op := .assign (.const (.pointer none)), type := ty, pos := pos, after := after, guard := none }] false) ⟨env, B⟩ Q := by
 intro κ M0 a w hs
 refine wp_region_lit ?_
 obtain ⟨M, ν, h1, h2, h3, h4, h5, h6⟩ := hs
 unfold wpList
 rw [if_pos (by simp [Region.wanted])]
 left
 unfold Oper.wp
 rw [show (execOp a.eval ({ dst := some d, op := .assign (.const (.pointer none)), type := ty, pos := pos, after := after, guard := none } : Oper)).run P w = .ok (.value (.pointer none)) w from rfl]
 simp only [Oper.upon]
 refine ⟨_, ⟨M, ν, h1, by rw [Act.put_size]; exact h2, by rw [Act.put_defers']; exact h3, ?_, h5, h6⟩, h⟩
 intro d' t hl
 have hne : d' ≠ d := by rintro rfl; rw [hf] at hl; cases hl
 have := h4 d' t hl
 simp only [Act.put]
 simpa [Array.getElem?_setIfInBounds_ne (Ne.symm hne)] using this
/-- the zero value of a struct is the nil pointer and then zs -/
def zptB (P : Program) (t : TypeId) (zs : List C) : Bool :=
 match (P.info? t).bind (·.zero) with
 | some z => (match z.cells.toList with
  | .pointer none :: vs => zmatch zs vs
  | _ => false)
 | none => false
theorem zptB_spec {t : TypeId} {zs : List C} (h : zptB P t zs = true) : ∃ z vs, (∀ w, (zeroValue t).run P w = .ok z w) ∧ z.cells.toList = .pointer none :: vs ∧ zmatch zs vs = true := by
 unfold zptB at h
 split at h
 ·rename_i z hz
  split at h
  ·rename_i vs hv
   obtain ⟨i, hi, hz⟩ := Option.bind_eq_some_iff.1 hz
   exact ⟨z, vs, fun w => by simp [zeroValue, typeInfo, hi, hz], hv, h⟩
  ·cases h
 ·cases h
theorem fill_fst {place : Nat → Option (Nat × Nat)} (h0 : place 0 = some (0, 1)) (u1 u2 : Value) (vs : List Value) (v : Value) :
  Instr.fill place (u1 :: vs).toArray [(0, v)] = Instr.fill place (u2 :: vs).toArray [(0, v)] := by
 unfold Instr.fill
 simp only [h0]
 by_cases hs : v.cells.size = 1
 ·obtain ⟨y, hy⟩ : ∃ y, v.cells = #[y] := by
   refine ⟨v.cells[0]'(by omega), ?_⟩
   apply Array.ext
   ·simpa using hs
   ·intro i h1 h2
    have : i = 0 := by simp at h2; exact h2
    subst this; rfl
  rw [hy]
  simp [Instr.fill]
 ·simp [hs]
def vBuildP (P : Program) (t : TypeId) (zs : List C) (env : Env) (x : Operand) (K : T → Prop) : Prop :=
 match vParts P t env [(0, x)] (.dat (.bool false) :: zs.map .dat) with
 | some cs => K (mkAgg cs)
 | none => False
theorem vBuildP_sound {t : TypeId} {x : Operand} {zs : List C} {env : Env} {B : Bx} {o : Oper} {K : T → Prop} (ho : o.op = .build t #[(0, x)]) (hz : zptB P t zs = true) (hp0 : (prtT P t 0).map (fun p => (p.1, p.2.1)) = some (0, 1)) (hst : (match P.underlying t with | some (.struct _) => true | _ => false) = true) (hf : fieldsOk P t = true)
  (h : vBuildP P t zs env x K) : ∃ u, OpP P o env B u ∧ K u := by
 have hex : ∀ (a : Act), execOp a.eval o = (do pure (.value (← Instr.build t ([(0, x)].map fun (i, x) => (i, a.eval x)).toArray))) := by
  intro a; unfold execOp; rw [ho]; simp
 unfold vBuildP at h
 split at h
 ·rename_i cs hp
  obtain ⟨z, vs, hzr, hzc, hzm⟩ := zptB_spec hz
  refine ⟨_, OpP.of_val fun κ M ν ac w B' hB he hs => ?_, h⟩
  have hops : ∀ p ∈ [(0, x)], ∀ ty u, ev P env ty p.2 = some u → u.rep M ν (ac.eval p.2) := by
   intro p hp ty u hu
   refine ev_rep he ?_ hu
   rw [ho]
   simp only [Op.operands]
   simp at hp
   subst hp
   simp
  have hz0 : Cell.reps M ν (.dat (.bool false) :: zs.map .dat) ((.bool false :: vs : List Value).toArray).toList :=
   ⟨_, _, rfl, rfl, Cell.reps_map_c.2 (zmatch_spec hzm)⟩
  have hst' := hst
  unfold fieldsOk at hf
  split at hf
  ·rename_i fs hu
   have hpl : ∀ i off n ty, prtT P t i = some (off, n, ty) → ((fs.toList.map fun f => (f.offset, (szT P f.type).getD 0))[i]?) = some (off, n) := by
    intro i off n ty hprt
    unfold prtT at hprt
    rw [hu] at hprt
    simp only [] at hprt
    split at hprt
    ·rename_i fd hfd
     cases hsz : szT P fd.type with
     | none => simp [hsz] at hprt
     | some m =>
      simp only [hsz, Option.map_some, Option.some.injEq, Prod.mk.injEq] at hprt
      rw [List.getElem?_map, Array.getElem?_toList, hfd]
      simp [hsz, hprt.1, hprt.2.1]
    ·cases hprt
   have h00 : ((fs.toList.map fun f => (f.offset, (szT P f.type).getD 0))[0]?) = some (0, 1) := by
    obtain ⟨p, hp, e⟩ := Option.map_eq_some_iff.1 hp0
    obtain ⟨a, b, c⟩ := p
    simp only [Prod.mk.injEq] at e
    rw [hpl 0 a b c hp, e.1, e.2]
   obtain ⟨cells', hfill, hrep⟩ := vParts_sound (place := fun i => ((fs.toList.map fun f => (f.offset, (szT P f.type).getD 0))[i]?)) hpl [(0, x)] _ cs _ hops hp hz0
   refine ⟨.agg cells', exec_v (hex ac) ?_, mkAgg_rep hrep⟩
   have hm := mapM_places (P := P) fs.toList (List.all_eq_true.1 hf) w
   unfold Instr.build
   simp only [Sem.run_bind, hzr, Result.andThen_ok, run_underlying hu]
   have hm2 : (fs.mapM (m := Sem) fun f => do pure (f.offset, ← sizeOf f.type)).run P w = .ok (fs.toList.map fun f => (f.offset, (szT P f.type).getD 0)).toArray w := by
    rw [Array.mapM_eq_mapM_toList]
    simp only [Sem.run_map, hm, Result.andThen_ok]
   simp only [hm2, Result.andThen_ok]
   have : (fun (x : Nat) => ((fs.toList.map fun f => (f.offset, (szT P f.type).getD 0)).toArray[x]?)) = fun (i : Nat) => ((fs.toList.map fun f => (f.offset, (szT P f.type).getD 0))[i]?) := by
    funext i; simp
   have hzc' : z.cells = (.pointer none :: vs : List Value).toArray := by rw [← hzc]
   simp only [List.map_cons, List.map_nil] at hfill
   rw [this, hzc']
   have hff := fill_fst (place := fun i => ((fs.toList.map fun f => (f.offset, (szT P f.type).getD 0))[i]?)) h00 (.pointer none) (.bool false) vs (ac.eval x)
   simp only [List.map_cons, List.map_nil]
   rw [hff, hfill]
   rfl
  ·rename_i hu
   rw [hu] at hst; cases hst
  ·cases hf
 ·exact h.elim
theorem seqSem_ap (all : List Oper) (K : AS → Prop) (l2 : List Oper) : ∀ (l1 : List Oper) (σ : AS), seqSem P n all l1 σ (fun τ => seqSem P n all l2 τ K) → seqSem P n all (l1 ++ l2) σ K
 | [], σ, h => h
 | o :: os, σ, h => by
  refine guardT_map h (fun h => ?_) (fun h => ⟨h.1, seqSem_ap all K l2 os _ h.2⟩)
  cases h with
  | pure t h hd k => exact .pure t h hd (seqSem_ap all K l2 os _ k)
  | eff t B' h hd k => exact .eff t B' h hd (seqSem_ap all K l2 os _ k)
  | gen j t B' h hj hf hd k => exact .gen j t B' h hj hf hd (seqSem_ap all K l2 os _ k)
  | genx js t B' h hj hf hd k => exact .genx js t B' h hj hf hd (seqSem_ap all K l2 os _ k)
theorem seqSem_mn (all : List Oper) {K K' : AS → Prop} (hk : ∀ τ, K τ → K' τ) : ∀ (l1 : List Oper) (σ : AS), seqSem P n all l1 σ K → seqSem P n all l1 σ K'
 | [], σ, h => hk _ h
 | o :: os, σ, h => by
  refine guardT_map h (fun h => ?_) (fun h => ⟨h.1, seqSem_mn all hk os _ h.2⟩)
  cases h with
  | pure t h hd k => exact .pure t h hd (seqSem_mn all hk os _ k)
  | eff t B' h hd k => exact .eff t B' h hd (seqSem_mn all hk os _ k)
  | gen j t B' h hj hf hd k => exact .gen j t B' h hj hf hd (seqSem_mn all hk os _ k)
  | genx js t B' h hj hf hd k => exact .genx js t B' h hj hf hd (seqSem_mn all hk os _ k)
/-- a region in which operation i builds a struct whose first field, a pointer, is given -/
theorem AWP.bldP {id : Nat} {l : List Oper} {env : Env} {B : Bx} (i : Nat) {o : Oper} {t : TypeId} {x : Operand} (zs : List C) (hi : l[i]? = some o) (ho : o.op = .build t #[(0, x)]) (hg : o.guard = none) (hd : dstsOk n l = true) (hz : zptB P t zs = true) (hp0 : (prtT P t 0).map (fun p => (p.1, p.2.1)) = some (0, 1)) (hst : (match P.underlying t with | some (.struct _) => true | _ => false) = true) (hf : fieldsOk P t = true)
  (h : ∀ K : Env → Bx → Prop, (∀ e b, Q .normal ⟨e, b⟩ → K e b) → seqVC P l (l.take i) env B fun env1 B1 => vBuildP P t zs env1 x fun u => seqVC P l (l.drop (i + 1)) (putE env1 o.dst u) B1 K) : AWP P n (.region id l.toArray false) ⟨env, B⟩ Q := by
 refine AWP.region_seq fun K hK => ?_
 have hsub : ∀ l' : List Oper, (∀ x ∈ l', x ∈ l) → dstsOk n l' = true := fun l' hs => List.all_eq_true.2 fun x hx => List.all_eq_true.1 hd x (hs x hx)
 have hil : i < l.length := (List.getElem?_eq_some_iff.1 hi).1
 have hoi : l[i] = o := (List.getElem?_eq_some_iff.1 hi).2
 have e : l = l.take i ++ (o :: l.drop (i + 1)) := by
  conv => lhs; rw [← List.take_append_drop i l]
  rw [List.drop_eq_getElem_cons hil, hoi]
 have hv := h (fun e b => K ⟨e, b⟩) (fun e b q => hK _ q)
 have hs : seqSem P n l (l.take i) ⟨env, B⟩ (fun τ => seqSem P n l (o :: l.drop (i + 1)) τ K) := by
  refine seqSem_mn l ?_ _ _ (seqVC_sound l (fun τ => vBuildP P t zs τ.env x fun u => seqVC P l (l.drop (i + 1)) (putE τ.env o.dst u) τ.B fun e b => K ⟨e, b⟩) (l.take i) env B (hsub _ fun x hx => List.mem_of_mem_take hx) hv)
  rintro ⟨env1, B1⟩ hb
  obtain ⟨u, hop, hk⟩ := vBuildP_sound (B := B1) ho hz hp0 hst hf hb
  unfold seqSem guardT
  rw [hg]
  have ho1 : dstOk n o = true := by
   have := List.all_eq_true.1 hd o (List.mem_of_getElem? hi)
   simp only [Bool.and_eq_true] at this
   exact this.1
  exact .pure u hop ho1 (by rw [put_as]; exact seqVC_sound l K (l.drop (i + 1)) _ B1 (hsub _ fun x hx => List.mem_of_mem_drop hx) hk)
 have := seqSem_ap l K (o :: l.drop (i + 1)) (l.take i) ⟨env, B⟩ hs
 rw [← e] at this
 exact this
attribute [go_sem] vBuildP
end Go.Sx
set_option linter.unusedSimpArgs false
set_option linter.unusedVariables false
set_option maxRecDepth 20000
set_option maxHeartbeats 16000000
namespace Go.Proofs.YtogponhonjiidaaDoor
open Go Go.Sx
open Nat renaming reduceBEq → zA, reduceBNe → zB, reduceAdd → zC, reduceSub → zD, reduceMul → zE, reduceLeDiff → zF, reduceLT → zG, reduceEqDiff → zH
open Int renaming reduceToNat → zI, reduceLE → zJ, reduceLT → zK, reduceEq → zL
open Bool renaming not_eq_true' → zM, not_eq_false' → zN
theorem new_c (l : List Int) (hl : l.length ≤ 9223372036854775807) : PCX Tryd.prog 22 [.one (.dat (.sl 1 (l.map encZ)))] [] (.one (.ptr 11 0)) [(11, .cells [.ptr 9 0, .dat (.nil 4), .dat (.int .i64 0), .dat (.bool false), .dat (.int .i64 0)]), (9, .cells [.dat (.sl 1 ((l.take 50).map encZ)), .dat (.int .i64 0)])] := by
 have hcut : (l.map encZ).take (if 50 < (l.length : Int) then 50 else (l.length : Int)).toNat = (l.take 50).map encZ := by
  rw [← List.map_take]
  congr 1
  split
  ·rfl
  ·rw [Int.toNat_natCast, List.take_length, List.take_of_length_le (by omega)]
 refine PCX.of_body Tryd.func22 rfl (by decide) Tryd.ntmps22 Tryd.results22 rfl rfl ?_
 refine AWP.ghQ ?_
 repeat' (first | ( refine AWP.nilP (id := 0) rfl (by simp only [go_sem, zA, zB, zC, zD, zE, zF, zG, reduceCtorEq, zH, zI, zJ, zK, zL, List.length_map, List.drop_zero, hcut]) ?_) | ( refine AWP.bldP (id := 1) 7 [.nil 4, .int .i64 0, .bool false, .int .i64 0] rfl rfl rfl (by kernel_rfl) (by kernel_rfl) (by kernel_rfl) (by kernel_rfl) (by kernel_rfl) fun K hK => ?_; simp only [List.take_succ_cons, List.take_zero, List.drop_succ_cons, List.drop_zero]) | (simp only [go_sem, zA, zB, zC, zD, zE, zF, zG, reduceCtorEq, zH, zI, zJ, zK, zL, List.length_map, List.drop_zero, hcut]; all_goals fail_if_success guard_target =ₛ False) | (with_reducible first | ((first | refine seqVC_stepN rfl ?_ | refine AWP.seq ?_ | refine AWP.seqR (by kernel_rfl) ?_); intro K hK) | ((first | refine hK _ _ _ ?_ | refine hK _ _ ?_ | refine hK _ ?_); clear hK K) | refine seqVC_nil ?_ | refine AWP.block ?_ | (refine AWP.cond (by with_unfolding_all rfl) ?_ ?_ <;> intro h <;> (try simp only [zM, zN] at h) <;> try exact absurd h (by decide)) | refine AWP.skip ?_ | refine AWP.ret ?_ | refine AWP.exit ?_ | (refine ⟨by split <;> omega, by split <;> omega, ?_⟩) | refine Or.inl ?_) | (clear hK K))
 all_goals exact ⟨_, Gh.refl _, rfl, fun x hx => hx⟩
theorem new_x (l : List Int) (hl : l.length ≤ 9223372036854775807) : PCX Tryd.prog 22 [.one (.dat (.sl 1 (l.map encZ)))] [] (.one (.ptr 1011 0)) [(1011, .cells [.ptr 1009 0, .dat (.nil 4), .dat (.int .i64 0), .dat (.bool false), .dat (.int .i64 0)]), (1009, .cells [.dat (.sl 1 ((l.take 50).map encZ)), .dat (.int .i64 0)])] :=
 (new_c l hl).ren (fun k => k) 1000 rfl rfl rfl rfl rfl
def spoilV (s : List UInt8) (at_ how : Int) (c : UInt8) : List UInt8 :=
 let k := ((IntKind.u64.wrap at_).tmod (s.length : Int)).toNat
 let h := (IntKind.u64.wrap how).tmod 6
 bif decide ((s.length : Int) = 0) then s
 else bif decide (h = 0) then s.take k ++ [c] ++ s.drop k
 else bif decide (h = 1) then s.take k ++ s.drop (k + 1)
 else bif decide (h = 2) then s.take k ++ [c] ++ s.drop (k + 1)
 else bif decide (h = 3) then s.take k else s
theorem spoil_c (s : List UInt8) (hs : s.length ≤ 1000000000) (at_ how : Int) (c : UInt8) : PC Tryd.prog 24 [S s, I .i64 at_, I .i64 how, .one (.dat (.int .u8 (c.toNat : Int)))] (S (spoilV s at_ how c)) := by
 have hmax : 1000000000 + 10 ≤ maxLen := by unfold maxLen; omega
 have hb1 := by1 c
 by_cases h0 : s.length = 0
 ·have hd0 : decide ((s.length : Int) = 0) = true := by rw [decide_eq_true_eq]; omega
  have hv : spoilV s at_ how c = s := by unfold spoilV; simp only [hd0, cond_true]
  refine PCB.of_body Tryd.func24 rfl (by decide) Tryd.ntmps24 Tryd.results24 rfl rfl rfl ?_ rfl rfl
  repeat' (first | (simp only [go_sem, zA, zB, zC, zD, zE, zF, zG, reduceCtorEq, zH, zI, zJ, zK, zL, hd0]; all_goals fail_if_success guard_target =ₛ False) | (with_reducible first | ((first | refine seqVC_stepN rfl ?_ | refine AWP.seq ?_ | refine AWP.seqR (by kernel_rfl) ?_ | refine parVC_stepN rfl ?_ | refine parEVC_stepN rfl ?_ | refine genVC_stepN rfl ?_); intro K hK) | ((first | refine hK _ _ _ ?_ | refine hK _ _ ?_ | refine hK _ ?_); clear hK K) | refine seqVC_nil ?_ | refine parVC_nil ?_ | refine parEVC_nil ?_ | refine genVC_nil ?_ | refine AWP.block ?_ | (refine AWP.cond (by with_unfolding_all rfl) ?_ ?_ <;> intro h <;> (try simp only [zM, zN] at h) <;> try exact absurd h (by decide)) | refine AWP.skip ?_ | refine AWP.ret ?_ | refine AWP.exit ?_ | refine AWP.parR mixed (by kernel_rfl) fun K hK => ?_ | refine ⟨(by kernel_rfl : depB _ _ _ = true), ?_⟩ | refine Or.inl ?_) | (clear hK K))
  all_goals (first | exact fun _ h => absurd h List.not_mem_nil | refine fin0 ?_)
  all_goals (rw [hv])
 ·have hd0 : decide ((s.length : Int) = 0) = false := by rw [decide_eq_false_iff_not]; omega
  have hwl : IntKind.u64.wrap (s.length : Int) = (s.length : Int) := by rw [IntKind.wrap_u64]; omega
  have hk0 : 0 ≤ (IntKind.u64.wrap at_).tmod (s.length : Int) := Int.tmod_nonneg _ (by rw [IntKind.wrap_u64]; omega)
  have hk1 : (IntKind.u64.wrap at_).tmod (s.length : Int) < (s.length : Int) := Int.tmod_lt_of_pos _ (by omega)
  have hsv : spoilV s at_ how c = spoilV s at_ how c := rfl
  conv at hsv => rhs; unfold spoilV
  simp only [hd0, cond_false] at hsv
  have hnz : ¬ (s.length : Int) = 0 := by omega
  obtain ⟨k, hke⟩ : ∃ k : Nat, (IntKind.u64.wrap at_).tmod (s.length : Int) = (k : Int) := ⟨_, (Int.toNat_of_nonneg hk0).symm⟩
  rw [hke] at hk0 hk1 hsv
  rw [Int.toNat_natCast] at hsv
  have hwk : IntKind.i64.wrap (k : Int) = (k : Int) := wrapI _ (by omega) (by omega)
  have hwk1 : IntKind.i64.wrap ((k : Int) + 1) = ((k + 1 : Nat) : Int) := by rw [wrapI _ (by omega) (by omega)]; rfl
  have h6 : IntKind.u64.wrap 6 = 6 := by decide
  obtain ⟨hh, hhe⟩ : ∃ hh : Int, (IntKind.u64.wrap how).tmod 6 = hh := ⟨_, rfl⟩
  rw [hhe] at hsv
  refine PCB.of_body Tryd.func24 rfl (by decide) Tryd.ntmps24 Tryd.results24 rfl rfl rfl ?_ rfl rfl
  repeat' (first | (simp only [go_sem, zA, zB, zC, zD, zE, zF, zG, reduceCtorEq, zH, zI, zJ, zK, zL, hd0, hke, hhe, hwl, hwk, hwk1, h6, hb1, Int.toNat_natCast]; all_goals fail_if_success guard_target =ₛ False) | (with_reducible first | ((first | refine seqVC_stepN rfl ?_ | refine AWP.seq ?_ | refine AWP.seqR (by kernel_rfl) ?_ | refine parVC_stepN rfl ?_ | refine parEVC_stepN rfl ?_ | refine genVC_stepN rfl ?_); intro K hK) | ((first | refine hK _ _ _ ?_ | refine hK _ _ ?_ | refine hK _ ?_); clear hK K) | refine seqVC_nil ?_ | refine parVC_nil ?_ | refine parEVC_nil ?_ | refine genVC_nil ?_ | refine AWP.block ?_ | (refine AWP.cond (by with_unfolding_all rfl) ?_ ?_ <;> intro h <;> (try simp only [zM, zN] at h) <;> try exact absurd h (by decide)) | refine AWP.skip ?_ | refine AWP.ret ?_ | refine AWP.exit ?_ | (refine ⟨(by first | omega | (simp only [List.length_append, List.length_map, List.length_take, List.length_drop, List.length_cons, List.length_nil, List.length_replicate]; omega) : _ ≤ _), ?_⟩) | refine ⟨by omega, by omega, ?_⟩ | refine ⟨by omega, by omega, ?_⟩ | refine ⟨hnz, ?_⟩ | refine ⟨by decide, ?_⟩ | refine AWP.parR mixed (by kernel_rfl) fun K hK => ?_ | refine ⟨(by kernel_rfl : depB _ _ _ = true), ?_⟩ | refine Or.inl ?_) | (clear hK K))
  all_goals (simp only [hsv, *, cond_true, cond_false, List.drop_zero, List.take_length]; first | exact ⟨rfl, fun x hx => hx⟩ | exact fun x hx => hx | exact ⟨trivial, fun x hx => hx⟩)
/-- the text of a module made of numbers -/
def gen0 (l : List Int) : Gn := ⟨⟨l.take 50, 0⟩, 0⟩
def textV (l : List Int) : List UInt8 := (moduleV (Cst0 0 true) [109] (gen0 l)).1
def InI (l : List Int) : Prop := ∀ x ∈ l, -9223372036854775808 ≤ x ∧ x ≤ 9223372036854775807
theorem gen0_ok (l : List Int) (h : InI l) : (gen0 l).s.ok := ⟨fun x hx => h x (List.mem_of_mem_take hx), by simp only [gen0, List.length_take]; omega⟩
theorem textV_len (l : List Int) (h : InI l) : (textV l).length ≤ 200000 := (moduleV_fine (Cst0 0 true) rfl [109] (by simp) (gen0 l) (gen0_ok l h)).2
theorem made_c (l : List Int) (hl : l.length ≤ 9223372036854775807) (h : InI l) (at_ how : Int) (c : UInt8) : PC Tryd.prog 12 [.one (.dat (.sl 1 (l.map encZ))), I .i64 at_, I .i64 how, .one (.dat (.int .u8 (c.toNat : Int)))] (S (spoilV (textV l) at_ how c)) := by
 have htl := textV_len l h
 have hn := new_x l hl
 have hm := PCB.ren (module_c 0 true rfl (gen0 l) (gen0_ok l h) [109] (by simp)) (fun k => bif k == 1000000 then 1011 else 1009) rfl rfl rfl rfl rfl rfl
 have hs := spoil_c (textV l) (by omega) at_ how c
 unfold textV at hs ⊢
 refine PCB.of_body Tryd.func12 rfl (by decide) Tryd.ntmps12 Tryd.results12 rfl rfl rfl ?_ rfl rfl
 repeat' (first | (simp only [go_sem, zA, zB, zC, zD, zE, zF, zG, reduceCtorEq, zH, zI, zJ, zK, zL, Bx.puts]; all_goals fail_if_success guard_target =ₛ False) | (with_reducible first | ((first | refine seqVC_stepN rfl ?_ | refine AWP.seq ?_ | refine AWP.seqR (by kernel_rfl) ?_); intro K hK) | ((first | refine hK _ _ _ ?_ | refine hK _ _ ?_ | refine hK _ ?_); clear hK K) | refine seqVC_nil ?_ | refine AWP.block ?_ | (refine AWP.cond (by with_unfolding_all rfl) ?_ ?_ <;> intro h <;> (try simp only [zM, zN] at h) <;> try exact absurd h (by decide)) | refine AWP.skip ?_ | refine AWP.ret ?_ | refine AWP.exit ?_ | refine ⟨_, hs, ?_⟩) | (refine Or.inr (Or.inr (vCallX.mk hn (by repeat (first | exact trivial | refine And.intro rfl ?_)) (by rfl) (by first | rfl | (simp only [newNames, List.all_cons, List.all_nil, go_sem, zA, zB, zC, zD, zE, zF, zG, reduceCtorEq, zH, zI, zJ, zK, zL, Bx.puts] <;> rfl)) (by rfl) (by rfl) ?_))) | ( refine Or.inr ⟨_, _, _, hm, ⟨rfl, rfl, trivial⟩, rfl, rfl, ?_⟩) | (with_reducible first | refine Or.inl ?_) | (clear hK K))
 all_goals (first | exact fun _ h => absurd h List.not_mem_nil | refine fin0 ?_)
 all_goals rfl
end Go.Proofs.YtogponhonjiidaaDoor
set_option maxRecDepth 100000
namespace Go.Proofs
open Go.Shelf
def Tryd.writeByteL_ren : Go.Shelf.Ren := ⟨fun | 179 => 69 | 251 => 91 | 252 => 92 | 181 => 108 | 184 => 109 | 290 => 110 | 324 => 120 | n => n, fun | 130 => 124 | 5 => 5 | 75 => 82 | 0 => 0 | 93 => 104 | 91 => 102 | 3 => 3 | 131 => 125 | 4 => 4 | 37 => 40 | 20 => 20 | 80 => 85 | 9 => 9 | n => n, fun | 14 => 2 | n => n⟩
theorem Tryd.writeByteL : Go.Proofs.LaysM.n179 Tryd.prog Tryd.writeByteL_ren := {
 mixed := by kernel_rfl,
 f179 := Tryd.func69.trans (congrArg some (by kernel_rfl)),
 f181 := Tryd.func108.trans (congrArg some (by kernel_rfl)),
 f184 := Tryd.func109.trans (congrArg some (by kernel_rfl)),
 f251 := Tryd.func91.trans (congrArg some (by kernel_rfl)),
 f252 := Tryd.func92.trans (congrArg some (by kernel_rfl)),
 f290 := Tryd.func110.trans (congrArg some (by kernel_rfl)),
 f324 := Tryd.func120.trans (congrArg some (by kernel_rfl)),
 t0 := Tryd.underlying0,
 a0 := Tryd.isAgg0,
 z0 := Tryd.sizeOf0,
 v0 := Tryd.zeroValue0,
 t3 := Tryd.underlying3,
 a3 := Tryd.isAgg3,
 z3 := Tryd.sizeOf3,
 v3 := Tryd.zeroValue3,
 t4 := Tryd.underlying4,
 a4 := Tryd.isAgg4,
 z4 := Tryd.sizeOf4,
 v4 := Tryd.zeroValue4,
 t5 := Tryd.underlying5,
 a5 := Tryd.isAgg5,
 z5 := Tryd.sizeOf5,
 v5 := Tryd.zeroValue5,
 t20 := Tryd.underlying20,
 a20 := Tryd.isAgg20,
 z20 := Tryd.sizeOf20,
 v20 := Tryd.zeroValue20,
 t37 := Tryd.underlying40,
 a37 := Tryd.isAgg40,
 z37 := Tryd.sizeOf40,
 v37 := Tryd.zeroValue40,
 t75 := Tryd.underlying82,
 a75 := Tryd.isAgg82,
 z75 := Tryd.sizeOf82,
 v75 := Tryd.zeroValue82,
 t91 := Tryd.underlying102,
 a91 := Tryd.isAgg102,
 z91 := Tryd.sizeOf102,
 v91 := Tryd.zeroValue102,
 t93 := Tryd.underlying104,
 a93 := Tryd.isAgg104,
 z93 := Tryd.sizeOf104,
 v93 := Tryd.zeroValue104,
 t130 := Tryd.underlying124,
 a130 := Tryd.isAgg124,
 z130 := Tryd.sizeOf124,
 v130 := Tryd.zeroValue124,
 t131 := Tryd.underlying125,
 a131 := Tryd.isAgg125,
 z131 := Tryd.sizeOf125,
 v131 := Tryd.zeroValue125,
 g14 := by kernel_rfl,
 t9 := Tryd.underlying9,
 a9 := Tryd.isAgg9,
 z9 := Tryd.sizeOf9,
 v9 := Tryd.zeroValue9,
 t80 := Tryd.underlying85,
 a80 := Tryd.isAgg85,
 z80 := Tryd.sizeOf85,
 v80 := Tryd.zeroValue85,
 i0 := by kernel_rfl,
 i3 := by kernel_rfl,
 i4 := by kernel_rfl,
 i5 := by kernel_rfl,
 i9 := by kernel_rfl,
 i20 := by kernel_rfl,
 i37 := by kernel_rfl,
 i75 := by kernel_rfl,
 i80 := by kernel_rfl,
 i91 := by kernel_rfl,
 i93 := by kernel_rfl,
 i130 := by kernel_rfl,
 i131 := by kernel_rfl,
 m14 := by kernel_rfl }
def Tryd.writeStringL_ren : Go.Shelf.Ren := ⟨fun | 178 => 70 | 251 => 91 | 252 => 92 | 181 => 108 | 184 => 109 | 290 => 110 | 324 => 120 | n => n, fun | 130 => 124 | 9 => 9 | 3 => 3 | 75 => 82 | 0 => 0 | 93 => 104 | 91 => 102 | 131 => 125 | 4 => 4 | 37 => 40 | 20 => 20 | 80 => 85 | 5 => 5 | n => n, fun | 14 => 2 | n => n⟩
theorem Tryd.writeStringL : Go.Proofs.LaysM.n178 Tryd.prog Tryd.writeStringL_ren := {
 mixed := by kernel_rfl,
 f178 := Tryd.func70.trans (congrArg some (by kernel_rfl)),
 f181 := Tryd.func108.trans (congrArg some (by kernel_rfl)),
 f184 := Tryd.func109.trans (congrArg some (by kernel_rfl)),
 f251 := Tryd.func91.trans (congrArg some (by kernel_rfl)),
 f252 := Tryd.func92.trans (congrArg some (by kernel_rfl)),
 f290 := Tryd.func110.trans (congrArg some (by kernel_rfl)),
 f324 := Tryd.func120.trans (congrArg some (by kernel_rfl)),
 t0 := Tryd.underlying0,
 a0 := Tryd.isAgg0,
 z0 := Tryd.sizeOf0,
 v0 := Tryd.zeroValue0,
 t3 := Tryd.underlying3,
 a3 := Tryd.isAgg3,
 z3 := Tryd.sizeOf3,
 v3 := Tryd.zeroValue3,
 t4 := Tryd.underlying4,
 a4 := Tryd.isAgg4,
 z4 := Tryd.sizeOf4,
 v4 := Tryd.zeroValue4,
 t9 := Tryd.underlying9,
 a9 := Tryd.isAgg9,
 z9 := Tryd.sizeOf9,
 v9 := Tryd.zeroValue9,
 t20 := Tryd.underlying20,
 a20 := Tryd.isAgg20,
 z20 := Tryd.sizeOf20,
 v20 := Tryd.zeroValue20,
 t37 := Tryd.underlying40,
 a37 := Tryd.isAgg40,
 z37 := Tryd.sizeOf40,
 v37 := Tryd.zeroValue40,
 t75 := Tryd.underlying82,
 a75 := Tryd.isAgg82,
 z75 := Tryd.sizeOf82,
 v75 := Tryd.zeroValue82,
 t91 := Tryd.underlying102,
 a91 := Tryd.isAgg102,
 z91 := Tryd.sizeOf102,
 v91 := Tryd.zeroValue102,
 t93 := Tryd.underlying104,
 a93 := Tryd.isAgg104,
 z93 := Tryd.sizeOf104,
 v93 := Tryd.zeroValue104,
 t130 := Tryd.underlying124,
 a130 := Tryd.isAgg124,
 z130 := Tryd.sizeOf124,
 v130 := Tryd.zeroValue124,
 t131 := Tryd.underlying125,
 a131 := Tryd.isAgg125,
 z131 := Tryd.sizeOf125,
 v131 := Tryd.zeroValue125,
 g14 := by kernel_rfl,
 t5 := Tryd.underlying5,
 a5 := Tryd.isAgg5,
 z5 := Tryd.sizeOf5,
 v5 := Tryd.zeroValue5,
 t80 := Tryd.underlying85,
 a80 := Tryd.isAgg85,
 z80 := Tryd.sizeOf85,
 v80 := Tryd.zeroValue85,
 i0 := by kernel_rfl,
 i3 := by kernel_rfl,
 i4 := by kernel_rfl,
 i5 := by kernel_rfl,
 i9 := by kernel_rfl,
 i20 := by kernel_rfl,
 i37 := by kernel_rfl,
 i75 := by kernel_rfl,
 i80 := by kernel_rfl,
 i91 := by kernel_rfl,
 i93 := by kernel_rfl,
 i130 := by kernel_rfl,
 i131 := by kernel_rfl,
 m14 := by kernel_rfl }
def Tryd.bufStringL_ren : Go.Shelf.Ren := ⟨fun | 182 => 71 | n => n, fun | 130 => 124 | 9 => 9 | 4 => 4 | 0 => 0 | 93 => 104 | 37 => 40 | 3 => 3 | 91 => 102 | 5 => 5 | n => n, fun | n => n⟩
theorem Tryd.bufStringL : Go.Proofs.LaysM.n182 Tryd.prog Tryd.bufStringL_ren := {
 mixed := by kernel_rfl,
 f182 := Tryd.func71.trans (congrArg some (by kernel_rfl)),
 t0 := Tryd.underlying0,
 a0 := Tryd.isAgg0,
 z0 := Tryd.sizeOf0,
 v0 := Tryd.zeroValue0,
 t3 := Tryd.underlying3,
 a3 := Tryd.isAgg3,
 z3 := Tryd.sizeOf3,
 v3 := Tryd.zeroValue3,
 t4 := Tryd.underlying4,
 a4 := Tryd.isAgg4,
 z4 := Tryd.sizeOf4,
 v4 := Tryd.zeroValue4,
 t9 := Tryd.underlying9,
 a9 := Tryd.isAgg9,
 z9 := Tryd.sizeOf9,
 v9 := Tryd.zeroValue9,
 t37 := Tryd.underlying40,
 a37 := Tryd.isAgg40,
 z37 := Tryd.sizeOf40,
 v37 := Tryd.zeroValue40,
 t93 := Tryd.underlying104,
 a93 := Tryd.isAgg104,
 z93 := Tryd.sizeOf104,
 v93 := Tryd.zeroValue104,
 t130 := Tryd.underlying124,
 a130 := Tryd.isAgg124,
 z130 := Tryd.sizeOf124,
 v130 := Tryd.zeroValue124,
 t5 := Tryd.underlying5,
 a5 := Tryd.isAgg5,
 z5 := Tryd.sizeOf5,
 v5 := Tryd.zeroValue5,
 t91 := Tryd.underlying102,
 a91 := Tryd.isAgg102,
 z91 := Tryd.sizeOf102,
 v91 := Tryd.zeroValue102,
 i0 := by kernel_rfl,
 i3 := by kernel_rfl,
 i4 := by kernel_rfl,
 i5 := by kernel_rfl,
 i9 := by kernel_rfl,
 i37 := by kernel_rfl,
 i91 := by kernel_rfl,
 i93 := by kernel_rfl,
 i130 := by kernel_rfl }
end Go.Proofs
set_option linter.unusedVariables false
namespace Go.Sx
def hexL : List UInt8 := [48, 49, 50, 51, 52, 53, 54, 55, 56, 57, 97, 98, 99, 100, 101, 102]
def hexd (n : Nat) : UInt8 := hexL.getD n 0
/-- the bytes that stand for a byte within quotes -/
def quote1 (c : UInt8) : List UInt8 :=
 bif decide (c.toNat = 34) || decide (c.toNat = 92) then [92, c]
 else bif decide (32 ≤ c.toNat) && decide (c.toNat ≤ 126) then [c]
 else [92, 120, hexd (c.toNat / 16), hexd (c.toNat % 16)]
def quoteB (s : List UInt8) : List UInt8 := s.flatMap quote1
def quoteL (s : List UInt8) : List UInt8 := 34 :: (quoteB s ++ [34])
/-- the value of a hexadecimal digit -/
def nibI (n : Nat) : Option Nat := if 48 ≤ n ∧ n ≤ 57 then some (n - 48) else if 97 ≤ n ∧ n ≤ 102 then some (n - 87) else none
/-- the byte of two hexadecimal digits -/
def hexB (h k : UInt8) : Option UInt8 := match nibI h.toNat, nibI k.toNat with
 | some a, some b => some (UInt8.ofNat (16 * a + b))
 | _, _ => none
/-- an escape behind a backslash and x, in the program's reading -/
def escP : List UInt8 → Option UInt8
 | h :: k :: _ => hexB h k
 | _ => none
/-- the program's reading of what stands between the quotes -/
def decP : List UInt8 → Option (List UInt8)
 | [] => some []
 | [c] => bif decide (c.toNat = 92) then none else some [c]
 | c :: d :: m => bif decide (c.toNat = 92) then
   bif decide (d.toNat = 120) then
    match escP m with
    | some x => (decP (m.drop 2)).map (x :: ·)
    | none => none
   else (decP m).map (d :: ·)
  else (decP (d :: m)).map (c :: ·)
termination_by l => l.length
decreasing_by all_goals (simp; try omega)
/-- an escape behind a backslash, in the reference's reading -/
def escR (d : UInt8) (m : List UInt8) : Option UInt8 := bif decide (d.toNat = 120) then
  match m with
  | h :: k :: _ :: _ => hexB h k
  | _ => none
 else none
/-- the reference's, up to a last byte -/
def decR : List UInt8 → List UInt8
 | [] => []
 | [_] => []
 | c :: d :: m => bif decide (c.toNat = 92) then
   match escR d m with
   | some x => x :: decR (m.drop 2)
   | none => d :: decR m
  else c :: decR (d :: m)
termination_by l => l.length
decreasing_by all_goals (simp; try omega)
theorem hexd_nib : ∀ n < 16, nibI (hexd n).toNat = some n := by decide
theorem dec_byte (c : UInt8) : UInt8.ofNat (16 * (c.toNat / 16) + c.toNat % 16) = c := by
 rw [Nat.div_add_mod]; simp
theorem u92 : (92 : UInt8).toNat = 92 := rfl
theorem u120 : (120 : UInt8).toNat = 120 := rfl
theorem hexB_q (c : UInt8) : hexB (hexd (c.toNat / 16)) (hexd (c.toNat % 16)) = some c := by
 have hc : c.toNat < 256 := UInt8.toNat_lt c
 unfold hexB
 rw [hexd_nib _ (by omega), hexd_nib _ (by omega)]
 simp only [dec_byte]
theorem decP_q (c : UInt8) (r : List UInt8) : decP (quote1 c ++ r) = (decP r).map (c :: ·) := by
 have hc : c.toNat < 256 := UInt8.toNat_lt c
 unfold quote1
 by_cases h1 : c.toNat = 34 ∨ c.toNat = 92
 ·have e : (decide (c.toNat = 34) || decide (c.toNat = 92)) = true := by simpa using h1
  rw [e, cond_true]
  have h2 : decide (c.toNat = 120) = false := by simp; omega
  simp only [List.cons_append, List.nil_append]
  rw [decP]
  simp only [u92, decide_true, cond_true, h2, cond_false]
 ·have e : (decide (c.toNat = 34) || decide (c.toNat = 92)) = false := by simpa using h1
  have h3 : decide (c.toNat = 92) = false := by simp; omega
  rw [e, cond_false]
  cases h4 : decide (32 ≤ c.toNat) && decide (c.toNat ≤ 126) with
  | true =>
   simp only [cond_true, List.cons_append, List.nil_append]
   cases r with
   | nil => rw [decP, decP]; simp only [h3, cond_false]; rfl
   | cons z r => rw [decP]; simp only [h3, cond_false]
  | false =>
   simp only [cond_false, List.cons_append, List.nil_append]
   rw [decP]
   simp only [u92, u120, decide_true, cond_true, escP, hexB_q, List.drop_succ_cons, List.drop_zero]
theorem decP_quote : ∀ t : List UInt8, decP (quoteB t) = some t
 | [] => by simp [quoteB, decP]
 | c :: t => by
  have := decP_quote t
  unfold quoteB at this ⊢
  rw [List.flatMap_cons, decP_q, this]; rfl
theorem decR_q (c : UInt8) (r : List UInt8) (hr : r ≠ []) : decR (quote1 c ++ r) = c :: decR r := by
 have hc : c.toNat < 256 := UInt8.toNat_lt c
 obtain ⟨z, r, rfl⟩ : ∃ z r', r = z :: r' := by cases r with | nil => exact absurd rfl hr | cons z r => exact ⟨z, r, rfl⟩
 unfold quote1
 by_cases h1 : c.toNat = 34 ∨ c.toNat = 92
 ·have e : (decide (c.toNat = 34) || decide (c.toNat = 92)) = true := by simpa using h1
  rw [e, cond_true]
  have h2 : decide (c.toNat = 120) = false := by simp; omega
  simp only [List.cons_append, List.nil_append]
  rw [decR]
  have e3 : escR c (z :: r) = none := by unfold escR; rw [h2]; rfl
  simp only [u92, decide_true, cond_true, e3]
 ·have e : (decide (c.toNat = 34) || decide (c.toNat = 92)) = false := by simpa using h1
  have h3 : decide (c.toNat = 92) = false := by simp; omega
  rw [e, cond_false]
  cases h4 : decide (32 ≤ c.toNat) && decide (c.toNat ≤ 126) with
  | true =>
   simp only [cond_true, List.cons_append, List.nil_append]
   rw [decR]
   simp only [h3, cond_false]
  | false =>
   simp only [cond_false, List.cons_append, List.nil_append]
   rw [decR]
   have e3 : escR 120 (hexd (c.toNat / 16) :: hexd (c.toNat % 16) :: z :: r) = some c := by
    unfold escR
    simp only [u120, decide_true, cond_true, hexB_q]
   simp only [u92, decide_true, cond_true, e3, List.drop_succ_cons, List.drop_zero]
theorem decR_quote : ∀ t : List UInt8, decR (quoteB t ++ [34]) = t
 | [] => by rw [show quoteB [] ++ [34] = [34] from rfl, decR]
 | c :: t => by
  have := decR_quote t
  unfold quoteB at this ⊢
  rw [List.flatMap_cons, List.append_assoc, decR_q _ _ (by simp), this]
/-- the string whose quotation s is -/
def unqV (s : List UInt8) : Option (List UInt8) := bif decide (quoteL (decR (s.drop 1)) = s) then some (decR (s.drop 1)) else none
theorem unqV_some {s t : List UInt8} : unqV s = some t ↔ quoteL t = s := by
 constructor
 ·intro h
  unfold unqV at h
  cases hd : decide (quoteL (decR (s.drop 1)) = s) with
  | true =>
   rw [hd, cond_true] at h
   cases h
   simpa using hd
  | false => rw [hd] at h; cases h
 ·rintro rfl
  have : decR ((quoteL t).drop 1) = t := by
   unfold quoteL
   rw [List.drop_succ_cons, List.drop_zero, decR_quote]
  unfold unqV
  rw [this]; simp
/-- the program's own reading -/
def unqP (s : List UInt8) : Option (List UInt8) :=
 bif decide (s.length < 2) || (!decide (s.head? = some 34) || !decide (s.getLast? = some 34)) then none
 else match decP ((s.take (s.length - 1)).drop 1) with
  | none => none
  | some t => bif decide (quoteL t = s) then some t else none
theorem unqP_eq (s : List UInt8) : unqP s = unqV s := by
 have hP : ∀ t, unqP s = some t ↔ quoteL t = s := by
  intro t
  constructor
  ·intro h
   unfold unqP at h
   cases h1 : decide (s.length < 2) || (!decide (s.head? = some 34) || !decide (s.getLast? = some 34)) with
   | true => rw [h1] at h; cases h
   | false =>
    rw [h1, cond_false] at h
    split at h
    ·cases h
    ·rename_i u _
     cases hd : decide (quoteL u = s) with
     | true => rw [hd, cond_true] at h; cases h; simpa using hd
     | false => rw [hd] at h; cases h
  ·rintro rfl
   unfold unqP
   have e1 : (decide ((quoteL t).length < 2) || (!decide ((quoteL t).head? = some 34) || !decide ((quoteL t).getLast? = some 34))) = false := by
    have h2 : (quoteL t).length = (quoteB t).length + 2 := by simp [quoteL]
    have h3 : (quoteL t).head? = some 34 := rfl
    have h4 : (quoteL t).getLast? = some 34 := by unfold quoteL; rw [← List.cons_append, List.getLast?_append]; rfl
    rw [h2, h3, h4]
    have : ¬ ((quoteB t).length + 2 < 2) := by omega
    simp
   have e2 : ((quoteL t).take ((quoteL t).length - 1)).drop 1 = quoteB t := by
    have h2 : (quoteL t).length - 1 = (quoteB t).length + 1 := by simp [quoteL]
    rw [h2]
    unfold quoteL
    rw [List.take_succ_cons, List.drop_succ_cons, List.drop_zero, List.take_append_of_le_length (by omega), List.take_length]
   rw [e1, cond_false, e2, decP_quote]
   simp
 cases h : unqP s with
 | none =>
  cases h2 : unqV s with
  | none => rfl
  | some t => rw [unqV_some, ← hP, h] at h2; cases h2
 | some t => rw [hP, ← unqV_some] at h; exact h.symm
end Go.Sx
set_option linter.unusedSimpArgs false
set_option linter.unusedVariables false
set_option maxRecDepth 100000
set_option maxHeartbeats 6400000
namespace Go.Proofs.YtogponhonjiidaaDoor
open Go Go.RowKit
theorem writeByte_k (B b : Nat) (l : List UInt8) (c : UInt8) (w : World) (h : Lib.IsBuffer 104 5 B b (Lib.byteCells l) w) (hBw : B ≤ w.heap.size) (hlim : l.length + 1 ≤ 140737488355328) :
  Calls Tryd.prog 69 #[.pointer (some ⟨b, 0, none⟩), .int .u8 c.toNat] w fun e w' => e = .returned .nilIface ∧ Lib.IsBuffer 104 5 B b (Lib.byteCells (l ++ [c])) w' ∧ Below B w w' := by
 refine (Any.Buffer_WriteByte_k Tryd.writeByteL B b (Lib.byteCells l) c.toNat w h hBw (Lib.byteCells_one _) (by rw [Lib.byteCells_length]; exact hlim)).mono ?_
 rintro e w' ⟨h1, h2, h3, _⟩
 exact ⟨h1, by rw [Lib.byteCells_append]; exact h2, h3⟩
theorem writeByte_z (B b : Nat) (l : List UInt8) (c : UInt8) (z : Int) (hz : (c.toNat : Int) = z) (w : World) (h : Lib.IsBuffer 104 5 B b (Lib.byteCells l) w) (hBw : B ≤ w.heap.size) (hlim : l.length + 1 ≤ 140737488355328) :
  Calls Tryd.prog 69 #[.pointer (some ⟨b, 0, none⟩), .int .u8 z] w fun e w' => e = .returned .nilIface ∧ Lib.IsBuffer 104 5 B b (Lib.byteCells (l ++ [c])) w' ∧ Below B w w' := by
 subst hz; exact writeByte_k B b l c w h hBw hlim
theorem writeString_k (B b : Nat) (l s : List UInt8) (w : World) (h : Lib.IsBuffer 104 5 B b (Lib.byteCells l) w) (hBw : B ≤ w.heap.size) (hlim : l.length + s.length ≤ 140737488355328) :
  Calls Tryd.prog 70 #[.pointer (some ⟨b, 0, none⟩), .string ⟨s.toArray⟩] w fun e w' => e = .returned (.tuple #[.int .i64 s.length, .nilIface]) ∧ Lib.IsBuffer 104 5 B b (Lib.byteCells (l ++ s)) w' ∧ Below B w w' := by
 refine (Any.Buffer_WriteString_k Tryd.writeStringL B b (Lib.byteCells l) ⟨s.toArray⟩ w h hBw (Lib.byteCells_one _) (by rw [Lib.byteCells_length]; simpa [ByteArray.size] using hlim)).mono ?_
 rintro e w' ⟨h1, h2, h3, _⟩
 exact ⟨by rw [h1]; simp [ByteArray.size], by rw [Lib.byteCells_append]; exact h2, h3⟩
theorem bufString_k (B b : Nat) (l : List UInt8) (w : World) (h : Lib.IsBuffer 104 5 B b (Lib.byteCells l) w) :
  Calls Tryd.prog 71 #[.pointer (some ⟨b, 0, none⟩)] w fun e w' => e = .returned (.string ⟨l.toArray⟩) ∧ ∃ n, w' = w.drewN n :=
 Any.Buffer_String Tryd.bufStringL B b l w h
theorem hexI (n : Nat) (h : n < 16) : ((ByteArray.mk #[48, 49, 50, 51, 52, 53, 54, 55, 56, 57, 97, 98, 99, 100, 101, 102])[n]'h).toNat = (Sx.hexd n).toNat := by
 revert n; decide
theorem quoteB_succ (s : List UInt8) (k : Nat) (hk : k < s.length) : Sx.quoteB (s.take (k + 1)) = Sx.quoteB (s.take k) ++ Sx.quote1 s[k] := by
 unfold Sx.quoteB
 rw [List.take_add_one, List.getElem?_eq_getElem hk, List.flatMap_append]
 simp
theorem quote1_le (c : UInt8) : (Sx.quote1 c).length ≤ 4 := by
 unfold Sx.quote1
 cases decide (c.toNat = 34) || decide (c.toNat = 92) <;> cases decide (32 ≤ c.toNat) && decide (c.toNat ≤ 126) <;> simp
theorem quoteB_le : ∀ s : List UInt8, (Sx.quoteB s).length ≤ 4 * s.length
 | [] => by simp [Sx.quoteB]
 | c :: s => by
  have h1 := quoteB_le s
  have h2 := quote1_le c
  unfold Sx.quoteB at h1 ⊢
  simp only [List.flatMap_cons, List.length_append, List.length_cons]
  omega
theorem quote_n (s : List UInt8) (hs : s.length ≤ 1000000000) (w : World) :
  Calls Tryd.prog 39 #[.string ⟨s.toArray⟩] w fun e w' => e = .returned (.string ⟨(Sx.quoteL s).toArray⟩) ∧ Below w.heap.size w w' := by
 have hI0 : Lib.IsBuffer 104 5 w.heap.size w.heap.size (Lib.byteCells []) (w.alloc (.cells #[.slice none 0 0, .int .i64 0, .int .i8 0] 104)) := Lib.fresh_isBuffer 104 5 w
 have hb0 : Below w.heap.size w (w.alloc (.cells #[.slice none 0 0, .int .i64 0, .int .i8 0] 104)) := (Below.refl _ w).alloc (Nat.le_refl _) _
 go_enter Tryd.func39, Tryd.ntmps39
 go_wp2_with (go_at_call 69; refine (writeByte_z w.heap.size w.heap.size [] 34 _ (by decide) _ hI0 (by simp) (by simp)).mono ?_; rintro e W1 ⟨rfl, hI1, hb1⟩)
 go_wp2
 go_loopw [4] (fun i wr => ∃ k : Nat, k ≤ s.length ∧ i = .int .i64 k ∧ Lib.IsBuffer 104 5 w.heap.size w.heap.size (Lib.byteCells ([34] ++ Sx.quoteB (s.take k))) wr ∧ Below w.heap.size w wr) (fun i _ => s.length - (intOf i).toNat)
 case atStart => exact ⟨0, Nat.zero_le _, rfl, hI1, hb0.trans hb1⟩
 case round =>
  obtain ⟨k, hk, rfl, hI, hb⟩ := hrel
  clear hI0 hb0 hI1 hb1
  by_cases hlt : k < s.length
  ·have hl : ([34] ++ Sx.quoteB (s.take k)).length ≤ 4 * s.length + 1 := by
    have h1 := quoteB_le (s.take k)
    rw [List.length_take] at h1
    simp only [List.length_append, List.length_cons, List.length_nil]; omega
   have hn : [34] ++ Sx.quoteB (s.take (k + 1)) = ([34] ++ Sx.quoteB (s.take k)) ++ Sx.quote1 s[k] := by rw [quoteB_succ s k hlt, List.append_assoc]
   have hw := hb.size
   generalize [34] ++ Sx.quoteB (s.take k) = pre at hI hl hn
   have hcc : (ByteArray.mk s.toArray)[k]'hlt = s[k] := by simp [ByteArray.getElem_eq_getElem_data]
   generalize hc : s[k] = c at hn hcc
   have hc256 := UInt8.toNat_lt c
   by_cases h1 : c.toNat = 34
   ·have i1 : (c.toNat : Int) = 34 := by omega
    have q1 : Sx.quote1 c = [92, c] := by simp [Sx.quote1, h1]
    go_wp2_with (go_at_call 69; refine (writeByte_z w.heap.size w.heap.size (pre) 92 _ (by decide) _ hI (by omega) (by simp; omega)).mono ?_; rintro e W2 ⟨rfl, hI2, hb2⟩)
    go_wp2_with (go_at_call 69; refine (writeByte_z w.heap.size w.heap.size (pre ++ [92]) c _ (by omega) _ hI2 (by have := hb2.size; omega) (by simp; omega)).mono ?_; rintro e W3 ⟨rfl, hI3, hb3⟩)
    go_wp2
    go_roundw
    case rel => exact ⟨k + 1, by omega, by go_num, by rw [hn]; rw [q1]; simpa using hI3, (hb.trans hb2).trans hb3⟩
    case measure => simp [intOf]; omega
   by_cases h2 : c.toNat = 92
   ·have i1 : (c.toNat : Int) = 92 := by omega
    have q1 : Sx.quote1 c = [92, c] := by simp [Sx.quote1, h2]
    go_wp2_with (go_at_call 69; refine (writeByte_z w.heap.size w.heap.size (pre) 92 _ (by decide) _ hI (by omega) (by simp; omega)).mono ?_; rintro e W2 ⟨rfl, hI2, hb2⟩)
    go_wp2_with (go_at_call 69; refine (writeByte_z w.heap.size w.heap.size (pre ++ [92]) c _ (by omega) _ hI2 (by have := hb2.size; omega) (by simp; omega)).mono ?_; rintro e W3 ⟨rfl, hI3, hb3⟩)
    go_wp2
    go_roundw
    case rel => exact ⟨k + 1, by omega, by go_num, by rw [hn]; rw [q1]; simpa using hI3, (hb.trans hb2).trans hb3⟩
    case measure => simp [intOf]; omega
   have n1 : ¬ (c.toNat : Int) = 34 := by omega
   have n2 : ¬ (c.toNat : Int) = 92 := by omega
   have b1 : ((c.toNat : Int) == 34) = false := by simpa using n1
   have b2 : ((c.toNat : Int) == 92) = false := by simpa using n2
   by_cases h3 : 32 ≤ c.toNat ∧ c.toNat ≤ 126
   ·have i1 : (32 : Int) ≤ (c.toNat : Int) := by omega
    have i2 : (c.toNat : Int) ≤ 126 := by omega
    have q1 : Sx.quote1 c = [c] := by simp [Sx.quote1, h1, h2, h3]
    go_wp2_with (go_at_call 69; refine (writeByte_z w.heap.size w.heap.size (pre) c _ (by first | rw [hcc] | omega) _ hI (by omega) (by simp; omega)).mono ?_; rintro e W2 ⟨rfl, hI2, hb2⟩)
    go_wp2
    go_roundw
    case rel => exact ⟨k + 1, by omega, by go_num, by rw [hn]; rw [q1]; exact hI2, hb.trans hb2⟩
    case measure => simp [intOf]; omega
   ·have q1 : Sx.quote1 c = [92, 120] ++ [Sx.hexd (c.toNat / 16)] ++ [Sx.hexd (c.toNat % 16)] := by
     have : (decide (32 ≤ c.toNat) && decide (c.toNat ≤ 126)) = false := by rw [← Bool.not_eq_true]; simpa using h3
     simp [Sx.quote1, h1, h2, this]
    by_cases h4 : 32 ≤ c.toNat
    ·have i1 : (32 : Int) ≤ (c.toNat : Int) := by omega
     have i2 : ¬ (c.toNat : Int) ≤ 126 := by omega
     go_wp2_with (go_at_call 70; refine (writeString_k w.heap.size w.heap.size pre [92, 120] _ hI hw (by simp; omega)).mono ?_; rintro e W2 ⟨rfl, hI2, hb2⟩)
     go_wp2_with (go_at_call 69; refine (writeByte_z w.heap.size w.heap.size (pre ++ [92, 120]) (Sx.hexd (c.toNat / 16)) _ (by rw [hexI _ (by omega)]) _ hI2 (by have := hb2.size; omega) (by simp; omega)).mono ?_; rintro e W3 ⟨rfl, hI3, hb3⟩)
     go_wp2_with (go_at_call 69; refine (writeByte_z w.heap.size w.heap.size (pre ++ [92, 120] ++ [Sx.hexd (c.toNat / 16)]) (Sx.hexd (c.toNat % 16)) _ (by rw [hexI _ (by omega)]) _ hI3 (by have := hb2.size; have := hb3.size; omega) (by simp; omega)).mono ?_; rintro e W4 ⟨rfl, hI4, hb4⟩)
     go_wp2
     go_roundw
     case rel => exact ⟨k + 1, by omega, by go_num, by rw [hn, q1]; simpa using hI4, ((hb.trans hb2).trans hb3).trans hb4⟩
     case measure => simp [intOf]; omega
    ·have i1 : ¬ (32 : Int) ≤ (c.toNat : Int) := by omega
     go_wp2_with (go_at_call 70; refine (writeString_k w.heap.size w.heap.size pre [92, 120] _ hI hw (by simp; omega)).mono ?_; rintro e W2 ⟨rfl, hI2, hb2⟩)
     go_wp2_with (go_at_call 69; refine (writeByte_z w.heap.size w.heap.size (pre ++ [92, 120]) (Sx.hexd (c.toNat / 16)) _ (by rw [hexI _ (by omega)]) _ hI2 (by have := hb2.size; omega) (by simp; omega)).mono ?_; rintro e W3 ⟨rfl, hI3, hb3⟩)
     go_wp2_with (go_at_call 69; refine (writeByte_z w.heap.size w.heap.size (pre ++ [92, 120] ++ [Sx.hexd (c.toNat / 16)]) (Sx.hexd (c.toNat % 16)) _ (by rw [hexI _ (by omega)]) _ hI3 (by have := hb2.size; have := hb3.size; omega) (by simp; omega)).mono ?_; rintro e W4 ⟨rfl, hI4, hb4⟩)
     go_wp2
     go_roundw
     case rel => exact ⟨k + 1, by omega, by go_num, by rw [hn, q1]; simpa using hI4, ((hb.trans hb2).trans hb3).trans hb4⟩
     case measure => simp [intOf]; omega
  ·have hall : s.take k = s := List.take_of_length_le (by omega)
   rw [hall] at hI
   have hl := quoteB_le s
   go_wp2_with (go_at_call 69; refine (writeByte_z w.heap.size w.heap.size _ 34 _ (by decide) _ hI hb.size (by simp; omega)).mono ?_; rintro e W2 ⟨rfl, hI2, hb2⟩)
   go_wp2_with (go_at_call 71; refine (bufString_k w.heap.size w.heap.size _ _ hI2).mono ?_; rintro e W3 ⟨rfl, n, rfl⟩)
   go_wp2
   go_ret
   exact ⟨by simp [Sx.quoteL], (hb.trans hb2).trans ⟨rfl, rfl, rfl, Nat.le_refl _, fun _ _ => rfl⟩⟩
theorem indexByte_n (s : List UInt8) (b : UInt8) (w : World) : Calls Tryd.prog 100 #[.string ⟨s.toArray⟩, .int .u8 b.toNat] w fun e w' => e = .returned (.int .i64 (Lib.indexByte s b)) ∧ w' = w := by
 have := Any.strings_IndexByte Tryd.indexByteL ⟨s.toArray⟩ b.toNat w
 refine this.mono ?_
 rintro e w' ⟨rfl, rfl⟩
 refine ⟨?_, rfl⟩
 rw [show ((b.toNat : Int).toNat).toUInt8 = b by simp]
/-- what Unquote returns -/
def uqR (o : Option (List UInt8)) : Value := match o with
 | none => .tuple #[.string ⟨#[]⟩, .int .i64 5]
 | some t => .tuple #[.string ⟨t.toArray⟩, .int .i64 0]
theorem indexHex (b : UInt8) : Lib.indexByte [48, 49, 50, 51, 52, 53, 54, 55, 56, 57, 97, 98, 99, 100, 101, 102] b = match Sx.nibI b.toNat with | none => (-1 : Int) | some n => (n : Int) := by
 have h : ∀ n < 256, Lib.indexByte [48, 49, 50, 51, 52, 53, 54, 55, 56, 57, 97, 98, 99, 100, 101, 102] (UInt8.ofNat n) = match Sx.nibI n with | none => (-1 : Int) | some n => (n : Int) := by decide +kernel
 have := h b.toNat (UInt8.toNat_lt b)
 rwa [UInt8.ofNat_toNat] at this
theorem bodyCut (s : List UInt8) (h2 : ¬ s.length < 2) : (ByteArray.mk s.toArray).extract 1 (s.length - 1) = ⟨((s.take (s.length - 1)).drop 1).toArray⟩ := by
 rw [Sx.extract_mk]
theorem decP_plain {c : UInt8} {r : List UInt8} (h : ¬ c.toNat = 92) : Sx.decP (c :: r) = (Sx.decP r).map (c :: ·) := by
 cases r with
 | nil => rw [Sx.decP, Sx.decP]; simp [h]
 | cons z r => rw [Sx.decP]; simp [h]
theorem decP_esc {c : UInt8} {r : List UInt8} (h : c.toNat = 92) : Sx.decP (c :: r) = match r with
  | [] => none
  | d :: m => bif decide (d.toNat = 120) then
    match Sx.escP m with
    | some x => (Sx.decP (m.drop 2)).map (x :: ·)
    | none => none
   else (Sx.decP m).map (d :: ·) := by
 cases r with
 | nil => rw [Sx.decP]; simp [h]
 | cons z r => rw [Sx.decP]; simp only [h, decide_true, cond_true] <;> rfl
theorem byteAt_eq (l : List UInt8) (k : Nat) (h : k < l.length) : (ByteArray.mk l.toArray)[k]'h = l[k] := by simp [ByteArray.getElem_eq_getElem_data]
def finV (s : List UInt8) (o : Option (List UInt8)) : Option (List UInt8) := match o with
 | none => none
 | some t => bif decide (Sx.quoteL t = s) then some t else none
theorem wrapId (z : Int) (h0 : 0 ≤ z) (h1 : z < 9223372036854775808) : IntKind.i64.wrap z = z := by
 simp only [IntKind.wrap, IntKind.signed, IntKind.bits]
 simp
 split <;> omega
def hexVal (b : UInt8) : Int := match Sx.nibI b.toNat with | none => (-1 : Int) | some n => (n : Int)
theorem indexHex_n (b : UInt8) (w : World) : Calls Tryd.prog 100 #[.string ⟨#[48, 49, 50, 51, 52, 53, 54, 55, 56, 57, 97, 98, 99, 100, 101, 102]⟩, .int .u8 b.toNat] w fun e w' => e = .returned (.int .i64 (hexVal b)) ∧ w' = w := by
 have := indexByte_n [48, 49, 50, 51, 52, 53, 54, 55, 56, 57, 97, 98, 99, 100, 101, 102] b w
 rw [indexHex] at this
 exact this
theorem nibI_lt {n a : Nat} (h : Sx.nibI n = some a) : a < 16 := by
 unfold Sx.nibI at h
 split at h
 ·cases h; omega
 ·split at h
  ·cases h; omega
  ·cases h
theorem hexOr (n m : Nat) (hn : n < 16) (hm : m < 16) : ((UInt8.ofNat (16 * n + m)).toNat : Int) = bits BinOp.or IntKind.i64 ((n : Int) * 16) (m : Int) % 256 := by
 have : ∀ n < 16, ∀ m < 16, ((UInt8.ofNat (16 * n + m)).toNat : Int) = bits BinOp.or IntKind.i64 ((n : Int) * 16) (m : Int) % 256 := by decide +kernel
 exact this n hn m hm
theorem cutS (s : List UInt8) (h2 : ¬ s.length < 2) : ∃ a z body, body.length + 2 = s.length ∧ (∀ h, (ByteArray.mk s.toArray)[0]'h = a) ∧ (∀ h, (ByteArray.mk s.toArray)[s.length - 1]'h = z) ∧
  (ByteArray.mk s.toArray).extract 1 (s.length - 1) = ⟨body.toArray⟩ ∧
  Sx.unqP s = bif (!decide (a.toNat = 34) || !decide (z.toNat = 34)) then none else finV s (Sx.decP body) := by
 obtain ⟨a, r, rfl⟩ : ∃ a r, s = a :: r := by cases s with | nil => simp at h2 | cons a r => exact ⟨a, r, rfl⟩
 obtain ⟨body, z, rfl⟩ : ∃ b z, r = b ++ [z] := ⟨r.dropLast, r.getLast (by rintro rfl; simp at h2), (List.dropLast_concat_getLast _).symm⟩
 refine ⟨a, z, body, by simp, fun h => by simp [ByteArray.getElem_eq_getElem_data], fun h => by simp [ByteArray.getElem_eq_getElem_data], by rw [bodyCut _ h2]; simp, ?_⟩
 unfold Sx.unqP
 have e1 : ∀ c : UInt8, decide (some c = some 34) = decide (c.toNat = 34) := fun c => by rw [Bool.eq_iff_iff]; simp [← UInt8.toNat_inj]
 have e2 : (a :: (body ++ [z])).getLast? = some z := by rw [← List.cons_append, List.getLast?_append]; rfl
 have e3 : ((a :: (body ++ [z])).take ((a :: (body ++ [z])).length - 1)).drop 1 = body := by simp
 rw [decide_eq_false h2, Bool.false_or, List.head?_cons, e2, e1, e1, e3]
 rfl
theorem unquote_n (s : List UInt8) (hs : s.length ≤ 1000000000) (w : World) :
  Calls Tryd.prog 84 #[.string ⟨s.toArray⟩] w fun e w' => e = .returned (uqR (Sx.unqP s)) ∧ Below w.heap.size w w' := by
 by_cases h2 : s.length < 2
 ·have hr : Sx.unqP s = none := by unfold Sx.unqP; simp [h2]
  rw [hr]
  have i2 : (s.length : Int) < 2 := by omega
  go_enter Tryd.func84, Tryd.ntmps84
  go_wp2
  go_ret2
  exact ⟨rfl, Below.refl _ _⟩
 have i2 : ¬ (s.length : Int) < 2 := by omega
 obtain ⟨a, z, body, hbl, ea, ez, hcut, hU⟩ := cutS s h2
 by_cases ha : a.toNat = 34
 case neg =>
  rw [hU, show decide (a.toNat = 34) = false by simpa using ha]
  have n1 : ¬ (a.toNat : Int) = 34 := by omega
  have b1 : ((a.toNat : Int) != 34) = true := by simpa using n1
  go_enter Tryd.func84, Tryd.ntmps84
  go_wp2
  go_ret2
  exact ⟨rfl, Below.refl _ _⟩
 by_cases hz : z.toNat = 34
 case neg =>
  rw [hU, show decide (z.toNat = 34) = false by simpa using hz, Bool.not_false, Bool.or_true]
  have n1 : (a.toNat : Int) = 34 := by omega
  have n2 : ¬ (z.toNat : Int) = 34 := by omega
  have b2 : ((z.toNat : Int) != 34) = true := by simpa using n2
  go_enter Tryd.func84, Tryd.ntmps84
  go_wp2
  go_ret2
  exact ⟨rfl, Below.refl _ _⟩
 rw [hU, decide_eq_true ha, decide_eq_true hz]
 simp only [Bool.not_true, Bool.or_false, cond_false]
 have n1 : (a.toNat : Int) = 34 := by omega
 have n2 : (z.toNat : Int) = 34 := by omega
 have hsl : ∀ W, (Instr.slice 9 (.string ⟨s.toArray⟩) (some (.int .i64 1)) (some (.int .i64 ((s.length : Int) - 1))) none).run Tryd.prog W = .ok (.string ⟨body.toArray⟩) W := fun W => by
  have h0 := run_slice_string (P := Tryd.prog) W 9 ⟨s.toArray⟩ .i64 .i64 1 ((s.length : Int) - 1) Tryd.underlying9 (by omega) (by omega) (by show _ ≤ ((s.toArray.size : Nat) : Int); simp; omega)
  rw [h0, show ((s.length : Int) - 1).toNat = s.length - 1 by omega]
  rw [show (1 : Int).toNat = 1 from rfl, hcut]
 have hI0 : Lib.IsBuffer 104 5 w.heap.size w.heap.size (Lib.byteCells []) (w.alloc (.cells #[.slice none 0 0, .int .i64 0, .int .i8 0] 104)) := Lib.fresh_isBuffer 104 5 w
 have hb0 : Below w.heap.size w (w.alloc (.cells #[.slice none 0 0, .int .i64 0, .int .i8 0] 104)) := (Below.refl _ w).alloc (Nat.le_refl _) _
 clear hU
 go_enter Tryd.func84, Tryd.ntmps84
 go_wp2
 go_loopw [6] (fun i wr => ∃ (k : Nat) (pre : List UInt8), k ≤ body.length ∧ i = .int .i64 k ∧ pre.length ≤ k ∧ Sx.decP body = (Sx.decP (body.drop k)).map (pre ++ ·) ∧ Lib.IsBuffer 104 5 w.heap.size w.heap.size (Lib.byteCells pre) wr ∧ Below w.heap.size w wr) (fun i _ => body.length - (intOf i).toNat)
 case atStart => exact ⟨0, [], Nat.zero_le _, rfl, Nat.le_refl _, by rw [List.drop_zero]; simp, hI0, hb0⟩
 case round =>
  obtain ⟨k, pre, hk, rfl, hpk, hdec, hI, hb⟩ := hrel
  clear hI0 hb0 hsl hcut ea ez n1 n2 ha hz
  have hw := hb.size
  by_cases hlt : k < body.length
  ·have hcc : (ByteArray.mk body.toArray)[k]'hlt = body[k] := by simp [ByteArray.getElem_eq_getElem_data]
   have hdr := List.drop_eq_getElem_cons hlt
   generalize body[k] = c at hcc hdr
   by_cases h92 : c.toNat = 92
   ·have n1 : (c.toNat : Int) = 92 := by omega
    have b1 : ((c.toNat : Int) != 92) = false := by simpa using n1
    by_cases hl1 : k + 1 < body.length
    case neg =>
     have hN : Sx.decP body = none := by rw [hdec, hdr, List.drop_eq_nil_of_le (by omega), decP_esc h92]; rfl
     have n3 : ¬ (k : Int) + 1 < body.length := by omega
     clear hdec
     go_wp2
     go_ret2
     exact ⟨by first | rfl | (rw [hN]; rfl), hb⟩
    have n3 : (k : Int) + 1 < body.length := by omega
    have hd1 := byteAt_eq body (k + 1) hl1
    have hdr1 := List.drop_eq_getElem_cons hl1
    generalize body[k + 1] = d at hd1 hdr1
    by_cases h120 : d.toNat = 120
    ·have n4 : (d.toNat : Int) = 120 := by omega
     by_cases hl3 : k + 3 < body.length
     case neg =>
      have hN : Sx.decP body = none := by
       rw [hdec, hdr, hdr1, decP_esc h92]
       have : Sx.escP (body.drop (k + 1 + 1)) = none := by
        have : (body.drop (k + 1 + 1)).length < 2 := by rw [List.length_drop]; omega
        revert this
        generalize body.drop (k + 1 + 1) = m
        intro this
        match m, this with
        | [], _ => rfl
        | [_], _ => rfl
       simp only [h120, decide_true, cond_true, this]; rfl
      have n5 : (body.length : Int) ≤ (k : Int) + 1 + 2 := by omega
      clear hdec
      go_wp2
      go_ret2
      exact ⟨by first | rfl | (rw [hN]; rfl), hb⟩
     have n5 : ¬ (body.length : Int) ≤ (k : Int) + 1 + 2 := by omega
     have hd2 := byteAt_eq body (k + 2) (by omega)
     have hdr2 := List.drop_eq_getElem_cons (show k + 2 < body.length by omega)
     have hd3 := byteAt_eq body (k + 3) hl3
     have hdr3 := List.drop_eq_getElem_cons hl3
     generalize body[k + 2] = x at hd2 hdr2
     generalize body[k + 3] = y at hd3 hdr3
     have w1 : IntKind.i64.wrap ((k : Int) + 1 + 1) = (k : Int) + 1 + 1 := wrapId _ (by omega) (by omega)
     have w2 : IntKind.i64.wrap ((k : Int) + 1 + 2) = (k : Int) + 1 + 2 := wrapId _ (by omega) (by omega)
     have m7 : (0 : Int) ≤ (k : Int) + 1 + 1 ∧ (k : Int) + 1 + 1 < body.length := ⟨by omega, by omega⟩
     have m8 : (0 : Int) ≤ (k : Int) + 1 + 2 ∧ (k : Int) + 1 + 2 < body.length := ⟨by omega, by omega⟩
     have t1 : ((k : Int) + 1 + 1).toNat = k + 2 := by omega
     have t2 : ((k : Int) + 1 + 2).toNat = k + 3 := by omega
     have hesc : Sx.escP (body.drop (k + 1 + 1)) = Sx.hexB x y := by rw [hdr2, hdr3]; rfl
     have hd4 : (body.drop (k + 1 + 1)).drop 2 = body.drop (k + 4) := by rw [List.drop_drop]
     have hdec4 : Sx.decP body = match Sx.hexB x y with
       | some v => (Sx.decP (body.drop (k + 4))).map fun l => pre ++ v :: l
       | none => none := by
      rw [hdec, hdr, hdr1, decP_esc h92]
      simp only [h120, decide_true, cond_true, hesc, hd4]
      cases Sx.hexB x y with
      | none => rfl
      | some v => simp [Option.map_map, Function.comp_def]
     clear hesc hd4 hdr hdr1 hdr2 hdr3 hdec
     cases hx : Sx.nibI x.toNat with
     | none =>
      have hN : Sx.decP body = none := by rw [hdec4]; simp only [Sx.hexB, hx]
      have v1 : hexVal x = -1 := by unfold hexVal; rw [hx]
      clear hdec4
      go_wp2
      go_region_with (first | (go_at_call_of 100 x; refine (indexHex_n x _).mono ?_; rintro e w' ⟨rfl, rfl⟩) | (go_at_call_of 100 y; refine (indexHex_n y _).mono ?_; rintro e w' ⟨rfl, rfl⟩))
      all_goals go_wp2
      all_goals go_ret2
      all_goals exact ⟨by first | rfl | (rw [hN]; rfl), hb.drew⟩
     | some n =>
      have v1 : hexVal x = (n : Int) := by unfold hexVal; rw [hx]
      have hn := nibI_lt hx
      cases hy : Sx.nibI y.toNat with
      | none =>
       have hN : Sx.decP body = none := by rw [hdec4]; simp only [Sx.hexB, hx, hy]
       have v2 : hexVal y = -1 := by unfold hexVal; rw [hy]
       clear hdec4
       go_wp2
       go_region_with (first | (go_at_call_of 100 x; refine (indexHex_n x _).mono ?_; rintro e w' ⟨rfl, rfl⟩) | (go_at_call_of 100 y; refine (indexHex_n y _).mono ?_; rintro e w' ⟨rfl, rfl⟩))
       all_goals go_wp2
       all_goals go_ret2
       all_goals exact ⟨by first | rfl | (rw [hN]; rfl), hb.drew⟩
      | some m =>
       have v2 : hexVal y = (m : Int) := by unfold hexVal; rw [hy]
       have hm := nibI_lt hy
       have hN : Sx.decP body = (Sx.decP (body.drop (k + 4))).map fun l => pre ++ UInt8.ofNat (16 * n + m) :: l := by rw [hdec4]; simp only [Sx.hexB, hx, hy]
       clear hdec4
       go_wp2
       go_region_with (first | (go_at_call_of 100 x; refine (indexHex_n x _).mono ?_; rintro e w' ⟨rfl, rfl⟩) | (go_at_call_of 100 y; refine (indexHex_n y _).mono ?_; rintro e w' ⟨rfl, rfl⟩))
       all_goals (go_wp2_with (go_at_call 69; refine (writeByte_z w.heap.size w.heap.size pre (UInt8.ofNat (16 * n + m)) _ (hexOr n m hn hm) _ hI.drew hw (by omega)).mono ?_; rintro e W2 ⟨rfl, hI2, hb2⟩))
       all_goals go_wp2
       all_goals go_roundw
       all_goals first | exact ⟨k + 4, pre ++ [UInt8.ofNat (16 * n + m)], by omega, by go_num, by simp; omega, by rw [hN]; simp, hI2, hb.drew.trans hb2⟩ | (simp [intOf]; omega)
    ·have n4 : ¬ (d.toNat : Int) = 120 := by omega
     go_wp2_with (go_at_call 69; refine (writeByte_z w.heap.size w.heap.size pre d _ (by first | rw [hd1] | omega) _ hI hw (by omega)).mono ?_; rintro e W2 ⟨rfl, hI2, hb2⟩)
     go_wp2
     go_roundw
     case rel => exact ⟨k + 2, pre ++ [d], by omega, by go_num, by simp; omega, by rw [hdec, hdr, hdr1, decP_esc h92]; simp only [decide_eq_false h120, cond_false, Option.map_map]; congr 1; funext x; simp, hI2, hb.trans hb2⟩
     case measure => simp [intOf]; omega
   ·have n1 : ¬ (c.toNat : Int) = 92 := by omega
    have b1 : ((c.toNat : Int) != 92) = true := by simpa using n1
    go_wp2_with (go_at_call 69; refine (writeByte_z w.heap.size w.heap.size pre c _ (by first | rw [hcc] | omega) _ hI hw (by omega)).mono ?_; rintro e W2 ⟨rfl, hI2, hb2⟩)
    go_wp2
    go_roundw
    case rel => exact ⟨k + 1, pre ++ [c], by omega, by go_num, by simp; omega, by rw [hdec, hdr, decP_plain h92, Option.map_map]; congr 1; funext x; simp, hI2, hb.trans hb2⟩
    case measure => simp [intOf]; omega
  ·have hall : Sx.decP body = some pre := by
    rw [hdec, List.drop_eq_nil_of_le (by omega)]
    simp [Sx.decP]
   clear hdec
   have hB3 : ∀ (n : Nat) (W3 : World), Below (wr.drewN n).heap.size (wr.drewN n) W3 → Below w.heap.size w W3 := fun n W3 hb3 =>
    ⟨hb3.os.trans hb.os, hb3.tape.trans hb.tape, hb3.output.trans hb.output, Nat.le_trans hb.size hb3.size, fun k hk => (hb3.block k (Nat.lt_of_lt_of_le hk hb.size)).trans (hb.block k hk)⟩
   by_cases hq : Sx.quoteL pre = s
   ·have hN : finV s (Sx.decP body) = some pre := by rw [hall]; unfold finV; simp only [hq, decide_true, cond_true]
    have bq : (Sx.quoteL pre == s) = true := by simpa using hq
    clear hall
    go_wp2_with (go_at_call 71; refine (bufString_k w.heap.size w.heap.size _ _ hI).mono ?_; rintro e W2 ⟨rfl, n, rfl⟩)
    go_wp2_with (go_at_call 39; refine (quote_n pre (by omega) _).mono ?_; rintro e W3 ⟨rfl, hb3⟩)
    go_wp2_with (go_at_call 71; refine (bufString_k w.heap.size w.heap.size _ _ ((hI.drewN n).old hb3)).mono ?_; rintro e W4 ⟨rfl, n2, rfl⟩)
    go_wp2
    go_ret2
    exact ⟨by rw [hN]; rfl, (hB3 n W3 hb3).trans ⟨rfl, rfl, rfl, Nat.le_refl _, fun _ _ => rfl⟩⟩
   ·have hN : finV s (Sx.decP body) = none := by rw [hall]; unfold finV; simp only [decide_eq_false hq, cond_false]
    have bq : (Sx.quoteL pre == s) = false := by simpa using hq
    clear hall
    go_wp2_with (go_at_call 71; refine (bufString_k w.heap.size w.heap.size _ _ hI).mono ?_; rintro e W2 ⟨rfl, n, rfl⟩)
    go_wp2_with (go_at_call 39; refine (quote_n pre (by omega) _).mono ?_; rintro e W3 ⟨rfl, hb3⟩)
    go_wp2
    go_ret2
    exact ⟨by rw [hN]; rfl, hB3 n W3 hb3⟩
theorem unquote_c (s : List UInt8) (hs : s.length ≤ 1000000000) : Sx.PC Tryd.prog 84 [Sx.S s] (.tup [Sx.S ((Sx.unqV s).getD []), Sx.I .i64 (bif (Sx.unqV s).isSome then 0 else 5)]) := by
 refine Sx.PC.native ⟨_, Tryd.func84, by decide, rfl⟩ fun M ν w vs hf hv => ?_
 obtain ⟨x, rfl, h1⟩ := Sx.reps1 hv
 rw [Sx.rep_S] at h1
 subst h1
 refine Calls.mono (unquote_n s hs w) ?_
 rintro e w' ⟨rfl, hb⟩
 refine ⟨_, rfl, ?_, hb⟩
 rw [← Sx.unqP_eq]
 cases Sx.unqP s with
 | none =>
  simp only [uqR, Sx.T.rep, Sx.T.reps, Sx.Cell.rep, Sx.C.rep, Option.getD_none, Option.isSome_none, cond_false]
  exact ⟨_, rfl, _, _, rfl, rfl, _, _, rfl, rfl, rfl⟩
 | some t =>
  simp only [uqR, Sx.T.rep, Sx.T.reps, Sx.Cell.rep, Sx.C.rep, Option.getD_some, Option.isSome_some, cond_true]
  exact ⟨_, rfl, _, _, rfl, rfl, _, _, rfl, rfl, rfl⟩
end Go.Proofs.YtogponhonjiidaaDoor

