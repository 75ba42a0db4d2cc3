/- Lemmas of the proof. -/
import Derived.Test.YthbcdhfiibpeaaaGreatTy48
import Derived.Test.YthbcdhfiibpeaaaGreatTw1
open List renaming length_map → lB, length_nil → lD, map_nil → lF
open Nat renaming reduceBEq → zA, reduceBNe → zB, reduceAdd → zC, reduceSub → zD, reduceMul → zE, reduceLeDiff → zF, reduceLT → zG, reduceEqDiff → zH
open Int renaming reduceToNat → zI, reduceLE → zJ, reduceLT → zK, reduceEq → zL
open Bool renaming not_eq_true' → zM, not_eq_false' → zN
set_option linter.unusedSimpArgs false
set_option linter.unusedVariables false
set_option maxRecDepth 20000
set_option maxHeartbeats 64000000
namespace Go.Proofs.YthbcdhfiibpeaaaGreat
open Go Go.Sx
theorem rowsN_set (l : List NodeD) (i : Nat) (k lo hi : Int) (t : List UInt8) (ks : List Int) (fs : List FieldD) (a b : Int) :
  (l.map encNode).set i [C.int .i64 k, C.int .i64 lo, C.int .i64 hi, C.str t, C.sl 1 (ks.map encInt), C.sl 4 (fs.map encField), C.int .i64 a, C.int .i64 b] = (l.set i ⟨k, lo, hi, t, ks, fs, a, b⟩).map encNode := by rw [List.map_set]; rfl
theorem mod_len (a n : Int) (hn : 1 ≤ n ∧ n ≤ 1000) : ∃ k : Nat, IntKind.i64.wrap ((IntKind.u64.wrap a).tmod (IntKind.u64.wrap n)) = (k : Int) ∧ (k : Int) < n ∧ IntKind.u64.wrap n ≠ 0 := by
 have hw : IntKind.u64.wrap n = n := by
  simp only [IntKind.wrap, IntKind.signed, IntKind.bits]
  simp
  omega
 have h0 : 0 ≤ IntKind.u64.wrap a := by
  simp only [IntKind.wrap, IntKind.signed, IntKind.bits]
  simp
  omega
 have h1 : 0 ≤ (IntKind.u64.wrap a).tmod n := Int.tmod_nonneg _ h0
 have h2 : (IntKind.u64.wrap a).tmod n < n := Int.tmod_lt_of_pos _ (by omega)
 rw [hw]
 refine ⟨((IntKind.u64.wrap a).tmod n).toNat, ?_, by omega, by omega⟩
 rw [w64 (by omega)]; omega
theorem wellFormed_law (l : List NodeD) (r : Int) (hl : BdT l) (m : List Int) (hm : ∀ x ∈ m, -9223372036854775808 ≤ x ∧ x ≤ 9223372036854775807) (a to kind : Int) :
  PC Tryz.prog 6 [Tt l r, .one (.dat (.sl 1 (m.map encInt))), I .i64 a, I .i64 to, I .i64 kind] (Bo true) := by
 have hS := small_c l r hl
 cases hs : smallB l
 ·
  refine PCB.ob Tryz.func6 Tryz.ntmps6 Tryz.results6 ?_
  repeat' (first | (simp only [go_sem, zA, zB, zC, zD, zE, zF, zG, reduceCtorEq, zH, zI, zJ, zK, zL, lB, hs]; all_goals refine nf ?_) | (refine stp ?_; intro K hK) | (apply hK; clear hK K) | refine stn ?_ | (with_reducible first | refine ⟨_, hS, ?_⟩ | refine ⟨_, awake7_c, ?_⟩) | refine stq ?_ | (clear hK K))
  all_goals (first | exact fun _ h => absurd h List.not_mem_nil | (refine fin0 ?_; rfl))
 cases hml : decide ((80 : Int) < (m.length : Int))
 case true =>
  refine PCB.ob Tryz.func6 Tryz.ntmps6 Tryz.results6 ?_
  repeat' (first | (simp only [go_sem, zA, zB, zC, zD, zE, zF, zG, reduceCtorEq, zH, zI, zJ, zK, zL, lB, hs, hml]; all_goals refine nf ?_) | (refine stp ?_; intro K hK) | (apply hK; clear hK K) | refine stn ?_ | (with_reducible first | refine ⟨_, hS, ?_⟩ | refine ⟨_, awake7_c, ?_⟩) | refine stq ?_ | (clear hK K))
  all_goals (first | exact fun _ h => absurd h List.not_mem_nil | (refine fin0 ?_; rfl))
 rw [decide_eq_false_iff_not] at hml
 have hml2 : decide ((80 : Int) < (m.length : Int)) = false := by rw [decide_eq_false_iff_not]; omega
 have hsm := (smallB_sm hs).1
 have hsrc : (srcL m).ok := ⟨hm, by simp only [srcL]; omega⟩
 have hsrc0 : (srcL []).ok := ⟨fun x hx => (by cases hx), by simp [srcL]⟩
 have hD := drawn_c m [] hsrc hsrc0
 obtain ⟨v, hv⟩ : ∃ v, v = drawnV m [] := ⟨_, rfl⟩
 rw [← hv, Vt, encVal_eq, lF] at hD
 have hle := drawn_le m
 have hJ0 := judged_c l r hsm
 have hJ1 := judged_c (drawnT m) 0 (drawn_sm m)
 have hW := wellFormed_c (drawnT m) 0 (drawn_sm m)
 rw [drawn_wf] at hW
 have hg := drawn_good m
 obtain ⟨L, hL⟩ : ∃ L, L = drawnT m := ⟨_, rfl⟩
 have hLs := drawn_sm m
 rw [← hL] at hD hle hJ1 hW hg hLs
 obtain ⟨k, hk, hkl, hkn⟩ := mod_len a (L.length : Int) (by omega)
 obtain ⟨q, hq, hql, _⟩ := mod_len to (L.length : Int) (by omega)
 have hkL : k < L.length := by omega
 obtain ⟨x, hx⟩ : ∃ x, L[k]? = some x := ⟨L[k], List.getElem?_eq_getElem hkL⟩
 have hx' := get_map encNode hx
 have hG := hg k x hx
 have hkid := hG.kid
 have hfld := hG.fld
 have hJ : ∀ (kd : Int) (ks : List Int), ks.length = x.kids.length → PC Tryz.prog 23 [.st [.sl 8 ((L.set k ⟨kd, x.lo, x.hi, x.text, ks, x.fields, x.r0, x.r1⟩).map encNode), .int .i64 0]] (Bo true) := fun kd ks hks => judged_c _ 0 ⟨by rw [List.length_set]; omega, fun y hy => by
   rcases List.mem_or_eq_of_mem_set hy with hy | rfl
   ·exact hLs.kids y hy
   ·show ks.length ≤ 1000000; omega, fun y hy => by
   rcases List.mem_or_eq_of_mem_set hy with hy | rfl
   ·exact hLs.fields y hy
   ·show x.fields.length ≤ 1000000; omega⟩
 cases hke : x.kids with
 | nil =>
  have hJn : ∀ kd : Int, PC Tryz.prog 23 [.st [.sl 8 ((L.map encNode).set k [C.int .i64 kd, C.int .i64 x.lo, C.int .i64 x.hi, C.str x.text, C.sl 1 [], C.sl 4 (x.fields.map encField), C.int .i64 x.r0, C.int .i64 x.r1]), .int .i64 0]] (Bo true) := fun kd => by
   have h1 := hJ kd [] (by rw [hke])
   rw [← rowsN_set, lF] at h1
   exact h1
  refine PCB.ob Tryz.func6 Tryz.ntmps6 Tryz.results6 ?_
  repeat' (first | (refine atR 14 (Gh.freeze 51 (by rfl) (by rfl) (by simp only [go_sem, zA, zB, zC, zD, zE, zF, zG, reduceCtorEq, zH, zI, zJ, zK, zL, lB, hs, hml2, hk, hke, encNode_lit, lF, lD, lB, hke, lD]) (by simp only [go_sem, zA, zB, zC, zD, zE, zF, zG, reduceCtorEq, zH, zI, zJ, zK, zL, lB, hs, hml2, hk, hke, encNode_lit, lF, lD, lB, hke, lD])) ?_; simp only [frE, frB, Bx.drop, go_sem, zA, zB, zC, zD, zE, zF, zG, reduceCtorEq, zH, zI, zJ, zK, zL, lB, hs, hml2, hk, hke, encNode_lit, lF, lD]) | (refine atR 15 (Gh.freeze 32 (by rfl) (by rfl) (by simp only [go_sem, zA, zB, zC, zD, zE, zF, zG, reduceCtorEq, zH, zI, zJ, zK, zL, lB, hs, hml2, hk, hke, encNode_lit, lF, lD, lB, List.length_set]) (by simp only [go_sem, zA, zB, zC, zD, zE, zF, zG, reduceCtorEq, zH, zI, zJ, zK, zL, lB, hs, hml2, hk, hke, encNode_lit, lF, lD, lB, List.length_set])) ?_; simp only [frE, frB, Bx.drop, go_sem, zA, zB, zC, zD, zE, zF, zG, reduceCtorEq, zH, zI, zJ, zK, zL, lB, hs, hml2, hk, hke, encNode_lit, lF, lD]) | (simp only [go_sem, zA, zB, zC, zD, zE, zF, zG, reduceCtorEq, zH, zI, zJ, zK, zL, lB, hs, hml2, hk, hke, encNode_lit, lF, lD]; all_goals refine nf ?_) | (refine stp ?_; intro K hK) | (apply hK; clear hK K) | refine stn ?_ | (refine AWP.cnd ?_ ?_ <;> intro h <;> (try simp only [zM, zN] at h)) | (with_reducible first | refine ⟨hkn, ?_⟩ | refine ⟨encNode x, hx', ?_⟩ | refine ⟨_, hS, ?_⟩ | refine ⟨_, hD, ?_⟩ | refine ⟨_, hW, ?_⟩ | refine ⟨_, hJ0, ?_⟩ | refine ⟨_, hJ1, ?_⟩ | refine ⟨_, hJn _, ?_⟩ | refine ⟨_, awake7_c, ?_⟩ | refine ⟨(by omega : _ ≤ _), (by omega : _ ≤ _), (by omega : _ < _), ?_⟩ | (refine ⟨(by first | omega | (simp only [List.length_append, lB, List.length_take, List.length_drop, List.length_cons, lD, List.length_replicate]; omega) : _ ≤ _), ?_⟩)) | (with_reducible refine AWP.genMS (id := 4) [2,6] 7 mixed (by kernel_rfl) fun K hK => ?_; simp only [List.take_succ_cons, List.take_zero, List.drop_succ_cons, List.drop_zero]) | refine stq ?_ | fail)
  all_goals (first | exact fun _ h => absurd h List.not_mem_nil | (refine fin0 ?_; rfl))
 | cons y ys =>
  have hkc : 0 < x.kids.length := by rw [hke]; simp
  have hpos : decide ((0 : Int) < (x.kids.length : Int)) = true := by rw [decide_eq_true_eq]; omega
  have hy0 : (x.kids.map encInt)[0]? = some (encInt y) := by rw [hke]; rfl
  have hy1 : ((x.kids.set 0 to).map encInt)[0]? = some (encInt to) := by rw [hke]; rfl
  clear hke
  refine PCB.ob Tryz.func6 Tryz.ntmps6 Tryz.results6 ?_
  repeat' (first | (refine atR 14 (Gh.freeze 51 (by rfl) (by rfl) (by simp only [go_sem, zA, zB, zC, zD, zE, zF, zG, reduceCtorEq, zH, zI, zJ, zK, zL, lB, List.length_set, hs, hml2, hk, hq, hpos, encNode_lit, encInt, rows_set, rowsN_set, lB, List.length_set]) (by simp only [go_sem, zA, zB, zC, zD, zE, zF, zG, reduceCtorEq, zH, zI, zJ, zK, zL, lB, List.length_set, hs, hml2, hk, hq, hpos, encNode_lit, encInt, rows_set, rowsN_set, lB, List.length_set])) ?_; simp only [frE, frB, Bx.drop, go_sem, zA, zB, zC, zD, zE, zF, zG, reduceCtorEq, zH, zI, zJ, zK, zL, lB, List.length_set, hs, hml2, hk, hq, hpos, encNode_lit, encInt, rows_set, rowsN_set]) | (refine atR 15 (Gh.freeze 32 (by rfl) (by rfl) (by simp only [go_sem, zA, zB, zC, zD, zE, zF, zG, reduceCtorEq, zH, zI, zJ, zK, zL, lB, List.length_set, hs, hml2, hk, hq, hpos, encNode_lit, encInt, rows_set, rowsN_set, lB, List.length_set]) (by simp only [go_sem, zA, zB, zC, zD, zE, zF, zG, reduceCtorEq, zH, zI, zJ, zK, zL, lB, List.length_set, hs, hml2, hk, hq, hpos, encNode_lit, encInt, rows_set, rowsN_set, lB, List.length_set])) ?_; simp only [frE, frB, Bx.drop, go_sem, zA, zB, zC, zD, zE, zF, zG, reduceCtorEq, zH, zI, zJ, zK, zL, lB, List.length_set, hs, hml2, hk, hq, hpos, encNode_lit, encInt, rows_set, rowsN_set]) | (simp only [go_sem, zA, zB, zC, zD, zE, zF, zG, reduceCtorEq, zH, zI, zJ, zK, zL, lB, List.length_set, hs, hml2, hk, hq, hpos, encNode_lit, encInt, rows_set, rowsN_set]; all_goals refine nf ?_) | (refine stp ?_; intro K hK) | (apply hK; clear hK K) | refine stn ?_ | (refine AWP.cnd ?_ ?_ <;> intro h <;> (try simp only [zM, zN] at h)) | (with_reducible first | refine ⟨encInt y, hy0, ?_⟩ | refine ⟨encInt to, hy1, ?_⟩ | refine ⟨hkn, ?_⟩ | refine ⟨encNode x, hx', ?_⟩ | refine ⟨_, hS, ?_⟩ | refine ⟨_, hD, ?_⟩ | refine ⟨_, hW, ?_⟩ | refine ⟨_, hJ0, ?_⟩ | refine ⟨_, hJ1, ?_⟩ | refine ⟨_, hJ _ _ (by simp only [List.length_set]), ?_⟩ | refine ⟨_, awake7_c, ?_⟩ | refine ⟨(by omega : _ ≤ _), (by omega : _ ≤ _), (by omega : _ < _), ?_⟩ | refine ⟨(by omega : _ ≤ _), (by omega : _ < _), ?_⟩ | (refine ⟨(by first | omega | (simp only [List.length_append, lB, List.length_take, List.length_drop, List.length_cons, lD, List.length_replicate]; omega) : _ ≤ _), ?_⟩)) | (with_reducible refine AWP.genMS (id := 4) [2,6] 7 mixed (by kernel_rfl) fun K hK => ?_; simp only [List.take_succ_cons, List.take_zero, List.drop_succ_cons, List.drop_zero]) | (with_reducible refine AWP.segP (id := 11) 11 mixed (by kernel_rfl) fun K hK => ?_; simp only [List.take_succ_cons, List.take_zero, List.drop_succ_cons, List.drop_zero]) | refine stq ?_ | fail)
  all_goals (first | exact fun _ h => absurd h List.not_mem_nil | (refine fin0 ?_; rfl) | skip)
end Go.Proofs.YthbcdhfiibpeaaaGreat

