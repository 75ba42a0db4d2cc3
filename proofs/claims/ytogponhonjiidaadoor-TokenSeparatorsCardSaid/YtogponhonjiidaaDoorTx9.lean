/- A part of the proof: lemmas about the walk of the program and about plain integers and lists. No conditions beyond those that each lemma states. -/
import Derived.Test.YtogponhonjiidaaDoorTx8
set_option linter.unusedSimpArgs false
set_option linter.unusedVariables false
set_option maxRecDepth 20000
set_option maxHeartbeats 16000000
namespace Go.Proofs.YtogponhonjiidaaDoor
open Go Go.Sx
open Nat renaming reduceBEq → zA, reduceBNe → zB, reduceAdd → zC, reduceSub → zD, reduceMul → zE, reduceLeDiff → zF, reduceLT → zG, reduceEqDiff → zH
open Int renaming reduceToNat → zI, reduceLE → zJ, reduceLT → zK, reduceEq → zL
open Bool renaming not_eq_true' → zM, not_eq_false' → zN
def boolL : List (List UInt8) := [[116, 114, 117, 101], [102, 97, 108, 115, 101]]
def listL : List (List UInt8) := [[91, 93], [91, 49, 93], [91, 50, 44, 32, 48, 93]]
def thingL : List (List UInt8) := [[49], [111, 107], [91, 93], [34, 115, 34], [123, 49, 125], [123, 97, 44, 32, 98, 125]]
def leafS (sort : Int) (g : Gn) : List UInt8 × Gn :=
 bif decide (sort = 1) then (boolL.getD (drawV g.s 2).toNat [], nxt g 2)
 else bif decide (sort = 2) then (atomV g.s, nxt g 4)
 else bif decide (sort = 3) then (listL.getD (drawV g.s 3).toNat [], nxt g 3)
 else bif decide (sort = 4) then ([123] ++ atomV g.s ++ [44, 32] ++ smallV (nxt g 4) ++ [125], nxt (nxt g 4) 7)
 else bif decide (sort = 5) then ([102, 117, 110, 32, 40] ++ freshV g ++ [41, 32, 45, 62, 32, 40] ++ freshV g ++ [32, 43, 32] ++ smallV (incK g) ++ [41, 32, 101, 110, 100], nxt (incK g) 7)
 else bif decide (sort = 6) then ([35, 123, 97, 32, 61, 62, 32] ++ smallV g ++ [125], nxt g 7)
 else bif decide (sort = 7) then (thingL.getD (drawV g.s 6).toNat [], nxt g 6)
 else (smallV g, nxt g 7)
def leafV (sort : Int) (env : List NamD) (g : Gn) : List UInt8 × Gn :=
 bif decide (0 < ((ofV env sort).length : Int)) then
  bif decide (0 < drawV g.s 4) then ((ofV env sort).getD (drawV (nxt g 4).s ((ofV env sort).length : Int)).toNat [], nxt (nxt g 4) ((ofV env sort).length : Int))
  else leafS sort (nxt g 4)
 else leafS sort g
theorem atomV_len (s : Src) : (atomV s).length ≤ 5 := by
 have : ∀ x ∈ atomL, x.length ≤ 5 := by decide
 have hv := drawV_in s (n := 4) (by omega)
 refine this _ ?_
 unfold atomV
 rw [List.getD_eq_getElem?_getD, List.getElem?_eq_getElem (show (drawV s 4).toNat < atomL.length by show _ < 4; omega)]
 exact List.getElem_mem _
theorem leaf_c (c : Cst) (g : Gn) (hg : g.s.ok) (sort : Int) (env : List NamD) (he : env.length ≤ 1000) : PCB Tryd.prog 77 [Sp 1000000, I .i64 sort, .one (.dat (.sl 2 (env.map encNam)))] (gB c g) (S (leafV sort env g).1) (gB c (leafV sort env g).2) := by
 have hof := of_c env he sort
 have hol : (ofV env sort).length ≤ 1000 := by
  unfold ofV
  have := List.length_filter_le (fun x : NamD => decide (x.sort = sort)) env
  rw [List.length_map]; omega
 have hmax : 1000000 ≤ maxLen := by unfold maxLen; omega
 unfold leafV
 generalize ofV env sort = l at hof hol ⊢
 refine PCB.of_body Tryd.func77 rfl (by decide) Tryd.ntmps77 Tryd.results77 rfl rfl rfl ?_ rfl rfl
 cases hl : decide (0 < (l.length : Int)) with
 | true =>
  have hl1 : 0 < (l.length : Int) := by simpa using hl
  rw [cond_true]
  cases hn : decide (0 < drawV g.s 4) with
  | true =>
   have hv := drawV_in (nxt g 4).s (n := (l.length : Int)) (by omega)
   rw [cond_true]
   repeat' (first | (simp only [go_sem, zA, zB, zC, zD, zE, zF, zG, reduceCtorEq, zH, zI, zJ, zK, zL, List.length_map, hl, hn]; all_goals fail_if_success guard_target =ₛ False) | (with_reducible first | ((first | refine seqVC_stepN rfl ?_ | refine seqVC_stepG rfl (by with_unfolding_all rfl) ?_ | refine AWP.seq ?_ | refine AWP.seqR (by kernel_rfl) ?_); intro K hK) | ((first | refine hK _ _ _ ?_ | refine hK _ _ ?_ | refine hK _ ?_); clear hK K) | refine seqVC_nil ?_ | refine AWP.block ?_ | (refine AWP.cond (by with_unfolding_all rfl) ?_ ?_ <;> intro h <;> (try simp only [zM, zN] at h) <;> try exact absurd h (by decide)) | refine AWP.skip ?_ | refine AWP.ret ?_ | refine AWP.exit ?_ | (refine ⟨fun h => ?_, fun h => ?_⟩ <;> (try simp only [zM, zN] at h) <;> try simp only [h]) | refine ⟨_, hof, ?_⟩) | (refine ⟨1000001, _, _, _, draw_k 1000001 g.s hg 4 (by omega), rfl, ?_⟩) | (refine ⟨1000001, _, _, _, draw_k 1000001 (nextS g.s 4) (ok_next hg 4) (l.length : Int) (by omega), rfl, ?_⟩) | ( refine ⟨hv.1, [.str (l.getD (drawV (nxt g 4).s (l.length : Int)).toNat [])], lit_get (fun x => [C.str x]) l [] hv, ?_⟩) | (with_reducible first | refine Or.inl ?_) | (clear hK K))
   all_goals exact fun x hx => hx
  | false =>
   rw [cond_false]
   have ho4 := ok_next hg 4
   have hv2 := drawV_in (nxt g 4).s (n := 2) (by omega)
   have hv3 := drawV_in (nxt g 4).s (n := 3) (by omega)
   have hv6 := drawV_in (nxt g 4).s (n := 6) (by omega)
   have hla := atomV_len (nxt g 4).s
   have hls := smallV_len (nxt g 4)
   have hls4 := smallV_len (nxt (nxt g 4) 4)
   have hlsk := smallV_len (incK (nxt g 4))
   have hlf := freshV_len (nxt g 4)
   repeat' (first | (simp only [go_sem, zA, zB, zC, zD, zE, zF, zG, reduceCtorEq, zH, zI, zJ, zK, zL, List.length_map, Bx.puts, hl, hn]; all_goals fail_if_success guard_target =ₛ False) | (with_reducible first | ((first | refine seqVC_stepN rfl ?_ | refine seqVC_stepG rfl (by with_unfolding_all rfl) ?_ | refine AWP.seq ?_ | refine AWP.seqR (by kernel_rfl) ?_); intro K hK) | ((first | refine hK _ _ _ ?_ | refine hK _ _ ?_ | refine hK _ ?_); clear hK K) | refine seqVC_nil ?_ | refine AWP.block ?_ | (refine AWP.cond (by with_unfolding_all rfl) ?_ ?_ <;> intro h <;> (try simp only [zM, zN] at h) <;> try exact absurd h (by decide)) | refine AWP.skip ?_ | refine AWP.ret ?_ | refine AWP.exit ?_ | (refine ⟨fun h => ?_, fun h => ?_⟩ <;> (try simp only [zM, zN] at h) <;> try simp only [h]) | refine ⟨_, hof, ?_⟩ | (refine ⟨(by first | omega | (simp only [List.length_append, List.length_map, List.length_take, List.length_drop, List.length_cons, List.length_nil, List.length_replicate]; omega) : _ ≤ _), ?_⟩) | refine ⟨by omega, by omega, ?_⟩) | (refine ⟨1000001, _, _, _, draw_k 1000001 g.s hg 4 (by omega), rfl, ?_⟩) | (refine ⟨1000001, _, _, _, draw_k 1000001 (nxt g 4).s ho4 2 (by omega), rfl, ?_⟩) | (refine ⟨1000001, _, _, _, draw_k 1000001 (nxt g 4).s ho4 3 (by omega), rfl, ?_⟩) | (refine ⟨1000001, _, _, _, draw_k 1000001 (nxt g 4).s ho4 6 (by omega), rfl, ?_⟩) | (refine ⟨1000001, _, _, _, atomName_k 1000001 (nxt g 4).s ho4, rfl, ?_⟩) | ( refine Or.inr ⟨_, _, _, small_c c (nxt g 4) ho4, ⟨rfl, rfl, trivial⟩, rfl, rfl, ?_⟩) | ( refine Or.inr ⟨_, _, _, small_c c (nxt (nxt g 4) 4) (ok_next ho4 4), ⟨rfl, rfl, trivial⟩, rfl, rfl, ?_⟩) | ( refine Or.inr ⟨_, _, _, small_c c (incK (nxt g 4)) ho4, ⟨rfl, rfl, trivial⟩, rfl, rfl, ?_⟩) | ( refine Or.inr ⟨_, _, _, fresh_c c (nxt g 4), ⟨rfl, rfl, trivial⟩, rfl, rfl, ?_⟩) | ( refine ⟨hv2.1, [.str (boolL.getD (drawV (nxt g 4).s 2).toNat [])], lit_get (fun x => [C.str x]) boolL [] hv2, ?_⟩) | ( refine ⟨[.str (boolL.getD (drawV (nxt g 4).s 2).toNat [])], lit_get (fun x => [C.str x]) boolL [] hv2, ?_⟩) | ( refine ⟨hv3.1, [.str (listL.getD (drawV (nxt g 4).s 3).toNat [])], lit_get (fun x => [C.str x]) listL [] hv3, ?_⟩) | ( refine ⟨[.str (listL.getD (drawV (nxt g 4).s 3).toNat [])], lit_get (fun x => [C.str x]) listL [] hv3, ?_⟩) | ( refine ⟨hv6.1, [.str (thingL.getD (drawV (nxt g 4).s 6).toNat [])], lit_get (fun x => [C.str x]) thingL [] hv6, ?_⟩) | ( refine ⟨[.str (thingL.getD (drawV (nxt g 4).s 6).toNat [])], lit_get (fun x => [C.str x]) thingL [] hv6, ?_⟩) | (with_reducible first | refine Or.inl ?_) | (clear hK K))
   all_goals (simp only [leafS, *, cond_true, cond_false]; refine ⟨?_, fun x hx => hx⟩; first | rfl | (simp only [List.append_assoc, List.cons_append, List.nil_append]))
 | false =>
  rw [cond_false]
  have hv2 := drawV_in (g).s (n := 2) (by omega)
  have hv3 := drawV_in (g).s (n := 3) (by omega)
  have hv6 := drawV_in (g).s (n := 6) (by omega)
  have hla := atomV_len (g).s
  have hls := smallV_len (g)
  have hls4 := smallV_len (nxt (g) 4)
  have hlsk := smallV_len (incK (g))
  have hlf := freshV_len (g)
  repeat' (first | (simp only [go_sem, zA, zB, zC, zD, zE, zF, zG, reduceCtorEq, zH, zI, zJ, zK, zL, List.length_map, Bx.puts, hl]; all_goals fail_if_success guard_target =ₛ False) | (with_reducible first | ((first | refine seqVC_stepN rfl ?_ | refine seqVC_stepG rfl (by with_unfolding_all rfl) ?_ | refine AWP.seq ?_ | refine AWP.seqR (by kernel_rfl) ?_); intro K hK) | ((first | refine hK _ _ _ ?_ | refine hK _ _ ?_ | refine hK _ ?_); clear hK K) | refine seqVC_nil ?_ | refine AWP.block ?_ | (refine AWP.cond (by with_unfolding_all rfl) ?_ ?_ <;> intro h <;> (try simp only [zM, zN] at h) <;> try exact absurd h (by decide)) | refine AWP.skip ?_ | refine AWP.ret ?_ | refine AWP.exit ?_ | (refine ⟨fun h => ?_, fun h => ?_⟩ <;> (try simp only [zM, zN] at h) <;> try simp only [h]) | refine ⟨_, hof, ?_⟩ | (refine ⟨(by first | omega | (simp only [List.length_append, List.length_map, List.length_take, List.length_drop, List.length_cons, List.length_nil, List.length_replicate]; omega) : _ ≤ _), ?_⟩) | refine ⟨by omega, by omega, ?_⟩) | (refine ⟨1000001, _, _, _, draw_k 1000001 (g).s hg 2 (by omega), rfl, ?_⟩) | (refine ⟨1000001, _, _, _, draw_k 1000001 (g).s hg 3 (by omega), rfl, ?_⟩) | (refine ⟨1000001, _, _, _, draw_k 1000001 (g).s hg 6 (by omega), rfl, ?_⟩) | (refine ⟨1000001, _, _, _, atomName_k 1000001 (g).s hg, rfl, ?_⟩) | ( refine Or.inr ⟨_, _, _, small_c c (g) hg, ⟨rfl, rfl, trivial⟩, rfl, rfl, ?_⟩) | ( refine Or.inr ⟨_, _, _, small_c c (nxt (g) 4) (ok_next hg 4), ⟨rfl, rfl, trivial⟩, rfl, rfl, ?_⟩) | ( refine Or.inr ⟨_, _, _, small_c c (incK (g)) hg, ⟨rfl, rfl, trivial⟩, rfl, rfl, ?_⟩) | ( refine Or.inr ⟨_, _, _, fresh_c c (g), ⟨rfl, rfl, trivial⟩, rfl, rfl, ?_⟩) | ( refine ⟨hv2.1, [.str (boolL.getD (drawV (g).s 2).toNat [])], lit_get (fun x => [C.str x]) boolL [] hv2, ?_⟩) | ( refine ⟨[.str (boolL.getD (drawV (g).s 2).toNat [])], lit_get (fun x => [C.str x]) boolL [] hv2, ?_⟩) | ( refine ⟨hv3.1, [.str (listL.getD (drawV (g).s 3).toNat [])], lit_get (fun x => [C.str x]) listL [] hv3, ?_⟩) | ( refine ⟨[.str (listL.getD (drawV (g).s 3).toNat [])], lit_get (fun x => [C.str x]) listL [] hv3, ?_⟩) | ( refine ⟨hv6.1, [.str (thingL.getD (drawV (g).s 6).toNat [])], lit_get (fun x => [C.str x]) thingL [] hv6, ?_⟩) | ( refine ⟨[.str (thingL.getD (drawV (g).s 6).toNat [])], lit_get (fun x => [C.str x]) thingL [] hv6, ?_⟩) | (with_reducible first | refine Or.inl ?_) | (clear hK K))
  all_goals (simp only [leafS, *, cond_true, cond_false]; refine ⟨?_, fun x hx => hx⟩; first | rfl | (simp only [List.append_assoc, List.cons_append, List.nil_append]))
/-- how an expression of a lower depth is made -/
abbrev Mk := Int → List NamD → Gn → List UInt8 × Gn
abbrev Envt (env : List NamD) : T := .one (.dat (.sl 2 (env.map encNam)))
/-- an environment of at most m names, none of them long -/
structure EOk (m : Nat) (env : List NamD) : Prop where
 len : env.length ≤ m
 txt : ∀ x ∈ env, x.text.length ≤ 200
theorem EOk.mono {m n : Nat} {env : List NamD} (h : EOk m env) (hmn : m ≤ n) : EOk n env := ⟨Nat.le_trans h.len hmn, h.txt⟩
theorem EOk.snoc {m : Nat} {env : List NamD} (h : EOk m env) (x : NamD) (hx : x.text.length ≤ 200) : EOk (m + 1) (env ++ [x]) :=
 ⟨by have := h.len; rw [List.length_append, List.length_cons, List.length_nil]; omega, fun y hy => (List.mem_append.1 hy).elim (h.txt y) (fun hy => by rw [List.mem_singleton.1 hy]; exact hx)⟩
/-- the function makes what E says, for environments of at most m names -/
structure Good (c : Cst) (D : Int) (m L : Nat) (E : Mk) : Prop where
 run : ∀ sort env g, g.s.ok → EOk m env → PCB Tryd.prog 56 [Sp 1000000, I .i64 sort, I .i64 D, Envt env] (gB c g) (S (E sort env g).1) (gB c (E sort env g).2)
 ok : ∀ sort env g, g.s.ok → EOk m env → (E sort env g).2.s.ok
 len : ∀ sort env g, g.s.ok → EOk m env → (E sort env g).1.length ≤ L
theorem ok_nxt {g : Gn} (h : g.s.ok) (n : Int) : (nxt g n).s.ok := ok_next h n
def opL : List (List UInt8) := [[43], [45], [42], [100, 105, 118], [114, 101, 109]]
def putL : List (List UInt8) := [[97], [98], [34, 115, 34]]
theorem lit_len (L : List (List UInt8)) (h : ∀ x ∈ L, x.length ≤ 20) {v : Int} (hv : 0 ≤ v ∧ v < L.length) : (L.getD v.toNat []).length ≤ 20 := by
 rw [List.getD_eq_getElem?_getD, List.getElem?_eq_getElem (show v.toNat < L.length by omega)]
 exact h _ (List.getElem_mem _)
def addV (E : Mk) (env : List NamD) (g : Gn) : List UInt8 × Gn :=
 let a0 := E 0 env (nxt g 4)
 let a1 := E 0 env (nxt a0.2 5)
 ([40] ++ a0.1 ++ [32] ++ (opL.getD (drawV a0.2.s 5).toNat []) ++ [32] ++ a1.1 ++ [41], a1.2)
theorem add_c (c : Cst) (D D1 : Int) (m L : Nat) (E : Mk) (hD : IntKind.i64.wrap (D - 1) = D1) (hE : Good c D1 m L E) (hL : L ≤ 1000000) (g : Gn) (hg : g.s.ok) (env : List NamD) (he : EOk m env) (hm : m ≤ 1000) (hn : drawV g.s 4 = 0) : PCB Tryd.prog 81 [Sp 1000000, I .i64 0, I .i64 D, Envt env] (gB c g) (S (addV E env g).1) (gB c (addV E env g).2) := by
 have hmax : 10000000 ≤ maxLen := by unfold maxLen; omega
 have r0 := hE.run 0 env (nxt g 4) (ok_nxt hg 4) he
 have k0 := hE.ok 0 env (nxt g 4) (ok_nxt hg 4) he
 have l0 := hE.len 0 env (nxt g 4) (ok_nxt hg 4) he
 have hv := drawV_in (E 0 env (nxt g 4)).2.s (n := 5) (by omega)
 have hvl := lit_len opL (by decide) hv
 have r1 := hE.run 0 env (nxt (E 0 env (nxt g 4)).2 5) (ok_nxt k0 5) he
 have k1 := hE.ok 0 env (nxt (E 0 env (nxt g 4)).2 5) (ok_nxt k0 5) he
 have l1 := hE.len 0 env (nxt (E 0 env (nxt g 4)).2 5) (ok_nxt k0 5) he
 refine PCB.of_body Tryd.func81 rfl (by decide) Tryd.ntmps81 Tryd.results81 rfl rfl rfl ?_ rfl rfl
 repeat' (first | (simp only [go_sem, zA, zB, zC, zD, zE, zF, zG, reduceCtorEq, zH, zI, zJ, zK, zL, Bx.puts, hD, parWOp, atW, hn]; all_goals fail_if_success guard_target =ₛ False) | (with_reducible first | ((first | refine seqVC_stepN rfl ?_ | refine AWP.seq ?_ | refine AWP.seqR (by kernel_rfl) ?_ | refine parVC_stepN rfl ?_ | refine parEVC_stepN rfl ?_ | refine genVC_stepN rfl ?_ | refine parWVC_stepN rfl ?_); intro K hK) | ((first | refine hK _ _ _ ?_ | refine hK _ _ ?_ | refine hK _ ?_); clear hK K) | refine seqVC_nil ?_ | refine parVC_nil ?_ | refine parEVC_nil ?_ | refine genVC_nil ?_ | refine parWVC_nil ?_ | refine AWP.block ?_ | (refine AWP.cond (by with_unfolding_all rfl) ?_ ?_ <;> intro h <;> (try simp only [zM, zN] at h) <;> try exact absurd h (by decide)) | refine AWP.skip ?_ | refine AWP.ret ?_ | refine AWP.exit ?_ | (refine ⟨(by first | omega | (simp only [List.length_append, List.length_map, List.length_take, List.length_drop, List.length_cons, List.length_nil, List.length_replicate]; omega) : _ ≤ _), ?_⟩) | refine ⟨by omega, by omega, ?_⟩) | (refine ⟨1000001, _, _, _, draw_k 1000001 g.s hg 4 (by omega), rfl, ?_⟩) | ( refine ⟨_, _, _, r0, ⟨rfl, rfl, trivial⟩, rfl, rfl, ⟨trivial, rfl⟩, ?_⟩) | ( refine ⟨_, _, _, PCB.ren (draw_c (E 0 env (nxt g 4)).2.s k0 5 (by omega)) (fun _ => 1000001) rfl rfl rfl rfl rfl rfl, ⟨rfl, trivial⟩, rfl, rfl, ⟨trivial, rfl⟩, ?_⟩) | ( refine ⟨hv.1, [.str (opL.getD (drawV (E 0 env (nxt g 4)).2.s 5).toNat [])], lit_get (fun x => [C.str x]) opL [] hv, ?_⟩) | ( refine ⟨[.str (opL.getD (drawV (E 0 env (nxt g 4)).2.s 5).toNat [])], lit_get (fun x => [C.str x]) opL [] hv, ?_⟩) | ( refine ⟨_, _, _, r1, ⟨rfl, rfl, trivial⟩, rfl, rfl, ⟨trivial, rfl⟩, ?_⟩) | (with_reducible first | (refine AWP.parW (id := 5) [] 1000000 (.ptr 1000001 0) mixed (by kernel_rfl) (by with_unfolding_all exact ⟨trivial, rfl⟩) fun K hK => ?_) | refine AWP.parR mixed (by kernel_rfl) fun K hK => ?_ | refine ⟨(by kernel_rfl : depB _ _ _ = true), ?_⟩ | refine Or.inl ?_) | (clear hK K))
 all_goals (refine ⟨?_, fun x hx => hx⟩; first | rfl | (simp only [addV, List.append_assoc, List.cons_append, List.nil_append]))
def getV (E : Mk) (env : List NamD) (g : Gn) : List UInt8 × Gn :=
 let a0 := E 6 env (nxt g 4)
 ([103, 101, 116, 40] ++ a0.1 ++ [44, 32, 97, 41], a0.2)
theorem get_c (c : Cst) (D D1 : Int) (m L : Nat) (E : Mk) (hD : IntKind.i64.wrap (D - 1) = D1) (hE : Good c D1 m L E) (hL : L ≤ 1000000) (g : Gn) (hg : g.s.ok) (env : List NamD) (he : EOk m env) (hm : m ≤ 1000) (hn : drawV g.s 4 = 1) : PCB Tryd.prog 81 [Sp 1000000, I .i64 0, I .i64 D, Envt env] (gB c g) (S (getV E env g).1) (gB c (getV E env g).2) := by
 have hmax : 10000000 ≤ maxLen := by unfold maxLen; omega
 have r0 := hE.run 6 env (nxt g 4) (ok_nxt hg 4) he
 have k0 := hE.ok 6 env (nxt g 4) (ok_nxt hg 4) he
 have l0 := hE.len 6 env (nxt g 4) (ok_nxt hg 4) he
 refine PCB.of_body Tryd.func81 rfl (by decide) Tryd.ntmps81 Tryd.results81 rfl rfl rfl ?_ rfl rfl
 repeat' (first | (simp only [go_sem, zA, zB, zC, zD, zE, zF, zG, reduceCtorEq, zH, zI, zJ, zK, zL, Bx.puts, hD, hn]; all_goals fail_if_success guard_target =ₛ False) | (with_reducible first | ((first | refine seqVC_stepN rfl ?_ | refine AWP.seq ?_ | refine AWP.seqR (by kernel_rfl) ?_ | refine parVC_stepN rfl ?_ | refine parEVC_stepN rfl ?_ | refine genVC_stepN rfl ?_); intro K hK) | ((first | refine hK _ _ _ ?_ | refine hK _ _ ?_ | refine hK _ ?_); clear hK K) | refine seqVC_nil ?_ | refine parVC_nil ?_ | refine parEVC_nil ?_ | refine genVC_nil ?_ | refine AWP.block ?_ | (refine AWP.cond (by with_unfolding_all rfl) ?_ ?_ <;> intro h <;> (try simp only [zM, zN] at h) <;> try exact absurd h (by decide)) | refine AWP.skip ?_ | refine AWP.ret ?_ | refine AWP.exit ?_ | (refine ⟨(by first | omega | (simp only [List.length_append, List.length_map, List.length_take, List.length_drop, List.length_cons, List.length_nil, List.length_replicate]; omega) : _ ≤ _), ?_⟩) | refine ⟨by omega, by omega, ?_⟩) | (refine ⟨1000001, _, _, _, draw_k 1000001 g.s hg 4 (by omega), rfl, ?_⟩) | ( refine Or.inr ⟨_, _, _, r0, ⟨rfl, rfl, trivial⟩, rfl, rfl, ?_⟩) | (with_reducible first | refine AWP.parR mixed (by kernel_rfl) fun K hK => ?_ | refine ⟨(by kernel_rfl : depB _ _ _ = true), ?_⟩ | refine Or.inl ?_) | (clear hK K))
 all_goals (refine ⟨?_, fun x hx => hx⟩; first | rfl | (simp only [getV, List.append_assoc, List.cons_append, List.nil_append]))
def applyV (E : Mk) (env : List NamD) (g : Gn) : List UInt8 × Gn :=
 let a0 := E 5 env (nxt g 4)
 let a1 := E 0 env a0.2
 ([97, 112, 112, 108, 121, 40] ++ a0.1 ++ [44, 32] ++ a1.1 ++ [41], a1.2)
theorem apply_c (c : Cst) (D D1 : Int) (m L : Nat) (E : Mk) (hD : IntKind.i64.wrap (D - 1) = D1) (hE : Good c D1 m L E) (hL : L ≤ 1000000) (g : Gn) (hg : g.s.ok) (env : List NamD) (he : EOk m env) (hm : m ≤ 1000) (hn : drawV g.s 4 = 2) : PCB Tryd.prog 81 [Sp 1000000, I .i64 0, I .i64 D, Envt env] (gB c g) (S (applyV E env g).1) (gB c (applyV E env g).2) := by
 have hmax : 10000000 ≤ maxLen := by unfold maxLen; omega
 have r0 := hE.run 5 env (nxt g 4) (ok_nxt hg 4) he
 have k0 := hE.ok 5 env (nxt g 4) (ok_nxt hg 4) he
 have l0 := hE.len 5 env (nxt g 4) (ok_nxt hg 4) he
 have r1 := hE.run 0 env (E 5 env (nxt g 4)).2 k0 he
 have k1 := hE.ok 0 env (E 5 env (nxt g 4)).2 k0 he
 have l1 := hE.len 0 env (E 5 env (nxt g 4)).2 k0 he
 refine PCB.of_body Tryd.func81 rfl (by decide) Tryd.ntmps81 Tryd.results81 rfl rfl rfl ?_ rfl rfl
 repeat' (first | (simp only [go_sem, zA, zB, zC, zD, zE, zF, zG, reduceCtorEq, zH, zI, zJ, zK, zL, Bx.puts, hD, hn]; all_goals fail_if_success guard_target =ₛ False) | (with_reducible first | ((first | refine seqVC_stepN rfl ?_ | refine AWP.seq ?_ | refine AWP.seqR (by kernel_rfl) ?_ | refine parVC_stepN rfl ?_ | refine parEVC_stepN rfl ?_ | refine genVC_stepN rfl ?_); intro K hK) | ((first | refine hK _ _ _ ?_ | refine hK _ _ ?_ | refine hK _ ?_); clear hK K) | refine seqVC_nil ?_ | refine parVC_nil ?_ | refine parEVC_nil ?_ | refine genVC_nil ?_ | refine AWP.block ?_ | (refine AWP.cond (by with_unfolding_all rfl) ?_ ?_ <;> intro h <;> (try simp only [zM, zN] at h) <;> try exact absurd h (by decide)) | refine AWP.skip ?_ | refine AWP.ret ?_ | refine AWP.exit ?_ | (refine ⟨(by first | omega | (simp only [List.length_append, List.length_map, List.length_take, List.length_drop, List.length_cons, List.length_nil, List.length_replicate]; omega) : _ ≤ _), ?_⟩) | refine ⟨by omega, by omega, ?_⟩) | (refine ⟨1000001, _, _, _, draw_k 1000001 g.s hg 4 (by omega), rfl, ?_⟩) | ( refine Or.inr ⟨_, _, _, r0, ⟨rfl, rfl, trivial⟩, rfl, rfl, ?_⟩) | ( refine Or.inr ⟨_, _, _, r1, ⟨rfl, rfl, trivial⟩, rfl, rfl, ?_⟩) | (with_reducible first | refine AWP.parR mixed (by kernel_rfl) fun K hK => ?_ | refine ⟨(by kernel_rfl : depB _ _ _ = true), ?_⟩ | refine Or.inl ?_) | (clear hK K))
 all_goals (refine ⟨?_, fun x hx => hx⟩; first | rfl | (simp only [applyV, List.append_assoc, List.cons_append, List.nil_append]))
def assertV (E : Mk) (env : List NamD) (g : Gn) : List UInt8 × Gn :=
 let a0 := E 0 env (nxt g 4)
 ([97, 115, 115, 101, 114, 116, 40] ++ a0.1 ++ [32, 58, 32, 96, 105, 110, 116, 96, 41], a0.2)
theorem assert_c (c : Cst) (D D1 : Int) (m L : Nat) (E : Mk) (hD : IntKind.i64.wrap (D - 1) = D1) (hE : Good c D1 m L E) (hL : L ≤ 1000000) (g : Gn) (hg : g.s.ok) (env : List NamD) (he : EOk m env) (hm : m ≤ 1000) (hn : drawV g.s 4 = 3) : PCB Tryd.prog 81 [Sp 1000000, I .i64 0, I .i64 D, Envt env] (gB c g) (S (assertV E env g).1) (gB c (assertV E env g).2) := by
 have hmax : 10000000 ≤ maxLen := by unfold maxLen; omega
 have r0 := hE.run 0 env (nxt g 4) (ok_nxt hg 4) he
 have k0 := hE.ok 0 env (nxt g 4) (ok_nxt hg 4) he
 have l0 := hE.len 0 env (nxt g 4) (ok_nxt hg 4) he
 refine PCB.of_body Tryd.func81 rfl (by decide) Tryd.ntmps81 Tryd.results81 rfl rfl rfl ?_ rfl rfl
 repeat' (first | (simp only [go_sem, zA, zB, zC, zD, zE, zF, zG, reduceCtorEq, zH, zI, zJ, zK, zL, Bx.puts, hD, hn]; all_goals fail_if_success guard_target =ₛ False) | (with_reducible first | ((first | refine seqVC_stepN rfl ?_ | refine AWP.seq ?_ | refine AWP.seqR (by kernel_rfl) ?_ | refine parVC_stepN rfl ?_ | refine parEVC_stepN rfl ?_ | refine genVC_stepN rfl ?_); intro K hK) | ((first | refine hK _ _ _ ?_ | refine hK _ _ ?_ | refine hK _ ?_); clear hK K) | refine seqVC_nil ?_ | refine parVC_nil ?_ | refine parEVC_nil ?_ | refine genVC_nil ?_ | refine AWP.block ?_ | (refine AWP.cond (by with_unfolding_all rfl) ?_ ?_ <;> intro h <;> (try simp only [zM, zN] at h) <;> try exact absurd h (by decide)) | refine AWP.skip ?_ | refine AWP.ret ?_ | refine AWP.exit ?_ | (refine ⟨(by first | omega | (simp only [List.length_append, List.length_map, List.length_take, List.length_drop, List.length_cons, List.length_nil, List.length_replicate]; omega) : _ ≤ _), ?_⟩) | refine ⟨by omega, by omega, ?_⟩) | (refine ⟨1000001, _, _, _, draw_k 1000001 g.s hg 4 (by omega), rfl, ?_⟩) | ( refine Or.inr ⟨_, _, _, r0, ⟨rfl, rfl, trivial⟩, rfl, rfl, ?_⟩) | (with_reducible first | refine AWP.parR mixed (by kernel_rfl) fun K hK => ?_ | refine ⟨(by kernel_rfl : depB _ _ _ = true), ?_⟩ | refine Or.inl ?_) | (clear hK K))
 all_goals (refine ⟨?_, fun x hx => hx⟩; first | rfl | (simp only [assertV, List.append_assoc, List.cons_append, List.nil_append]))
def lessV (E : Mk) (env : List NamD) (g : Gn) : List UInt8 × Gn :=
 let a0 := E 0 env (nxt g 3)
 let a1 := E 0 env a0.2
 ([40] ++ a0.1 ++ [32, 60, 32] ++ a1.1 ++ [41], a1.2)
theorem less_c (c : Cst) (D D1 : Int) (m L : Nat) (E : Mk) (hD : IntKind.i64.wrap (D - 1) = D1) (hE : Good c D1 m L E) (hL : L ≤ 1000000) (g : Gn) (hg : g.s.ok) (env : List NamD) (he : EOk m env) (hm : m ≤ 1000) (hn : drawV g.s 3 = 0) : PCB Tryd.prog 81 [Sp 1000000, I .i64 1, I .i64 D, Envt env] (gB c g) (S (lessV E env g).1) (gB c (lessV E env g).2) := by
 have hmax : 10000000 ≤ maxLen := by unfold maxLen; omega
 have r0 := hE.run 0 env (nxt g 3) (ok_nxt hg 3) he
 have k0 := hE.ok 0 env (nxt g 3) (ok_nxt hg 3) he
 have l0 := hE.len 0 env (nxt g 3) (ok_nxt hg 3) he
 have r1 := hE.run 0 env (E 0 env (nxt g 3)).2 k0 he
 have k1 := hE.ok 0 env (E 0 env (nxt g 3)).2 k0 he
 have l1 := hE.len 0 env (E 0 env (nxt g 3)).2 k0 he
 refine PCB.of_body Tryd.func81 rfl (by decide) Tryd.ntmps81 Tryd.results81 rfl rfl rfl ?_ rfl rfl
 repeat' (first | (simp only [go_sem, zA, zB, zC, zD, zE, zF, zG, reduceCtorEq, zH, zI, zJ, zK, zL, Bx.puts, hD, hn]; all_goals fail_if_success guard_target =ₛ False) | (with_reducible first | ((first | refine seqVC_stepN rfl ?_ | refine AWP.seq ?_ | refine AWP.seqR (by kernel_rfl) ?_ | refine parVC_stepN rfl ?_ | refine parEVC_stepN rfl ?_ | refine genVC_stepN rfl ?_); intro K hK) | ((first | refine hK _ _ _ ?_ | refine hK _ _ ?_ | refine hK _ ?_); clear hK K) | refine seqVC_nil ?_ | refine parVC_nil ?_ | refine parEVC_nil ?_ | refine genVC_nil ?_ | refine AWP.block ?_ | (refine AWP.cond (by with_unfolding_all rfl) ?_ ?_ <;> intro h <;> (try simp only [zM, zN] at h) <;> try exact absurd h (by decide)) | refine AWP.skip ?_ | refine AWP.ret ?_ | refine AWP.exit ?_ | (refine ⟨(by first | omega | (simp only [List.length_append, List.length_map, List.length_take, List.length_drop, List.length_cons, List.length_nil, List.length_replicate]; omega) : _ ≤ _), ?_⟩) | refine ⟨by omega, by omega, ?_⟩) | (refine ⟨1000001, _, _, _, draw_k 1000001 g.s hg 3 (by omega), rfl, ?_⟩) | ( refine Or.inr ⟨_, _, _, r0, ⟨rfl, rfl, trivial⟩, rfl, rfl, ?_⟩) | ( refine Or.inr ⟨_, _, _, r1, ⟨rfl, rfl, trivial⟩, rfl, rfl, ?_⟩) | (with_reducible first | refine AWP.parR mixed (by kernel_rfl) fun K hK => ?_ | refine ⟨(by kernel_rfl : depB _ _ _ = true), ?_⟩ | refine Or.inl ?_) | (clear hK K))
 all_goals (refine ⟨?_, fun x hx => hx⟩; first | rfl | (simp only [lessV, List.append_assoc, List.cons_append, List.nil_append]))
def eqlV (E : Mk) (env : List NamD) (g : Gn) : List UInt8 × Gn :=
 let a0 := E 7 env (nxt g 3)
 let a1 := E 7 env a0.2
 ([40] ++ a0.1 ++ [32, 61, 61, 32] ++ a1.1 ++ [41], a1.2)
theorem eql_c (c : Cst) (D D1 : Int) (m L : Nat) (E : Mk) (hD : IntKind.i64.wrap (D - 1) = D1) (hE : Good c D1 m L E) (hL : L ≤ 1000000) (g : Gn) (hg : g.s.ok) (env : List NamD) (he : EOk m env) (hm : m ≤ 1000) (hn : drawV g.s 3 = 1) : PCB Tryd.prog 81 [Sp 1000000, I .i64 1, I .i64 D, Envt env] (gB c g) (S (eqlV E env g).1) (gB c (eqlV E env g).2) := by
 have hmax : 10000000 ≤ maxLen := by unfold maxLen; omega
 have r0 := hE.run 7 env (nxt g 3) (ok_nxt hg 3) he
 have k0 := hE.ok 7 env (nxt g 3) (ok_nxt hg 3) he
 have l0 := hE.len 7 env (nxt g 3) (ok_nxt hg 3) he
 have r1 := hE.run 7 env (E 7 env (nxt g 3)).2 k0 he
 have k1 := hE.ok 7 env (E 7 env (nxt g 3)).2 k0 he
 have l1 := hE.len 7 env (E 7 env (nxt g 3)).2 k0 he
 refine PCB.of_body Tryd.func81 rfl (by decide) Tryd.ntmps81 Tryd.results81 rfl rfl rfl ?_ rfl rfl
 repeat' (first | (simp only [go_sem, zA, zB, zC, zD, zE, zF, zG, reduceCtorEq, zH, zI, zJ, zK, zL, Bx.puts, hD, hn]; all_goals fail_if_success guard_target =ₛ False) | (with_reducible first | ((first | refine seqVC_stepN rfl ?_ | refine AWP.seq ?_ | refine AWP.seqR (by kernel_rfl) ?_ | refine parVC_stepN rfl ?_ | refine parEVC_stepN rfl ?_ | refine genVC_stepN rfl ?_); intro K hK) | ((first | refine hK _ _ _ ?_ | refine hK _ _ ?_ | refine hK _ ?_); clear hK K) | refine seqVC_nil ?_ | refine parVC_nil ?_ | refine parEVC_nil ?_ | refine genVC_nil ?_ | refine AWP.block ?_ | (refine AWP.cond (by with_unfolding_all rfl) ?_ ?_ <;> intro h <;> (try simp only [zM, zN] at h) <;> try exact absurd h (by decide)) | refine AWP.skip ?_ | refine AWP.ret ?_ | refine AWP.exit ?_ | (refine ⟨(by first | omega | (simp only [List.length_append, List.length_map, List.length_take, List.length_drop, List.length_cons, List.length_nil, List.length_replicate]; omega) : _ ≤ _), ?_⟩) | refine ⟨by omega, by omega, ?_⟩) | (refine ⟨1000001, _, _, _, draw_k 1000001 g.s hg 3 (by omega), rfl, ?_⟩) | ( refine Or.inr ⟨_, _, _, r0, ⟨rfl, rfl, trivial⟩, rfl, rfl, ?_⟩) | ( refine Or.inr ⟨_, _, _, r1, ⟨rfl, rfl, trivial⟩, rfl, rfl, ?_⟩) | (with_reducible first | refine AWP.parR mixed (by kernel_rfl) fun K hK => ?_ | refine ⟨(by kernel_rfl : depB _ _ _ = true), ?_⟩ | refine Or.inl ?_) | (clear hK K))
 all_goals (refine ⟨?_, fun x hx => hx⟩; first | rfl | (simp only [eqlV, List.append_assoc, List.cons_append, List.nil_append]))
def notV (E : Mk) (env : List NamD) (g : Gn) : List UInt8 × Gn :=
 let a0 := E 1 env (nxt g 3)
 ([40, 110, 111, 116, 32] ++ a0.1 ++ [41], a0.2)
theorem not_c (c : Cst) (D D1 : Int) (m L : Nat) (E : Mk) (hD : IntKind.i64.wrap (D - 1) = D1) (hE : Good c D1 m L E) (hL : L ≤ 1000000) (g : Gn) (hg : g.s.ok) (env : List NamD) (he : EOk m env) (hm : m ≤ 1000) (hn : drawV g.s 3 = 2) : PCB Tryd.prog 81 [Sp 1000000, I .i64 1, I .i64 D, Envt env] (gB c g) (S (notV E env g).1) (gB c (notV E env g).2) := by
 have hmax : 10000000 ≤ maxLen := by unfold maxLen; omega
 have r0 := hE.run 1 env (nxt g 3) (ok_nxt hg 3) he
 have k0 := hE.ok 1 env (nxt g 3) (ok_nxt hg 3) he
 have l0 := hE.len 1 env (nxt g 3) (ok_nxt hg 3) he
 refine PCB.of_body Tryd.func81 rfl (by decide) Tryd.ntmps81 Tryd.results81 rfl rfl rfl ?_ rfl rfl
 repeat' (first | (simp only [go_sem, zA, zB, zC, zD, zE, zF, zG, reduceCtorEq, zH, zI, zJ, zK, zL, Bx.puts, hD, hn]; all_goals fail_if_success guard_target =ₛ False) | (with_reducible first | ((first | refine seqVC_stepN rfl ?_ | refine AWP.seq ?_ | refine AWP.seqR (by kernel_rfl) ?_ | refine parVC_stepN rfl ?_ | refine parEVC_stepN rfl ?_ | refine genVC_stepN rfl ?_); intro K hK) | ((first | refine hK _ _ _ ?_ | refine hK _ _ ?_ | refine hK _ ?_); clear hK K) | refine seqVC_nil ?_ | refine parVC_nil ?_ | refine parEVC_nil ?_ | refine genVC_nil ?_ | refine AWP.block ?_ | (refine AWP.cond (by with_unfolding_all rfl) ?_ ?_ <;> intro h <;> (try simp only [zM, zN] at h) <;> try exact absurd h (by decide)) | refine AWP.skip ?_ | refine AWP.ret ?_ | refine AWP.exit ?_ | (refine ⟨(by first | omega | (simp only [List.length_append, List.length_map, List.length_take, List.length_drop, List.length_cons, List.length_nil, List.length_replicate]; omega) : _ ≤ _), ?_⟩) | refine ⟨by omega, by omega, ?_⟩) | (refine ⟨1000001, _, _, _, draw_k 1000001 g.s hg 3 (by omega), rfl, ?_⟩) | ( refine Or.inr ⟨_, _, _, r0, ⟨rfl, rfl, trivial⟩, rfl, rfl, ?_⟩) | (with_reducible first | refine AWP.parR mixed (by kernel_rfl) fun K hK => ?_ | refine ⟨(by kernel_rfl : depB _ _ _ = true), ?_⟩ | refine Or.inl ?_) | (clear hK K))
 all_goals (refine ⟨?_, fun x hx => hx⟩; first | rfl | (simp only [notV, List.append_assoc, List.cons_append, List.nil_append]))
def consV (E : Mk) (env : List NamD) (g : Gn) : List UInt8 × Gn :=
 let a0 := E 0 env g
 let a1 := E 3 env a0.2
 ([91] ++ a0.1 ++ [32, 124, 32] ++ a1.1 ++ [93], a1.2)
theorem cons_c (c : Cst) (D D1 : Int) (m L : Nat) (E : Mk) (hD : IntKind.i64.wrap (D - 1) = D1) (hE : Good c D1 m L E) (hL : L ≤ 1000000) (g : Gn) (hg : g.s.ok) (env : List NamD) (he : EOk m env) (hm : m ≤ 1000) : PCB Tryd.prog 81 [Sp 1000000, I .i64 3, I .i64 D, Envt env] (gB c g) (S (consV E env g).1) (gB c (consV E env g).2) := by
 have hmax : 10000000 ≤ maxLen := by unfold maxLen; omega
 have r0 := hE.run 0 env g hg he
 have k0 := hE.ok 0 env g hg he
 have l0 := hE.len 0 env g hg he
 have r1 := hE.run 3 env (E 0 env g).2 k0 he
 have k1 := hE.ok 3 env (E 0 env g).2 k0 he
 have l1 := hE.len 3 env (E 0 env g).2 k0 he
 refine PCB.of_body Tryd.func81 rfl (by decide) Tryd.ntmps81 Tryd.results81 rfl rfl rfl ?_ rfl rfl
 repeat' (first | (simp only [go_sem, zA, zB, zC, zD, zE, zF, zG, reduceCtorEq, zH, zI, zJ, zK, zL, Bx.puts, hD]; all_goals fail_if_success guard_target =ₛ False) | (with_reducible first | ((first | refine seqVC_stepN rfl ?_ | refine AWP.seq ?_ | refine AWP.seqR (by kernel_rfl) ?_ | refine parVC_stepN rfl ?_ | refine parEVC_stepN rfl ?_ | refine genVC_stepN rfl ?_); intro K hK) | ((first | refine hK _ _ _ ?_ | refine hK _ _ ?_ | refine hK _ ?_); clear hK K) | refine seqVC_nil ?_ | refine parVC_nil ?_ | refine parEVC_nil ?_ | refine genVC_nil ?_ | refine AWP.block ?_ | (refine AWP.cond (by with_unfolding_all rfl) ?_ ?_ <;> intro h <;> (try simp only [zM, zN] at h) <;> try exact absurd h (by decide)) | refine AWP.skip ?_ | refine AWP.ret ?_ | refine AWP.exit ?_ | (refine ⟨(by first | omega | (simp only [List.length_append, List.length_map, List.length_take, List.length_drop, List.length_cons, List.length_nil, List.length_replicate]; omega) : _ ≤ _), ?_⟩) | refine ⟨by omega, by omega, ?_⟩) | ( refine Or.inr ⟨_, _, _, r0, ⟨rfl, rfl, trivial⟩, rfl, rfl, ?_⟩) | ( refine Or.inr ⟨_, _, _, r1, ⟨rfl, rfl, trivial⟩, rfl, rfl, ?_⟩) | (with_reducible first | refine AWP.parR mixed (by kernel_rfl) fun K hK => ?_ | refine ⟨(by kernel_rfl : depB _ _ _ = true), ?_⟩ | refine Or.inl ?_) | (clear hK K))
 all_goals (refine ⟨?_, fun x hx => hx⟩; first | rfl | (simp only [consV, List.append_assoc, List.cons_append, List.nil_append]))
def pairV (E : Mk) (env : List NamD) (g : Gn) : List UInt8 × Gn :=
 let a0 := E 2 env g
 let a1 := E 0 env a0.2
 ([123] ++ a0.1 ++ [44, 32] ++ a1.1 ++ [125], a1.2)
theorem pair_c (c : Cst) (D D1 : Int) (m L : Nat) (E : Mk) (hD : IntKind.i64.wrap (D - 1) = D1) (hE : Good c D1 m L E) (hL : L ≤ 1000000) (g : Gn) (hg : g.s.ok) (env : List NamD) (he : EOk m env) (hm : m ≤ 1000) : PCB Tryd.prog 81 [Sp 1000000, I .i64 4, I .i64 D, Envt env] (gB c g) (S (pairV E env g).1) (gB c (pairV E env g).2) := by
 have hmax : 10000000 ≤ maxLen := by unfold maxLen; omega
 have r0 := hE.run 2 env g hg he
 have k0 := hE.ok 2 env g hg he
 have l0 := hE.len 2 env g hg he
 have r1 := hE.run 0 env (E 2 env g).2 k0 he
 have k1 := hE.ok 0 env (E 2 env g).2 k0 he
 have l1 := hE.len 0 env (E 2 env g).2 k0 he
 refine PCB.of_body Tryd.func81 rfl (by decide) Tryd.ntmps81 Tryd.results81 rfl rfl rfl ?_ rfl rfl
 repeat' (first | (simp only [go_sem, zA, zB, zC, zD, zE, zF, zG, reduceCtorEq, zH, zI, zJ, zK, zL, Bx.puts, hD]; all_goals fail_if_success guard_target =ₛ False) | (with_reducible first | ((first | refine seqVC_stepN rfl ?_ | refine AWP.seq ?_ | refine AWP.seqR (by kernel_rfl) ?_ | refine parVC_stepN rfl ?_ | refine parEVC_stepN rfl ?_ | refine genVC_stepN rfl ?_); intro K hK) | ((first | refine hK _ _ _ ?_ | refine hK _ _ ?_ | refine hK _ ?_); clear hK K) | refine seqVC_nil ?_ | refine parVC_nil ?_ | refine parEVC_nil ?_ | refine genVC_nil ?_ | refine AWP.block ?_ | (refine AWP.cond (by with_unfolding_all rfl) ?_ ?_ <;> intro h <;> (try simp only [zM, zN] at h) <;> try exact absurd h (by decide)) | refine AWP.skip ?_ | refine AWP.ret ?_ | refine AWP.exit ?_ | (refine ⟨(by first | omega | (simp only [List.length_append, List.length_map, List.length_take, List.length_drop, List.length_cons, List.length_nil, List.length_replicate]; omega) : _ ≤ _), ?_⟩) | refine ⟨by omega, by omega, ?_⟩) | ( refine Or.inr ⟨_, _, _, r0, ⟨rfl, rfl, trivial⟩, rfl, rfl, ?_⟩) | ( refine Or.inr ⟨_, _, _, r1, ⟨rfl, rfl, trivial⟩, rfl, rfl, ?_⟩) | (with_reducible first | refine AWP.parR mixed (by kernel_rfl) fun K hK => ?_ | refine ⟨(by kernel_rfl : depB _ _ _ = true), ?_⟩ | refine Or.inl ?_) | (clear hK K))
 all_goals (refine ⟨?_, fun x hx => hx⟩; first | rfl | (simp only [pairV, List.append_assoc, List.cons_append, List.nil_append]))
def putV (E : Mk) (env : List NamD) (g : Gn) : List UInt8 × Gn :=
 let a0 := E 6 env g
 let a1 := E 0 env (nxt a0.2 3)
 ([112, 117, 116, 40] ++ a0.1 ++ [44, 32] ++ (putL.getD (drawV a0.2.s 3).toNat []) ++ [44, 32] ++ a1.1 ++ [41], a1.2)
theorem put_c (c : Cst) (D D1 : Int) (m L : Nat) (E : Mk) (hD : IntKind.i64.wrap (D - 1) = D1) (hE : Good c D1 m L E) (hL : L ≤ 1000000) (g : Gn) (hg : g.s.ok) (env : List NamD) (he : EOk m env) (hm : m ≤ 1000) : PCB Tryd.prog 81 [Sp 1000000, I .i64 6, I .i64 D, Envt env] (gB c g) (S (putV E env g).1) (gB c (putV E env g).2) := by
 have hmax : 10000000 ≤ maxLen := by unfold maxLen; omega
 have r0 := hE.run 6 env g hg he
 have k0 := hE.ok 6 env g hg he
 have l0 := hE.len 6 env g hg he
 have hv := drawV_in (E 6 env g).2.s (n := 3) (by omega)
 have hvl := lit_len putL (by decide) hv
 have r1 := hE.run 0 env (nxt (E 6 env g).2 3) (ok_nxt k0 3) he
 have k1 := hE.ok 0 env (nxt (E 6 env g).2 3) (ok_nxt k0 3) he
 have l1 := hE.len 0 env (nxt (E 6 env g).2 3) (ok_nxt k0 3) he
 refine PCB.of_body Tryd.func81 rfl (by decide) Tryd.ntmps81 Tryd.results81 rfl rfl rfl ?_ rfl rfl
 repeat' (first | (simp only [go_sem, zA, zB, zC, zD, zE, zF, zG, reduceCtorEq, zH, zI, zJ, zK, zL, Bx.puts, hD, parWOp, atW]; all_goals fail_if_success guard_target =ₛ False) | (with_reducible first | ((first | refine seqVC_stepN rfl ?_ | refine AWP.seq ?_ | refine AWP.seqR (by kernel_rfl) ?_ | refine parVC_stepN rfl ?_ | refine parEVC_stepN rfl ?_ | refine genVC_stepN rfl ?_ | refine parWVC_stepN rfl ?_); intro K hK) | ((first | refine hK _ _ _ ?_ | refine hK _ _ ?_ | refine hK _ ?_); clear hK K) | refine seqVC_nil ?_ | refine parVC_nil ?_ | refine parEVC_nil ?_ | refine genVC_nil ?_ | refine parWVC_nil ?_ | refine AWP.block ?_ | (refine AWP.cond (by with_unfolding_all rfl) ?_ ?_ <;> intro h <;> (try simp only [zM, zN] at h) <;> try exact absurd h (by decide)) | refine AWP.skip ?_ | refine AWP.ret ?_ | refine AWP.exit ?_ | (refine ⟨(by first | omega | (simp only [List.length_append, List.length_map, List.length_take, List.length_drop, List.length_cons, List.length_nil, List.length_replicate]; omega) : _ ≤ _), ?_⟩) | refine ⟨by omega, by omega, ?_⟩) | ( refine ⟨_, _, _, r0, ⟨rfl, rfl, trivial⟩, rfl, rfl, ⟨trivial, rfl⟩, ?_⟩) | ( refine ⟨_, _, _, PCB.ren (draw_c (E 6 env g).2.s k0 3 (by omega)) (fun _ => 1000001) rfl rfl rfl rfl rfl rfl, ⟨rfl, trivial⟩, rfl, rfl, ⟨trivial, rfl⟩, ?_⟩) | ( refine ⟨hv.1, [.str (putL.getD (drawV (E 6 env g).2.s 3).toNat [])], lit_get (fun x => [C.str x]) putL [] hv, ?_⟩) | ( refine ⟨[.str (putL.getD (drawV (E 6 env g).2.s 3).toNat [])], lit_get (fun x => [C.str x]) putL [] hv, ?_⟩) | ( refine ⟨_, _, _, r1, ⟨rfl, rfl, trivial⟩, rfl, rfl, ⟨trivial, rfl⟩, ?_⟩) | (with_reducible first | (refine AWP.parW (id := 27) [] 1000000 (.ptr 1000001 0) mixed (by kernel_rfl) (by with_unfolding_all exact ⟨trivial, rfl⟩) fun K hK => ?_) | refine AWP.parR mixed (by kernel_rfl) fun K hK => ?_ | refine ⟨(by kernel_rfl : depB _ _ _ = true), ?_⟩ | refine Or.inl ?_) | (clear hK K))
 all_goals (refine ⟨?_, fun x hx => hx⟩; first | rfl | (simp only [putV, List.append_assoc, List.cons_append, List.nil_append]))
def thingV (E : Mk) (env : List NamD) (g : Gn) : List UInt8 × Gn :=
 let a0 := E 7 env g
 let a1 := E 7 env a0.2
 ([123] ++ a0.1 ++ [44, 32] ++ a1.1 ++ [125], a1.2)
theorem thing_c (c : Cst) (D D1 : Int) (m L : Nat) (E : Mk) (hD : IntKind.i64.wrap (D - 1) = D1) (hE : Good c D1 m L E) (hL : L ≤ 1000000) (g : Gn) (hg : g.s.ok) (env : List NamD) (he : EOk m env) (hm : m ≤ 1000) : PCB Tryd.prog 81 [Sp 1000000, I .i64 7, I .i64 D, Envt env] (gB c g) (S (thingV E env g).1) (gB c (thingV E env g).2) := by
 have hmax : 10000000 ≤ maxLen := by unfold maxLen; omega
 have r0 := hE.run 7 env g hg he
 have k0 := hE.ok 7 env g hg he
 have l0 := hE.len 7 env g hg he
 have r1 := hE.run 7 env (E 7 env g).2 k0 he
 have k1 := hE.ok 7 env (E 7 env g).2 k0 he
 have l1 := hE.len 7 env (E 7 env g).2 k0 he
 refine PCB.of_body Tryd.func81 rfl (by decide) Tryd.ntmps81 Tryd.results81 rfl rfl rfl ?_ rfl rfl
 repeat' (first | (simp only [go_sem, zA, zB, zC, zD, zE, zF, zG, reduceCtorEq, zH, zI, zJ, zK, zL, Bx.puts, hD]; all_goals fail_if_success guard_target =ₛ False) | (with_reducible first | ((first | refine seqVC_stepN rfl ?_ | refine AWP.seq ?_ | refine AWP.seqR (by kernel_rfl) ?_ | refine parVC_stepN rfl ?_ | refine parEVC_stepN rfl ?_ | refine genVC_stepN rfl ?_); intro K hK) | ((first | refine hK _ _ _ ?_ | refine hK _ _ ?_ | refine hK _ ?_); clear hK K) | refine seqVC_nil ?_ | refine parVC_nil ?_ | refine parEVC_nil ?_ | refine genVC_nil ?_ | refine AWP.block ?_ | (refine AWP.cond (by with_unfolding_all rfl) ?_ ?_ <;> intro h <;> (try simp only [zM, zN] at h) <;> try exact absurd h (by decide)) | refine AWP.skip ?_ | refine AWP.ret ?_ | refine AWP.exit ?_ | (refine ⟨(by first | omega | (simp only [List.length_append, List.length_map, List.length_take, List.length_drop, List.length_cons, List.length_nil, List.length_replicate]; omega) : _ ≤ _), ?_⟩) | refine ⟨by omega, by omega, ?_⟩) | ( refine Or.inr ⟨_, _, _, r0, ⟨rfl, rfl, trivial⟩, rfl, rfl, ?_⟩) | ( refine Or.inr ⟨_, _, _, r1, ⟨rfl, rfl, trivial⟩, rfl, rfl, ?_⟩) | (with_reducible first | refine AWP.parR mixed (by kernel_rfl) fun K hK => ?_ | refine ⟨(by kernel_rfl : depB _ _ _ = true), ?_⟩ | refine Or.inl ?_) | (clear hK K))
 all_goals (refine ⟨?_, fun x hx => hx⟩; first | rfl | (simp only [thingV, List.append_assoc, List.cons_append, List.nil_append]))
def funV (E : Mk) (env : List NamD) (g : Gn) : List UInt8 × Gn :=
 let a := E 0 (env ++ [⟨freshV g, 0⟩]) (incK g)
 ([102, 117, 110, 32, 40] ++ freshV g ++ [41, 32, 119, 104, 101, 110, 32, 105, 115, 95, 105, 110, 116, 40] ++ freshV g ++ [41, 32, 45, 62, 32] ++ a.1 ++ [32, 101, 110, 100], a.2)
/-- a step of the proof's own ahead of the region i -/
theorem atR {P : Program} {n : Nat} {l : Array Oper} {b : Bool} {σ τ : AS} {Q : Exit → AS → Prop} (i : Nat) (g : Gh n σ τ) (h : AWP P n (.region i l b) τ Q) : AWP P n (.region i l b) σ Q := AWP.gh g h
theorem nam_snoc (l : List NamD) (x : List UInt8) (n : Int) : l.map encNam ++ [[C.str x, C.int .i64 n]] = (l ++ [(⟨x, n⟩ : NamD)]).map encNam := by rw [List.map_append]; rfl
theorem fun_c (c : Cst) (D D1 : Int) (m L : Nat) (E : Mk) (hD : IntKind.i64.wrap (D - 1) = D1) (hE : Good c D1 (m + 1) L E) (hL : L ≤ 1000000) (g : Gn) (hg : g.s.ok) (env : List NamD) (he : EOk m env) (hm : m ≤ 1000) : PCB Tryd.prog 81 [Sp 1000000, I .i64 5, I .i64 D, Envt env] (gB c g) (S (funV E env g).1) (gB c (funV E env g).2) := by
 have hmax : 10000000 ≤ maxLen := by unfold maxLen; omega
 have hlf := freshV_len g
 have hx : EOk (m + 1) (env ++ [(⟨freshV g, 0⟩ : NamD)]) := he.snoc _ (by simp only; omega)
 have hlen2 := he.len
 have r0 := hE.run 0 (env ++ [⟨freshV g, 0⟩]) (incK g) hg hx
 have l0 := hE.len 0 (env ++ [⟨freshV g, 0⟩]) (incK g) hg hx
 refine PCB.of_body Tryd.func81 rfl (by decide) Tryd.ntmps81 Tryd.results81 rfl rfl rfl ?_ rfl rfl
 repeat' (first | (refine atR 25 (Gh.freeze 164 (by rfl) (by rfl) (by simp only [go_sem, zA, zB, zC, zD, zE, zF, zG, reduceCtorEq, zH, zI, zJ, zK, zL, Bx.puts, hD, nam_snoc, List.length_map, List.length_map]) (by simp only [go_sem, zA, zB, zC, zD, zE, zF, zG, reduceCtorEq, zH, zI, zJ, zK, zL, Bx.puts, hD, nam_snoc, List.length_map, List.length_map])) ?_; simp only [frE, frB, Bx.drop, go_sem, zA, zB, zC, zD, zE, zF, zG, reduceCtorEq, zH, zI, zJ, zK, zL, Bx.puts, hD, nam_snoc, List.length_map]) | (simp only [go_sem, zA, zB, zC, zD, zE, zF, zG, reduceCtorEq, zH, zI, zJ, zK, zL, Bx.puts, hD, nam_snoc, List.length_map]; all_goals fail_if_success guard_target =ₛ False) | (with_reducible first | ((first | refine seqVC_stepN rfl ?_ | refine AWP.seq ?_ | refine AWP.seqR (by kernel_rfl) ?_ | refine parVC_stepN rfl ?_ | refine parEVC_stepN rfl ?_ | refine genVC_stepN rfl ?_); intro K hK) | ((first | refine hK _ _ _ ?_ | refine hK _ _ ?_ | refine hK _ ?_); clear hK K) | refine seqVC_nil ?_ | refine parVC_nil ?_ | refine parEVC_nil ?_ | refine genVC_nil ?_ | refine AWP.block ?_ | (refine AWP.cond (by with_unfolding_all rfl) ?_ ?_ <;> intro h <;> (try simp only [zM, zN] at h) <;> try exact absurd h (by decide)) | refine AWP.skip ?_ | refine AWP.ret ?_ | refine AWP.exit ?_ | (refine ⟨(by first | omega | (simp only [List.length_append, List.length_map, List.length_take, List.length_drop, List.length_cons, List.length_nil, List.length_replicate]; omega) : _ ≤ _), ?_⟩) | refine ⟨by omega, by omega, ?_⟩) | ( refine Or.inr ⟨_, _, _, fresh_c c g, ⟨rfl, rfl, trivial⟩, rfl, rfl, ?_⟩) | ( refine Or.inr ⟨_, _, _, r0, ⟨rfl, rfl, trivial⟩, rfl, rfl, ?_⟩) | (with_reducible first | refine AWP.parR mixed (by kernel_rfl) fun K hK => ?_ | refine ⟨(by kernel_rfl : depB _ _ _ = true), ?_⟩ | refine Or.inl ?_) | (clear hK K))
 all_goals (refine ⟨?_, fun x hx => hx⟩; first | rfl | (simp only [funV, List.append_assoc, List.cons_append, List.nil_append]))
/-- the environment with the new variable, an integer -/
abbrev inV (env : List NamD) (g : Gn) : List NamD := env ++ [⟨freshV g, 0⟩]
theorem inV_len {env : List NamD} {m : Nat} (g : Gn) (h : EOk m env) : EOk (m + 1) (inV env g) := h.snoc _ (by have := freshV_len g; simp only; omega)
def tryV (E : Mk) (sort : Int) (env : List NamD) (g : Gn) : List UInt8 × Gn :=
 let a0 := E sort env (nxt (incK g) 5)
 let a1 := E sort env a0.2
 ([116, 114, 121, 32] ++ a0.1 ++ [32, 99, 97, 116, 99, 104, 32, 95, 32, 45, 62, 32] ++ a1.1 ++ [32, 101, 110, 100], a1.2)
theorem try_c (c : Cst) (D D1 : Int) (m L : Nat) (E : Mk) (hD : IntKind.i64.wrap (D - 1) = D1) (hE : Good c D1 (m + 1) L E) (hL : L ≤ 1000000) (g : Gn) (hg : g.s.ok) (sort : Int) (env : List NamD) (he : EOk m env) (hm : m ≤ 1000) (h0 : drawV (incK g).s 5 = 0) : PCB Tryd.prog 79 [Sp 1000000, I .i64 sort, I .i64 D, Envt env] (gB c g) (S (tryV E sort env g).1) (gB c (tryV E sort env g).2) := by
 have hmax : 10000000 ≤ maxLen := by unfold maxLen; omega
 have hlf := freshV_len g
 have he1 := he.mono (Nat.le_succ m)
 have hlen1 := he.len
 have hein := inV_len g he
 have hlen2 := hein.len
 have r0 := hE.run sort env (nxt (incK g) 5) (ok_nxt (g := incK g) hg 5) he1
 have k0 := hE.ok sort env (nxt (incK g) 5) (ok_nxt (g := incK g) hg 5) he1
 have l0 := hE.len sort env (nxt (incK g) 5) (ok_nxt (g := incK g) hg 5) he1
 have r1 := hE.run sort env (E sort env (nxt (incK g) 5)).2 k0 he1
 have k1 := hE.ok sort env (E sort env (nxt (incK g) 5)).2 k0 he1
 have l1 := hE.len sort env (E sort env (nxt (incK g) 5)).2 k0 he1
 refine PCB.of_body Tryd.func79 rfl (by decide) Tryd.ntmps79 Tryd.results79 rfl rfl rfl ?_ rfl rfl
 repeat' (first | (simp only [go_sem, zA, zB, zC, zD, zE, zF, zG, reduceCtorEq, zH, zI, zJ, zK, zL, Bx.puts, hD, nam_snoc, List.length_map, h0]; all_goals fail_if_success guard_target =ₛ False) | (with_reducible first | ((first | refine seqVC_stepN rfl ?_ | refine AWP.seq ?_ | refine AWP.seqR (by kernel_rfl) ?_); intro K hK) | ((first | refine hK _ _ _ ?_ | refine hK _ _ ?_ | refine hK _ ?_); clear hK K) | refine seqVC_nil ?_ | refine AWP.block ?_ | (refine AWP.cond (by with_unfolding_all rfl) ?_ ?_ <;> intro h <;> (try simp only [zM, zN] at h) <;> try exact absurd h (by decide)) | refine AWP.skip ?_ | refine AWP.ret ?_ | refine AWP.exit ?_ | (refine ⟨(by first | omega | (simp only [List.length_append, List.length_map, List.length_take, List.length_drop, List.length_cons, List.length_nil, List.length_replicate]; omega) : _ ≤ _), ?_⟩) | refine ⟨by omega, by omega, ?_⟩) | ( refine Or.inr ⟨_, _, _, fresh_c c g, ⟨rfl, rfl, trivial⟩, rfl, rfl, ?_⟩) | (refine ⟨1000001, _, _, _, draw_k 1000001 (incK g).s hg 5 (by omega), rfl, ?_⟩) | ( refine Or.inr ⟨_, _, _, r0, ⟨rfl, rfl, trivial⟩, rfl, rfl, ?_⟩) | ( refine Or.inr ⟨_, _, _, r1, ⟨rfl, rfl, trivial⟩, rfl, rfl, ?_⟩) | (with_reducible first | refine Or.inl ?_) | (clear hK K))
 all_goals (refine ⟨?_, fun x hx => hx⟩; first | rfl | (simp only [tryV, List.append_assoc, List.cons_append, List.nil_append]))
def case0V (E : Mk) (sort : Int) (env : List NamD) (g : Gn) : List UInt8 × Gn :=
 let a0 := E 0 env (nxt (nxt (incK g) 5) 4)
 let a1 := E sort env (nxt a0.2 7)
 let a2 := E sort (inV env g) a1.2
 ([99, 97, 115, 101, 32] ++ a0.1 ++ [32, 111, 102, 32] ++ smallV a0.2 ++ [32, 45, 62, 32] ++ a1.1 ++ [59, 32] ++ freshV g ++ [32, 45, 62, 32] ++ a2.1 ++ [32, 101, 110, 100], a2.2)
theorem case0_c (c : Cst) (D D1 : Int) (m L : Nat) (E : Mk) (hD : IntKind.i64.wrap (D - 1) = D1) (hE : Good c D1 (m + 1) L E) (hL : L ≤ 1000000) (g : Gn) (hg : g.s.ok) (sort : Int) (env : List NamD) (he : EOk m env) (hm : m ≤ 1000) (h0 : decide (drawV (incK g).s 5 = 0) = false) (h1 : drawV (nxt (incK g) 5).s 4 = 0) : PCB Tryd.prog 79 [Sp 1000000, I .i64 sort, I .i64 D, Envt env] (gB c g) (S (case0V E sort env g).1) (gB c (case0V E sort env g).2) := by
 have hmax : 10000000 ≤ maxLen := by unfold maxLen; omega
 have hlf := freshV_len g
 have he1 := he.mono (Nat.le_succ m)
 have hlen1 := he.len
 have hein := inV_len g he
 have hlen2 := hein.len
 have r0 := hE.run 0 env (nxt (nxt (incK g) 5) 4) (ok_nxt (ok_nxt (g := incK g) hg 5) 4) he1
 have k0 := hE.ok 0 env (nxt (nxt (incK g) 5) 4) (ok_nxt (ok_nxt (g := incK g) hg 5) 4) he1
 have l0 := hE.len 0 env (nxt (nxt (incK g) 5) 4) (ok_nxt (ok_nxt (g := incK g) hg 5) 4) he1
 have ls := smallV_len (E 0 env (nxt (nxt (incK g) 5) 4)).2
 have r1 := hE.run sort env (nxt (E 0 env (nxt (nxt (incK g) 5) 4)).2 7) (ok_nxt k0 7) he1
 have k1 := hE.ok sort env (nxt (E 0 env (nxt (nxt (incK g) 5) 4)).2 7) (ok_nxt k0 7) he1
 have l1 := hE.len sort env (nxt (E 0 env (nxt (nxt (incK g) 5) 4)).2 7) (ok_nxt k0 7) he1
 have r2 := hE.run sort (inV env g) (E sort env (nxt (E 0 env (nxt (nxt (incK g) 5) 4)).2 7)).2 k1 hein
 have k2 := hE.ok sort (inV env g) (E sort env (nxt (E 0 env (nxt (nxt (incK g) 5) 4)).2 7)).2 k1 hein
 have l2 := hE.len sort (inV env g) (E sort env (nxt (E 0 env (nxt (nxt (incK g) 5) 4)).2 7)).2 k1 hein
 refine PCB.of_body Tryd.func79 rfl (by decide) Tryd.ntmps79 Tryd.results79 rfl rfl rfl ?_ rfl rfl
 repeat' (first | (refine atR 8 (Gh.freeze 51 (by rfl) (by rfl) (by simp only [go_sem, zA, zB, zC, zD, zE, zF, zG, reduceCtorEq, zH, zI, zJ, zK, zL, Bx.puts, hD, nam_snoc, List.length_map, h0, h1, List.length_map]) (by simp only [go_sem, zA, zB, zC, zD, zE, zF, zG, reduceCtorEq, zH, zI, zJ, zK, zL, Bx.puts, hD, nam_snoc, List.length_map, h0, h1, List.length_map])) ?_; simp only [frE, frB, Bx.drop, go_sem, zA, zB, zC, zD, zE, zF, zG, reduceCtorEq, zH, zI, zJ, zK, zL, Bx.puts, hD, nam_snoc, List.length_map, h0, h1]) | (simp only [go_sem, zA, zB, zC, zD, zE, zF, zG, reduceCtorEq, zH, zI, zJ, zK, zL, Bx.puts, hD, nam_snoc, List.length_map, h0, h1]; all_goals fail_if_success guard_target =ₛ False) | (with_reducible first | ((first | refine seqVC_stepN rfl ?_ | refine AWP.seq ?_ | refine AWP.seqR (by kernel_rfl) ?_); intro K hK) | ((first | refine hK _ _ _ ?_ | refine hK _ _ ?_ | refine hK _ ?_); clear hK K) | refine seqVC_nil ?_ | refine AWP.block ?_ | (refine AWP.cond (by with_unfolding_all rfl) ?_ ?_ <;> intro h <;> (try simp only [zM, zN] at h) <;> try exact absurd h (by decide)) | refine AWP.skip ?_ | refine AWP.ret ?_ | refine AWP.exit ?_ | (refine ⟨(by first | omega | (simp only [List.length_append, List.length_map, List.length_take, List.length_drop, List.length_cons, List.length_nil, List.length_replicate]; omega) : _ ≤ _), ?_⟩) | refine ⟨by omega, by omega, ?_⟩) | ( refine Or.inr ⟨_, _, _, fresh_c c g, ⟨rfl, rfl, trivial⟩, rfl, rfl, ?_⟩) | (refine ⟨1000001, _, _, _, draw_k 1000001 (incK g).s hg 5 (by omega), rfl, ?_⟩) | (refine ⟨1000001, _, _, _, draw_k 1000001 (nxt (incK g) 5).s (ok_nxt hg 5) 4 (by omega), rfl, ?_⟩) | ( refine Or.inr ⟨_, _, _, r0, ⟨rfl, rfl, trivial⟩, rfl, rfl, ?_⟩) | ( refine Or.inr ⟨_, _, _, small_c c (E 0 env (nxt (nxt (incK g) 5) 4)).2 k0, ⟨rfl, rfl, trivial⟩, rfl, rfl, ?_⟩) | ( refine Or.inr ⟨_, _, _, r1, ⟨rfl, rfl, trivial⟩, rfl, rfl, ?_⟩) | ( refine Or.inr ⟨_, _, _, r2, ⟨rfl, rfl, trivial⟩, rfl, rfl, ?_⟩) | (with_reducible first | refine Or.inl ?_) | (clear hK K))
 all_goals (refine ⟨?_, fun x hx => hx⟩; first | rfl | (simp only [case0V, List.append_assoc, List.cons_append, List.nil_append]))
def case1V (E : Mk) (sort : Int) (env : List NamD) (g : Gn) : List UInt8 × Gn :=
 let a0 := E 3 env (nxt (nxt (incK g) 5) 4)
 let a1 := E sort env a0.2
 let a2 := E sort (inV env g) a1.2
 ([99, 97, 115, 101, 32] ++ a0.1 ++ [32, 111, 102, 32, 91, 93, 32, 45, 62, 32] ++ a1.1 ++ [59, 32, 91] ++ freshV g ++ [32, 124, 32, 95, 93, 32, 45, 62, 32] ++ a2.1 ++ [32, 101, 110, 100], a2.2)
theorem case1_c (c : Cst) (D D1 : Int) (m L : Nat) (E : Mk) (hD : IntKind.i64.wrap (D - 1) = D1) (hE : Good c D1 (m + 1) L E) (hL : L ≤ 1000000) (g : Gn) (hg : g.s.ok) (sort : Int) (env : List NamD) (he : EOk m env) (hm : m ≤ 1000) (h0 : decide (drawV (incK g).s 5 = 0) = false) (h1 : drawV (nxt (incK g) 5).s 4 = 1) : PCB Tryd.prog 79 [Sp 1000000, I .i64 sort, I .i64 D, Envt env] (gB c g) (S (case1V E sort env g).1) (gB c (case1V E sort env g).2) := by
 have hmax : 10000000 ≤ maxLen := by unfold maxLen; omega
 have hlf := freshV_len g
 have he1 := he.mono (Nat.le_succ m)
 have hlen1 := he.len
 have hein := inV_len g he
 have hlen2 := hein.len
 have r0 := hE.run 3 env (nxt (nxt (incK g) 5) 4) (ok_nxt (ok_nxt (g := incK g) hg 5) 4) he1
 have k0 := hE.ok 3 env (nxt (nxt (incK g) 5) 4) (ok_nxt (ok_nxt (g := incK g) hg 5) 4) he1
 have l0 := hE.len 3 env (nxt (nxt (incK g) 5) 4) (ok_nxt (ok_nxt (g := incK g) hg 5) 4) he1
 have r1 := hE.run sort env (E 3 env (nxt (nxt (incK g) 5) 4)).2 k0 he1
 have k1 := hE.ok sort env (E 3 env (nxt (nxt (incK g) 5) 4)).2 k0 he1
 have l1 := hE.len sort env (E 3 env (nxt (nxt (incK g) 5) 4)).2 k0 he1
 have r2 := hE.run sort (inV env g) (E sort env (E 3 env (nxt (nxt (incK g) 5) 4)).2).2 k1 hein
 have k2 := hE.ok sort (inV env g) (E sort env (E 3 env (nxt (nxt (incK g) 5) 4)).2).2 k1 hein
 have l2 := hE.len sort (inV env g) (E sort env (E 3 env (nxt (nxt (incK g) 5) 4)).2).2 k1 hein
 refine PCB.of_body Tryd.func79 rfl (by decide) Tryd.ntmps79 Tryd.results79 rfl rfl rfl ?_ rfl rfl
 repeat' (first | (refine atR 11 (Gh.freeze 90 (by rfl) (by rfl) (by simp only [go_sem, zA, zB, zC, zD, zE, zF, zG, reduceCtorEq, zH, zI, zJ, zK, zL, Bx.puts, hD, nam_snoc, List.length_map, h0, h1, List.length_map]) (by simp only [go_sem, zA, zB, zC, zD, zE, zF, zG, reduceCtorEq, zH, zI, zJ, zK, zL, Bx.puts, hD, nam_snoc, List.length_map, h0, h1, List.length_map])) ?_; simp only [frE, frB, Bx.drop, go_sem, zA, zB, zC, zD, zE, zF, zG, reduceCtorEq, zH, zI, zJ, zK, zL, Bx.puts, hD, nam_snoc, List.length_map, h0, h1]) | (simp only [go_sem, zA, zB, zC, zD, zE, zF, zG, reduceCtorEq, zH, zI, zJ, zK, zL, Bx.puts, hD, nam_snoc, List.length_map, h0, h1]; all_goals fail_if_success guard_target =ₛ False) | (with_reducible first | ((first | refine seqVC_stepN rfl ?_ | refine AWP.seq ?_ | refine AWP.seqR (by kernel_rfl) ?_); intro K hK) | ((first | refine hK _ _ _ ?_ | refine hK _ _ ?_ | refine hK _ ?_); clear hK K) | refine seqVC_nil ?_ | refine AWP.block ?_ | (refine AWP.cond (by with_unfolding_all rfl) ?_ ?_ <;> intro h <;> (try simp only [zM, zN] at h) <;> try exact absurd h (by decide)) | refine AWP.skip ?_ | refine AWP.ret ?_ | refine AWP.exit ?_ | (refine ⟨(by first | omega | (simp only [List.length_append, List.length_map, List.length_take, List.length_drop, List.length_cons, List.length_nil, List.length_replicate]; omega) : _ ≤ _), ?_⟩) | refine ⟨by omega, by omega, ?_⟩) | ( refine Or.inr ⟨_, _, _, fresh_c c g, ⟨rfl, rfl, trivial⟩, rfl, rfl, ?_⟩) | (refine ⟨1000001, _, _, _, draw_k 1000001 (incK g).s hg 5 (by omega), rfl, ?_⟩) | (refine ⟨1000001, _, _, _, draw_k 1000001 (nxt (incK g) 5).s (ok_nxt hg 5) 4 (by omega), rfl, ?_⟩) | ( refine Or.inr ⟨_, _, _, r0, ⟨rfl, rfl, trivial⟩, rfl, rfl, ?_⟩) | ( refine Or.inr ⟨_, _, _, r1, ⟨rfl, rfl, trivial⟩, rfl, rfl, ?_⟩) | ( refine Or.inr ⟨_, _, _, r2, ⟨rfl, rfl, trivial⟩, rfl, rfl, ?_⟩) | (with_reducible first | refine Or.inl ?_) | (clear hK K))
 all_goals (refine ⟨?_, fun x hx => hx⟩; first | rfl | (simp only [case1V, List.append_assoc, List.cons_append, List.nil_append]))
def case2V (E : Mk) (sort : Int) (env : List NamD) (g : Gn) : List UInt8 × Gn :=
 let a0 := E 4 env (nxt (nxt (incK g) 5) 4)
 let a1 := E sort (inV env g) a0.2
 let a2 := E sort env a1.2
 ([99, 97, 115, 101, 32] ++ a0.1 ++ [32, 111, 102, 32, 123, 111, 107, 44, 32] ++ freshV g ++ [125, 32, 45, 62, 32] ++ a1.1 ++ [59, 32, 95, 32, 45, 62, 32] ++ a2.1 ++ [32, 101, 110, 100], a2.2)
theorem case2_c (c : Cst) (D D1 : Int) (m L : Nat) (E : Mk) (hD : IntKind.i64.wrap (D - 1) = D1) (hE : Good c D1 (m + 1) L E) (hL : L ≤ 1000000) (g : Gn) (hg : g.s.ok) (sort : Int) (env : List NamD) (he : EOk m env) (hm : m ≤ 1000) (h0 : decide (drawV (incK g).s 5 = 0) = false) (h1 : drawV (nxt (incK g) 5).s 4 = 2) : PCB Tryd.prog 79 [Sp 1000000, I .i64 sort, I .i64 D, Envt env] (gB c g) (S (case2V E sort env g).1) (gB c (case2V E sort env g).2) := by
 have hmax : 10000000 ≤ maxLen := by unfold maxLen; omega
 have hlf := freshV_len g
 have he1 := he.mono (Nat.le_succ m)
 have hlen1 := he.len
 have hein := inV_len g he
 have hlen2 := hein.len
 have r0 := hE.run 4 env (nxt (nxt (incK g) 5) 4) (ok_nxt (ok_nxt (g := incK g) hg 5) 4) he1
 have k0 := hE.ok 4 env (nxt (nxt (incK g) 5) 4) (ok_nxt (ok_nxt (g := incK g) hg 5) 4) he1
 have l0 := hE.len 4 env (nxt (nxt (incK g) 5) 4) (ok_nxt (ok_nxt (g := incK g) hg 5) 4) he1
 have r1 := hE.run sort (inV env g) (E 4 env (nxt (nxt (incK g) 5) 4)).2 k0 hein
 have k1 := hE.ok sort (inV env g) (E 4 env (nxt (nxt (incK g) 5) 4)).2 k0 hein
 have l1 := hE.len sort (inV env g) (E 4 env (nxt (nxt (incK g) 5) 4)).2 k0 hein
 have r2 := hE.run sort env (E sort (inV env g) (E 4 env (nxt (nxt (incK g) 5) 4)).2).2 k1 he1
 have k2 := hE.ok sort env (E sort (inV env g) (E 4 env (nxt (nxt (incK g) 5) 4)).2).2 k1 he1
 have l2 := hE.len sort env (E sort (inV env g) (E 4 env (nxt (nxt (incK g) 5) 4)).2).2 k1 he1
 refine PCB.of_body Tryd.func79 rfl (by decide) Tryd.ntmps79 Tryd.results79 rfl rfl rfl ?_ rfl rfl
 repeat' (first | (refine atR 14 (Gh.freeze 125 (by rfl) (by rfl) (by simp only [go_sem, zA, zB, zC, zD, zE, zF, zG, reduceCtorEq, zH, zI, zJ, zK, zL, Bx.puts, hD, nam_snoc, List.length_map, h0, h1, List.length_map]) (by simp only [go_sem, zA, zB, zC, zD, zE, zF, zG, reduceCtorEq, zH, zI, zJ, zK, zL, Bx.puts, hD, nam_snoc, List.length_map, h0, h1, List.length_map])) ?_; simp only [frE, frB, Bx.drop, go_sem, zA, zB, zC, zD, zE, zF, zG, reduceCtorEq, zH, zI, zJ, zK, zL, Bx.puts, hD, nam_snoc, List.length_map, h0, h1]) | (simp only [go_sem, zA, zB, zC, zD, zE, zF, zG, reduceCtorEq, zH, zI, zJ, zK, zL, Bx.puts, hD, nam_snoc, List.length_map, h0, h1]; all_goals fail_if_success guard_target =ₛ False) | (with_reducible first | ((first | refine seqVC_stepN rfl ?_ | refine AWP.seq ?_ | refine AWP.seqR (by kernel_rfl) ?_); intro K hK) | ((first | refine hK _ _ _ ?_ | refine hK _ _ ?_ | refine hK _ ?_); clear hK K) | refine seqVC_nil ?_ | refine AWP.block ?_ | (refine AWP.cond (by with_unfolding_all rfl) ?_ ?_ <;> intro h <;> (try simp only [zM, zN] at h) <;> try exact absurd h (by decide)) | refine AWP.skip ?_ | refine AWP.ret ?_ | refine AWP.exit ?_ | (refine ⟨(by first | omega | (simp only [List.length_append, List.length_map, List.length_take, List.length_drop, List.length_cons, List.length_nil, List.length_replicate]; omega) : _ ≤ _), ?_⟩) | refine ⟨by omega, by omega, ?_⟩) | ( refine Or.inr ⟨_, _, _, fresh_c c g, ⟨rfl, rfl, trivial⟩, rfl, rfl, ?_⟩) | (refine ⟨1000001, _, _, _, draw_k 1000001 (incK g).s hg 5 (by omega), rfl, ?_⟩) | (refine ⟨1000001, _, _, _, draw_k 1000001 (nxt (incK g) 5).s (ok_nxt hg 5) 4 (by omega), rfl, ?_⟩) | ( refine Or.inr ⟨_, _, _, r0, ⟨rfl, rfl, trivial⟩, rfl, rfl, ?_⟩) | ( refine Or.inr ⟨_, _, _, r1, ⟨rfl, rfl, trivial⟩, rfl, rfl, ?_⟩) | ( refine Or.inr ⟨_, _, _, r2, ⟨rfl, rfl, trivial⟩, rfl, rfl, ?_⟩) | (with_reducible first | refine Or.inl ?_) | (clear hK K))
 all_goals (refine ⟨?_, fun x hx => hx⟩; first | rfl | (simp only [case2V, List.append_assoc, List.cons_append, List.nil_append]))
def case3V (E : Mk) (sort : Int) (env : List NamD) (g : Gn) : List UInt8 × Gn :=
 let a0 := E 7 env (nxt (nxt (incK g) 5) 4)
 let a1 := E sort (inV env g) a0.2
 let a2 := E sort env a1.2
 ([99, 97, 115, 101, 32] ++ a0.1 ++ [32, 111, 102, 32] ++ freshV g ++ [32, 119, 104, 101, 110, 32, 105, 115, 95, 105, 110, 116, 40] ++ freshV g ++ [41, 32, 45, 62, 32] ++ a1.1 ++ [59, 32, 95, 32, 45, 62, 32] ++ a2.1 ++ [32, 101, 110, 100], a2.2)
theorem case3_c (c : Cst) (D D1 : Int) (m L : Nat) (E : Mk) (hD : IntKind.i64.wrap (D - 1) = D1) (hE : Good c D1 (m + 1) L E) (hL : L ≤ 1000000) (g : Gn) (hg : g.s.ok) (sort : Int) (env : List NamD) (he : EOk m env) (hm : m ≤ 1000) (h0 : decide (drawV (incK g).s 5 = 0) = false) (h1 : drawV (nxt (incK g) 5).s 4 = 3) : PCB Tryd.prog 79 [Sp 1000000, I .i64 sort, I .i64 D, Envt env] (gB c g) (S (case3V E sort env g).1) (gB c (case3V E sort env g).2) := by
 have hmax : 10000000 ≤ maxLen := by unfold maxLen; omega
 have hlf := freshV_len g
 have he1 := he.mono (Nat.le_succ m)
 have hlen1 := he.len
 have hein := inV_len g he
 have hlen2 := hein.len
 have r0 := hE.run 7 env (nxt (nxt (incK g) 5) 4) (ok_nxt (ok_nxt (g := incK g) hg 5) 4) he1
 have k0 := hE.ok 7 env (nxt (nxt (incK g) 5) 4) (ok_nxt (ok_nxt (g := incK g) hg 5) 4) he1
 have l0 := hE.len 7 env (nxt (nxt (incK g) 5) 4) (ok_nxt (ok_nxt (g := incK g) hg 5) 4) he1
 have r1 := hE.run sort (inV env g) (E 7 env (nxt (nxt (incK g) 5) 4)).2 k0 hein
 have k1 := hE.ok sort (inV env g) (E 7 env (nxt (nxt (incK g) 5) 4)).2 k0 hein
 have l1 := hE.len sort (inV env g) (E 7 env (nxt (nxt (incK g) 5) 4)).2 k0 hein
 have r2 := hE.run sort env (E sort (inV env g) (E 7 env (nxt (nxt (incK g) 5) 4)).2).2 k1 he1
 have k2 := hE.ok sort env (E sort (inV env g) (E 7 env (nxt (nxt (incK g) 5) 4)).2).2 k1 he1
 have l2 := hE.len sort env (E sort (inV env g) (E 7 env (nxt (nxt (incK g) 5) 4)).2).2 k1 he1
 refine PCB.of_body Tryd.func79 rfl (by decide) Tryd.ntmps79 Tryd.results79 rfl rfl rfl ?_ rfl rfl
 repeat' (first | (refine atR 16 (Gh.freeze 158 (by rfl) (by rfl) (by simp only [go_sem, zA, zB, zC, zD, zE, zF, zG, reduceCtorEq, zH, zI, zJ, zK, zL, Bx.puts, hD, nam_snoc, List.length_map, h0, h1, List.length_map]) (by simp only [go_sem, zA, zB, zC, zD, zE, zF, zG, reduceCtorEq, zH, zI, zJ, zK, zL, Bx.puts, hD, nam_snoc, List.length_map, h0, h1, List.length_map])) ?_; simp only [frE, frB, Bx.drop, go_sem, zA, zB, zC, zD, zE, zF, zG, reduceCtorEq, zH, zI, zJ, zK, zL, Bx.puts, hD, nam_snoc, List.length_map, h0, h1]) | (simp only [go_sem, zA, zB, zC, zD, zE, zF, zG, reduceCtorEq, zH, zI, zJ, zK, zL, Bx.puts, hD, nam_snoc, List.length_map, h0, h1]; all_goals fail_if_success guard_target =ₛ False) | (with_reducible first | ((first | refine seqVC_stepN rfl ?_ | refine AWP.seq ?_ | refine AWP.seqR (by kernel_rfl) ?_); intro K hK) | ((first | refine hK _ _ _ ?_ | refine hK _ _ ?_ | refine hK _ ?_); clear hK K) | refine seqVC_nil ?_ | refine AWP.block ?_ | (refine AWP.cond (by with_unfolding_all rfl) ?_ ?_ <;> intro h <;> (try simp only [zM, zN] at h) <;> try exact absurd h (by decide)) | refine AWP.skip ?_ | refine AWP.ret ?_ | refine AWP.exit ?_ | (refine ⟨(by first | omega | (simp only [List.length_append, List.length_map, List.length_take, List.length_drop, List.length_cons, List.length_nil, List.length_replicate]; omega) : _ ≤ _), ?_⟩) | refine ⟨by omega, by omega, ?_⟩) | ( refine Or.inr ⟨_, _, _, fresh_c c g, ⟨rfl, rfl, trivial⟩, rfl, rfl, ?_⟩) | (refine ⟨1000001, _, _, _, draw_k 1000001 (incK g).s hg 5 (by omega), rfl, ?_⟩) | (refine ⟨1000001, _, _, _, draw_k 1000001 (nxt (incK g) 5).s (ok_nxt hg 5) 4 (by omega), rfl, ?_⟩) | ( refine Or.inr ⟨_, _, _, r0, ⟨rfl, rfl, trivial⟩, rfl, rfl, ?_⟩) | ( refine Or.inr ⟨_, _, _, r1, ⟨rfl, rfl, trivial⟩, rfl, rfl, ?_⟩) | ( refine Or.inr ⟨_, _, _, r2, ⟨rfl, rfl, trivial⟩, rfl, rfl, ?_⟩) | (with_reducible first | refine Or.inl ?_) | (clear hK K))
 all_goals (refine ⟨?_, fun x hx => hx⟩; first | rfl | (simp only [case3V, List.append_assoc, List.cons_append, List.nil_append]))
def proc0V (E : Mk) (sort : Int) (env : List NamD) (g : Gn) : List UInt8 × Gn :=
 let a0 := E sort env (nxt (incK g) 3)
 let a1 := E sort env a0.2
 ([108, 101, 116, 32, 95, 32, 61, 32, 115, 101, 110, 100, 40, 115, 101, 108, 102, 40, 41, 44, 32] ++ a0.1 ++ [41, 32, 105, 110, 32] ++ a1.1, a1.2)
theorem proc0_c (c : Cst) (D D1 : Int) (m L : Nat) (E : Mk) (hD : IntKind.i64.wrap (D - 1) = D1) (hE : Good c D1 (m + 1) L E) (hL : L ≤ 1000000) (g : Gn) (hg : g.s.ok) (sort : Int) (env : List NamD) (he : EOk m env) (hm : m ≤ 1000) (h0 : drawV (incK g).s 3 = 0) : PCB Tryd.prog 80 [Sp 1000000, I .i64 sort, I .i64 D, Envt env] (gB c g) (S (proc0V E sort env g).1) (gB c (proc0V E sort env g).2) := by
 have hmax : 10000000 ≤ maxLen := by unfold maxLen; omega
 have hlf := freshV_len g
 have he1 := he.mono (Nat.le_succ m)
 have hlen1 := he.len
 have hein := inV_len g he
 have hlen2 := hein.len
 have r0 := hE.run sort env (nxt (incK g) 3) (ok_nxt (g := incK g) hg 3) he1
 have k0 := hE.ok sort env (nxt (incK g) 3) (ok_nxt (g := incK g) hg 3) he1
 have l0 := hE.len sort env (nxt (incK g) 3) (ok_nxt (g := incK g) hg 3) he1
 have r1 := hE.run sort env (E sort env (nxt (incK g) 3)).2 k0 he1
 have k1 := hE.ok sort env (E sort env (nxt (incK g) 3)).2 k0 he1
 have l1 := hE.len sort env (E sort env (nxt (incK g) 3)).2 k0 he1
 refine PCB.of_body Tryd.func80 rfl (by decide) Tryd.ntmps80 Tryd.results80 rfl rfl rfl ?_ rfl rfl
 repeat' (first | (simp only [go_sem, zA, zB, zC, zD, zE, zF, zG, reduceCtorEq, zH, zI, zJ, zK, zL, Bx.puts, hD, nam_snoc, List.length_map, h0]; all_goals fail_if_success guard_target =ₛ False) | (with_reducible first | ((first | refine seqVC_stepN rfl ?_ | refine AWP.seq ?_ | refine AWP.seqR (by kernel_rfl) ?_); intro K hK) | ((first | refine hK _ _ _ ?_ | refine hK _ _ ?_ | refine hK _ ?_); clear hK K) | refine seqVC_nil ?_ | refine AWP.block ?_ | (refine AWP.cond (by with_unfolding_all rfl) ?_ ?_ <;> intro h <;> (try simp only [zM, zN] at h) <;> try exact absurd h (by decide)) | refine AWP.skip ?_ | refine AWP.ret ?_ | refine AWP.exit ?_ | (refine ⟨(by first | omega | (simp only [List.length_append, List.length_map, List.length_take, List.length_drop, List.length_cons, List.length_nil, List.length_replicate]; omega) : _ ≤ _), ?_⟩) | refine ⟨by omega, by omega, ?_⟩) | ( refine Or.inr ⟨_, _, _, fresh_c c g, ⟨rfl, rfl, trivial⟩, rfl, rfl, ?_⟩) | (refine ⟨1000001, _, _, _, draw_k 1000001 (incK g).s hg 3 (by omega), rfl, ?_⟩) | ( refine Or.inr ⟨_, _, _, r0, ⟨rfl, rfl, trivial⟩, rfl, rfl, ?_⟩) | ( refine Or.inr ⟨_, _, _, r1, ⟨rfl, rfl, trivial⟩, rfl, rfl, ?_⟩) | (with_reducible first | refine Or.inl ?_) | (clear hK K))
 all_goals (refine ⟨?_, fun x hx => hx⟩; first | rfl | (simp only [proc0V, List.append_assoc, List.cons_append, List.nil_append]))
def proc1V (E : Mk) (sort : Int) (env : List NamD) (g : Gn) : List UInt8 × Gn :=
 let a0 := E sort env (nxt (incK g) 3)
 let a1 := E 7 env a0.2
 let a2 := E sort env a1.2
 ([108, 101, 116, 32] ++ freshV g ++ [32, 61, 32, 115, 112, 97, 119, 110, 40, 102, 117, 110, 32, 40, 41, 32, 45, 62, 32] ++ a0.1 ++ [32, 101, 110, 100, 41, 32, 105, 110, 32, 108, 101, 116, 32, 95, 32, 61, 32, 115, 101, 110, 100, 40] ++ freshV g ++ [44, 32] ++ a1.1 ++ [41, 32, 105, 110, 32] ++ a2.1, a2.2)
theorem proc1_c (c : Cst) (D D1 : Int) (m L : Nat) (E : Mk) (hD : IntKind.i64.wrap (D - 1) = D1) (hE : Good c D1 (m + 1) L E) (hL : L ≤ 1000000) (g : Gn) (hg : g.s.ok) (sort : Int) (env : List NamD) (he : EOk m env) (hm : m ≤ 1000) (h0 : drawV (incK g).s 3 = 1) : PCB Tryd.prog 80 [Sp 1000000, I .i64 sort, I .i64 D, Envt env] (gB c g) (S (proc1V E sort env g).1) (gB c (proc1V E sort env g).2) := by
 have hmax : 10000000 ≤ maxLen := by unfold maxLen; omega
 have hlf := freshV_len g
 have he1 := he.mono (Nat.le_succ m)
 have hlen1 := he.len
 have hein := inV_len g he
 have hlen2 := hein.len
 have r0 := hE.run sort env (nxt (incK g) 3) (ok_nxt (g := incK g) hg 3) he1
 have k0 := hE.ok sort env (nxt (incK g) 3) (ok_nxt (g := incK g) hg 3) he1
 have l0 := hE.len sort env (nxt (incK g) 3) (ok_nxt (g := incK g) hg 3) he1
 have r1 := hE.run 7 env (E sort env (nxt (incK g) 3)).2 k0 he1
 have k1 := hE.ok 7 env (E sort env (nxt (incK g) 3)).2 k0 he1
 have l1 := hE.len 7 env (E sort env (nxt (incK g) 3)).2 k0 he1
 have r2 := hE.run sort env (E 7 env (E sort env (nxt (incK g) 3)).2).2 k1 he1
 have k2 := hE.ok sort env (E 7 env (E sort env (nxt (incK g) 3)).2).2 k1 he1
 have l2 := hE.len sort env (E 7 env (E sort env (nxt (incK g) 3)).2).2 k1 he1
 refine PCB.of_body Tryd.func80 rfl (by decide) Tryd.ntmps80 Tryd.results80 rfl rfl rfl ?_ rfl rfl
 repeat' (first | (simp only [go_sem, zA, zB, zC, zD, zE, zF, zG, reduceCtorEq, zH, zI, zJ, zK, zL, Bx.puts, hD, nam_snoc, List.length_map, h0]; all_goals fail_if_success guard_target =ₛ False) | (with_reducible first | ((first | refine seqVC_stepN rfl ?_ | refine AWP.seq ?_ | refine AWP.seqR (by kernel_rfl) ?_); intro K hK) | ((first | refine hK _ _ _ ?_ | refine hK _ _ ?_ | refine hK _ ?_); clear hK K) | refine seqVC_nil ?_ | refine AWP.block ?_ | (refine AWP.cond (by with_unfolding_all rfl) ?_ ?_ <;> intro h <;> (try simp only [zM, zN] at h) <;> try exact absurd h (by decide)) | refine AWP.skip ?_ | refine AWP.ret ?_ | refine AWP.exit ?_ | (refine ⟨(by first | omega | (simp only [List.length_append, List.length_map, List.length_take, List.length_drop, List.length_cons, List.length_nil, List.length_replicate]; omega) : _ ≤ _), ?_⟩) | refine ⟨by omega, by omega, ?_⟩) | ( refine Or.inr ⟨_, _, _, fresh_c c g, ⟨rfl, rfl, trivial⟩, rfl, rfl, ?_⟩) | (refine ⟨1000001, _, _, _, draw_k 1000001 (incK g).s hg 3 (by omega), rfl, ?_⟩) | ( refine Or.inr ⟨_, _, _, r0, ⟨rfl, rfl, trivial⟩, rfl, rfl, ?_⟩) | ( refine Or.inr ⟨_, _, _, r1, ⟨rfl, rfl, trivial⟩, rfl, rfl, ?_⟩) | ( refine Or.inr ⟨_, _, _, r2, ⟨rfl, rfl, trivial⟩, rfl, rfl, ?_⟩) | (with_reducible first | refine Or.inl ?_) | (clear hK K))
 all_goals (refine ⟨?_, fun x hx => hx⟩; first | rfl | (simp only [proc1V, List.append_assoc, List.cons_append, List.nil_append]))
def proc2V (E : Mk) (sort : Int) (env : List NamD) (g : Gn) : List UInt8 × Gn :=
 let a0 := E sort env (nxt (incK g) 3)
 let a1 := E sort env a0.2
 ([114, 101, 99, 101, 105, 118, 101, 32, 95, 32, 45, 62, 32] ++ a0.1 ++ [32, 97, 102, 116, 101, 114, 32] ++ a1.1 ++ [32, 101, 110, 100], a1.2)
theorem proc2_c (c : Cst) (D D1 : Int) (m L : Nat) (E : Mk) (hD : IntKind.i64.wrap (D - 1) = D1) (hE : Good c D1 (m + 1) L E) (hL : L ≤ 1000000) (g : Gn) (hg : g.s.ok) (sort : Int) (env : List NamD) (he : EOk m env) (hm : m ≤ 1000) (h0 : drawV (incK g).s 3 = 2) (hs : decide (sort = 0) = false) : PCB Tryd.prog 80 [Sp 1000000, I .i64 sort, I .i64 D, Envt env] (gB c g) (S (proc2V E sort env g).1) (gB c (proc2V E sort env g).2) := by
 have hmax : 10000000 ≤ maxLen := by unfold maxLen; omega
 have hlf := freshV_len g
 have he1 := he.mono (Nat.le_succ m)
 have hlen1 := he.len
 have hein := inV_len g he
 have hlen2 := hein.len
 have r0 := hE.run sort env (nxt (incK g) 3) (ok_nxt (g := incK g) hg 3) he1
 have k0 := hE.ok sort env (nxt (incK g) 3) (ok_nxt (g := incK g) hg 3) he1
 have l0 := hE.len sort env (nxt (incK g) 3) (ok_nxt (g := incK g) hg 3) he1
 have r1 := hE.run sort env (E sort env (nxt (incK g) 3)).2 k0 he1
 have k1 := hE.ok sort env (E sort env (nxt (incK g) 3)).2 k0 he1
 have l1 := hE.len sort env (E sort env (nxt (incK g) 3)).2 k0 he1
 refine PCB.of_body Tryd.func80 rfl (by decide) Tryd.ntmps80 Tryd.results80 rfl rfl rfl ?_ rfl rfl
 repeat' (first | (simp only [go_sem, zA, zB, zC, zD, zE, zF, zG, reduceCtorEq, zH, zI, zJ, zK, zL, Bx.puts, hD, nam_snoc, List.length_map, h0, hs]; all_goals fail_if_success guard_target =ₛ False) | (with_reducible first | ((first | refine seqVC_stepN rfl ?_ | refine AWP.seq ?_ | refine AWP.seqR (by kernel_rfl) ?_); intro K hK) | ((first | refine hK _ _ _ ?_ | refine hK _ _ ?_ | refine hK _ ?_); clear hK K) | refine seqVC_nil ?_ | refine AWP.block ?_ | (refine AWP.cond (by with_unfolding_all rfl) ?_ ?_ <;> intro h <;> (try simp only [zM, zN] at h) <;> try exact absurd h (by decide)) | refine AWP.skip ?_ | refine AWP.ret ?_ | refine AWP.exit ?_ | (refine ⟨(by first | omega | (simp only [List.length_append, List.length_map, List.length_take, List.length_drop, List.length_cons, List.length_nil, List.length_replicate]; omega) : _ ≤ _), ?_⟩) | refine ⟨by omega, by omega, ?_⟩) | ( refine Or.inr ⟨_, _, _, fresh_c c g, ⟨rfl, rfl, trivial⟩, rfl, rfl, ?_⟩) | (refine ⟨1000001, _, _, _, draw_k 1000001 (incK g).s hg 3 (by omega), rfl, ?_⟩) | ( refine Or.inr ⟨_, _, _, r0, ⟨rfl, rfl, trivial⟩, rfl, rfl, ?_⟩) | ( refine Or.inr ⟨_, _, _, r1, ⟨rfl, rfl, trivial⟩, rfl, rfl, ?_⟩) | (with_reducible first | refine Or.inl ?_) | (clear hK K))
 all_goals (refine ⟨?_, fun x hx => hx⟩; first | rfl | (simp only [proc2V, List.append_assoc, List.cons_append, List.nil_append]))
def proc3V (E : Mk) (sort : Int) (env : List NamD) (g : Gn) : List UInt8 × Gn :=
 let a0 := E 0 (inV env g) (nxt (incK g) 3)
 let a1 := E 0 env a0.2
 ([114, 101, 99, 101, 105, 118, 101, 32] ++ freshV g ++ [32, 119, 104, 101, 110, 32, 105, 115, 95, 105, 110, 116, 40] ++ freshV g ++ [41, 32, 45, 62, 32] ++ a0.1 ++ [32, 97, 102, 116, 101, 114, 32] ++ a1.1 ++ [32, 101, 110, 100], a1.2)
theorem proc3_c (c : Cst) (D D1 : Int) (m L : Nat) (E : Mk) (hD : IntKind.i64.wrap (D - 1) = D1) (hE : Good c D1 (m + 1) L E) (hL : L ≤ 1000000) (g : Gn) (hg : g.s.ok) (sort : Int) (env : List NamD) (he : EOk m env) (hm : m ≤ 1000) (h0 : drawV (incK g).s 3 = 2) (hs : sort = 0) : PCB Tryd.prog 80 [Sp 1000000, I .i64 sort, I .i64 D, Envt env] (gB c g) (S (proc3V E sort env g).1) (gB c (proc3V E sort env g).2) := by
 subst hs
 have hmax : 10000000 ≤ maxLen := by unfold maxLen; omega
 have hlf := freshV_len g
 have he1 := he.mono (Nat.le_succ m)
 have hlen1 := he.len
 have hein := inV_len g he
 have hlen2 := hein.len
 have r0 := hE.run 0 (inV env g) (nxt (incK g) 3) (ok_nxt (g := incK g) hg 3) hein
 have k0 := hE.ok 0 (inV env g) (nxt (incK g) 3) (ok_nxt (g := incK g) hg 3) hein
 have l0 := hE.len 0 (inV env g) (nxt (incK g) 3) (ok_nxt (g := incK g) hg 3) hein
 have r1 := hE.run 0 env (E 0 (inV env g) (nxt (incK g) 3)).2 k0 he1
 have k1 := hE.ok 0 env (E 0 (inV env g) (nxt (incK g) 3)).2 k0 he1
 have l1 := hE.len 0 env (E 0 (inV env g) (nxt (incK g) 3)).2 k0 he1
 refine PCB.of_body Tryd.func80 rfl (by decide) Tryd.ntmps80 Tryd.results80 rfl rfl rfl ?_ rfl rfl
 repeat' (first | (refine atR 10 (Gh.freeze 88 (by rfl) (by rfl) (by simp only [go_sem, zA, zB, zC, zD, zE, zF, zG, reduceCtorEq, zH, zI, zJ, zK, zL, Bx.puts, hD, nam_snoc, List.length_map, h0, List.length_map]) (by simp only [go_sem, zA, zB, zC, zD, zE, zF, zG, reduceCtorEq, zH, zI, zJ, zK, zL, Bx.puts, hD, nam_snoc, List.length_map, h0, List.length_map])) ?_; simp only [frE, frB, Bx.drop, go_sem, zA, zB, zC, zD, zE, zF, zG, reduceCtorEq, zH, zI, zJ, zK, zL, Bx.puts, hD, nam_snoc, List.length_map, h0]) | (simp only [go_sem, zA, zB, zC, zD, zE, zF, zG, reduceCtorEq, zH, zI, zJ, zK, zL, Bx.puts, hD, nam_snoc, List.length_map, h0]; all_goals fail_if_success guard_target =ₛ False) | (with_reducible first | ((first | refine seqVC_stepN rfl ?_ | refine AWP.seq ?_ | refine AWP.seqR (by kernel_rfl) ?_); intro K hK) | ((first | refine hK _ _ _ ?_ | refine hK _ _ ?_ | refine hK _ ?_); clear hK K) | refine seqVC_nil ?_ | refine AWP.block ?_ | (refine AWP.cond (by with_unfolding_all rfl) ?_ ?_ <;> intro h <;> (try simp only [zM, zN] at h) <;> try exact absurd h (by decide)) | refine AWP.skip ?_ | refine AWP.ret ?_ | refine AWP.exit ?_ | (refine ⟨(by first | omega | (simp only [List.length_append, List.length_map, List.length_take, List.length_drop, List.length_cons, List.length_nil, List.length_replicate]; omega) : _ ≤ _), ?_⟩) | refine ⟨by omega, by omega, ?_⟩) | ( refine Or.inr ⟨_, _, _, fresh_c c g, ⟨rfl, rfl, trivial⟩, rfl, rfl, ?_⟩) | (refine ⟨1000001, _, _, _, draw_k 1000001 (incK g).s hg 3 (by omega), rfl, ?_⟩) | ( refine Or.inr ⟨_, _, _, r0, ⟨rfl, rfl, trivial⟩, rfl, rfl, ?_⟩) | ( refine Or.inr ⟨_, _, _, r1, ⟨rfl, rfl, trivial⟩, rfl, rfl, ?_⟩) | (with_reducible first | refine Or.inl ?_) | (clear hK K))
 all_goals (refine ⟨?_, fun x hx => hx⟩; first | rfl | (simp only [proc3V, List.append_assoc, List.cons_append, List.nil_append]))
def specialV (E : Mk) (sort : Int) (env : List NamD) (g : Gn) : List UInt8 × Gn :=
 bif decide (sort = 0) then
  bif decide (drawV g.s 4 = 0) then addV E env g else bif decide (drawV g.s 4 = 1) then getV E env g else bif decide (drawV g.s 4 = 2) then applyV E env g else assertV E env g
 else bif decide (sort = 1) then
  bif decide (drawV g.s 3 = 0) then lessV E env g else bif decide (drawV g.s 3 = 1) then eqlV E env g else notV E env g
 else bif decide (sort = 3) then consV E env g
 else bif decide (sort = 4) then pairV E env g
 else bif decide (sort = 5) then funV E env g
 else bif decide (sort = 6) then putV E env g
 else bif decide (sort = 7) then thingV E env g
 else leafV sort env g
theorem special_leaf (c : Cst) (D : Int) (g : Gn) (hg : g.s.ok) (sort : Int) (env : List NamD) (he : env.length ≤ 1000) (h0 : decide (sort = 0) = false) (h1 : decide (sort = 1) = false) (h3 : decide (sort = 3) = false) (h4 : decide (sort = 4) = false) (h5 : decide (sort = 5) = false) (h6 : decide (sort = 6) = false) (h7 : decide (sort = 7) = false) : PCB Tryd.prog 81 [Sp 1000000, I .i64 sort, I .i64 D, Envt env] (gB c g) (S (leafV sort env g).1) (gB c (leafV sort env g).2) := by
 have r0 := leaf_c c g hg sort env he
 refine PCB.of_body Tryd.func81 rfl (by decide) Tryd.ntmps81 Tryd.results81 rfl rfl rfl ?_ rfl rfl
 repeat' (first | (simp only [go_sem, zA, zB, zC, zD, zE, zF, zG, reduceCtorEq, zH, zI, zJ, zK, zL, Bx.puts, h0, h1, h3, h4, h5, h6, h7]; all_goals fail_if_success guard_target =ₛ False) | (with_reducible first | ((first | refine seqVC_stepN rfl ?_ | refine AWP.seq ?_ | refine AWP.seqR (by kernel_rfl) ?_ | refine parVC_stepN rfl ?_ | refine parEVC_stepN rfl ?_ | refine genVC_stepN rfl ?_); intro K hK) | ((first | refine hK _ _ _ ?_ | refine hK _ _ ?_ | refine hK _ ?_); clear hK K) | refine seqVC_nil ?_ | refine parVC_nil ?_ | refine parEVC_nil ?_ | refine genVC_nil ?_ | refine AWP.block ?_ | (refine AWP.cond (by with_unfolding_all rfl) ?_ ?_ <;> intro h <;> (try simp only [zM, zN] at h) <;> try exact absurd h (by decide)) | refine AWP.skip ?_ | refine AWP.ret ?_ | refine AWP.exit ?_) | ( refine Or.inr ⟨_, _, _, r0, ⟨rfl, rfl, trivial⟩, rfl, rfl, ?_⟩) | (with_reducible first | refine AWP.parR mixed (by kernel_rfl) fun K hK => ?_ | refine ⟨(by kernel_rfl : depB _ _ _ = true), ?_⟩ | refine Or.inl ?_) | (clear hK K))
 all_goals first | exact fun x hx => hx | exact ⟨rfl, fun x hx => hx⟩
theorem special_c (c : Cst) (D D1 : Int) (m L : Nat) (E : Mk) (hD : IntKind.i64.wrap (D - 1) = D1) (hE : Good c D1 (m + 1) L E) (hL : L ≤ 1000000) (g : Gn) (hg : g.s.ok) (sort : Int) (env : List NamD) (he : EOk m env) (hm : m ≤ 900) : PCB Tryd.prog 81 [Sp 1000000, I .i64 sort, I .i64 D, Envt env] (gB c g) (S (specialV E sort env g).1) (gB c (specialV E sort env g).2) := by
 have hv4 := drawV_in g.s (n := 4) (by omega)
 have hv3 := drawV_in g.s (n := 3) (by omega)
 have he1 := he.mono (Nat.le_succ m)
 have hm1 : m + 1 ≤ 1000 := by omega
 unfold specialV
 cases h0 : decide (sort = 0) with
 | true =>
  obtain rfl : sort = 0 := by simpa using h0
  cases a0 : decide (drawV g.s 4 = 0) with
  | true => exact add_c c D D1 (m + 1) L E hD hE hL g hg env he1 hm1 (by simpa using a0)
  | false =>
   cases a1 : decide (drawV g.s 4 = 1) with
   | true => exact get_c c D D1 (m + 1) L E hD hE hL g hg env he1 hm1 (by simpa using a1)
   | false =>
    cases a2 : decide (drawV g.s 4 = 2) with
    | true => exact apply_c c D D1 (m + 1) L E hD hE hL g hg env he1 hm1 (by simpa using a2)
    | false =>
     simp only [decide_eq_false_iff_not] at a0 a1 a2
     exact assert_c c D D1 (m + 1) L E hD hE hL g hg env he1 hm1 (by omega)
 | false =>
  cases h1 : decide (sort = 1) with
  | true =>
   obtain rfl : sort = 1 := by simpa using h1
   cases a0 : decide (drawV g.s 3 = 0) with
   | true => exact less_c c D D1 (m + 1) L E hD hE hL g hg env he1 hm1 (by simpa using a0)
   | false =>
    cases a1 : decide (drawV g.s 3 = 1) with
    | true => exact eql_c c D D1 (m + 1) L E hD hE hL g hg env he1 hm1 (by simpa using a1)
    | false =>
     simp only [decide_eq_false_iff_not] at a0 a1
     exact not_c c D D1 (m + 1) L E hD hE hL g hg env he1 hm1 (by omega)
  | false =>
   cases h3 : decide (sort = 3) with
   | true =>
    obtain rfl : sort = 3 := by simpa using h3
    exact cons_c c D D1 (m + 1) L E hD hE hL g hg env he1 hm1
   | false =>
    cases h4 : decide (sort = 4) with
    | true =>
     obtain rfl : sort = 4 := by simpa using h4
     exact pair_c c D D1 (m + 1) L E hD hE hL g hg env he1 hm1
    | false =>
     cases h5 : decide (sort = 5) with
     | true =>
      obtain rfl : sort = 5 := by simpa using h5
      exact fun_c c D D1 m L E hD hE hL g hg env he (by omega)
     | false =>
      cases h6 : decide (sort = 6) with
      | true =>
       obtain rfl : sort = 6 := by simpa using h6
       exact put_c c D D1 (m + 1) L E hD hE hL g hg env he1 hm1
      | false =>
       cases h7 : decide (sort = 7) with
       | true =>
        obtain rfl : sort = 7 := by simpa using h7
        exact thing_c c D D1 (m + 1) L E hD hE hL g hg env he1 hm1
       | false => exact special_leaf c D g hg sort env (by have := he.len; omega) h0 h1 h3 h4 h5 h6 h7
/-- a text and the maker behind it are as they should be -/
def Fine (L : Nat) (r : List UInt8 × Gn) : Prop := r.2.s.ok ∧ r.1.length ≤ L
theorem bif_fine {K : Nat} (b : Bool) {x y : List UInt8 × Gn} (hx : Fine K x) (hy : Fine K y) : Fine K (bif b then x else y) := by cases b <;> assumption
theorem leafV_fine (sort : Int) (env : List NamD) (g : Gn) (hg : g.s.ok) (K : Nat) (hK : 200 ≤ K) (hen : ∀ x ∈ env, x.text.length ≤ K) : Fine K (leafV sort env g) := by
 have hS : ∀ g : Gn, g.s.ok → Fine K (leafS sort g) := by
  intro g hg
  have hv2 := lit_len boolL (by decide) (drawV_in g.s (n := 2) (by omega))
  have hv3 := lit_len listL (by decide) (drawV_in g.s (n := 3) (by omega))
  have hv6 := lit_len thingL (by decide) (drawV_in g.s (n := 6) (by omega))
  have h1 := atomV_len g.s
  have h2 := smallV_len g
  have h3 := smallV_len (nxt g 4)
  have h4 := smallV_len (incK g)
  have h5 := freshV_len g
  unfold leafS
  repeat' refine bif_fine _ ?_ ?_
  all_goals (refine ⟨?_, ?_⟩)
  all_goals (first | exact ok_nxt hg _ | exact ok_nxt (ok_nxt hg _) _ | exact ok_nxt (g := incK g) hg _ | (simp only [List.length_append, List.length_cons, List.length_nil]; omega) | (simp only; omega))
 unfold leafV
 cases h0 : decide (0 < ((ofV env sort).length : Int)) with
 | false => exact hS g hg
 | true =>
  cases decide (0 < drawV g.s 4) with
  | false => exact hS _ (ok_nxt hg _)
  | true =>
   have hl : 0 < ((ofV env sort).length : Int) := by simpa using h0
   have hv := drawV_in (nxt g 4).s (n := ((ofV env sort).length : Int)) (by omega)
   refine ⟨ok_nxt (ok_nxt hg _) _, ?_⟩
   simp only [cond_true]
   rw [List.getD_eq_getElem?_getD, List.getElem?_eq_getElem (show (drawV (nxt g 4).s ((ofV env sort).length : Int)).toNat < (ofV env sort).length by omega)]
   have := List.getElem_mem (l := ofV env sort) (show (drawV (nxt g 4).s ((ofV env sort).length : Int)).toNat < (ofV env sort).length by omega)
   obtain ⟨y, hy, e⟩ := List.mem_map.1 this
   rw [Option.getD_some, ← e]
   exact hen y (List.mem_filter.1 hy).1
def branchV (E : Mk) (sort : Int) (env : List NamD) (g : Gn) : List UInt8 × Gn :=
 bif decide (drawV (incK g).s 5 = 0) then tryV E sort env g
 else bif decide (drawV (nxt (incK g) 5).s 4 = 0) then case0V E sort env g
 else bif decide (drawV (nxt (incK g) 5).s 4 = 1) then case1V E sort env g
 else bif decide (drawV (nxt (incK g) 5).s 4 = 2) then case2V E sort env g else case3V E sort env g
theorem branch_c (c : Cst) (D D1 : Int) (m L : Nat) (E : Mk) (hD : IntKind.i64.wrap (D - 1) = D1) (hE : Good c D1 (m + 1) L E) (hL : L ≤ 1000000) (g : Gn) (hg : g.s.ok) (sort : Int) (env : List NamD) (he : EOk m env) (hm : m ≤ 900) : PCB Tryd.prog 79 [Sp 1000000, I .i64 sort, I .i64 D, Envt env] (gB c g) (S (branchV E sort env g).1) (gB c (branchV E sort env g).2) := by
 have hv4 := drawV_in (nxt (incK g) 5).s (n := 4) (by omega)
 have hm1 : m ≤ 1000 := by omega
 unfold branchV
 cases a : decide (drawV (incK g).s 5 = 0) with
 | true => exact try_c c D D1 m L E hD hE hL g hg sort env he hm1 (by simpa using a)
 | false =>
  cases a0 : decide (drawV (nxt (incK g) 5).s 4 = 0) with
  | true => exact case0_c c D D1 m L E hD hE hL g hg sort env he hm1 a (by simpa using a0)
  | false =>
   cases a1 : decide (drawV (nxt (incK g) 5).s 4 = 1) with
   | true => exact case1_c c D D1 m L E hD hE hL g hg sort env he hm1 a (by simpa using a1)
   | false =>
    cases a2 : decide (drawV (nxt (incK g) 5).s 4 = 2) with
    | true => exact case2_c c D D1 m L E hD hE hL g hg sort env he hm1 a (by simpa using a2)
    | false =>
     simp only [decide_eq_false_iff_not] at a0 a1 a2
     exact case3_c c D D1 m L E hD hE hL g hg sort env he hm1 a (by omega)
def processV (E : Mk) (sort : Int) (env : List NamD) (g : Gn) : List UInt8 × Gn :=
 bif decide (drawV (incK g).s 3 = 0) then proc0V E sort env g
 else bif decide (drawV (incK g).s 3 = 1) then proc1V E sort env g
 else bif decide (sort = 0) then proc3V E sort env g else proc2V E sort env g
theorem process_c (c : Cst) (D D1 : Int) (m L : Nat) (E : Mk) (hD : IntKind.i64.wrap (D - 1) = D1) (hE : Good c D1 (m + 1) L E) (hL : L ≤ 1000000) (g : Gn) (hg : g.s.ok) (sort : Int) (env : List NamD) (he : EOk m env) (hm : m ≤ 900) : PCB Tryd.prog 80 [Sp 1000000, I .i64 sort, I .i64 D, Envt env] (gB c g) (S (processV E sort env g).1) (gB c (processV E sort env g).2) := by
 have hv3 := drawV_in (incK g).s (n := 3) (by omega)
 have hm1 : m ≤ 1000 := by omega
 unfold processV
 cases a0 : decide (drawV (incK g).s 3 = 0) with
 | true => exact proc0_c c D D1 m L E hD hE hL g hg sort env he hm1 (by simpa using a0)
 | false =>
  cases a1 : decide (drawV (incK g).s 3 = 1) with
  | true => exact proc1_c c D D1 m L E hD hE hL g hg sort env he hm1 (by simpa using a1)
  | false =>
   simp only [decide_eq_false_iff_not] at a0 a1
   cases a2 : decide (sort = 0) with
   | true => exact proc3_c c D D1 m L E hD hE hL g hg sort env he hm1 (by omega) (by simpa using a2)
   | false => exact proc2_c c D D1 m L E hD hE hL g hg sort env he hm1 (by omega) a2
theorem addV_fine {c : Cst} {D : Int} {m L : Nat} {E : Mk} (hE : Good c D m L E) (g : Gn) (hg : g.s.ok) (env : List NamD) (he : EOk m env) : Fine (3 * L + 1000) (addV E env g) := by
 have k0 := hE.ok 0 env (nxt g 4) (ok_nxt hg 4) he
 have l0 := hE.len 0 env (nxt g 4) (ok_nxt hg 4) he
 have hvl := lit_len opL (by decide) (drawV_in (E 0 env (nxt g 4)).2.s (n := 5) (by omega))
 have k1 := hE.ok 0 env (nxt (E 0 env (nxt g 4)).2 5) (ok_nxt k0 5) he
 have l1 := hE.len 0 env (nxt (E 0 env (nxt g 4)).2 5) (ok_nxt k0 5) he
 exact ⟨k1, by simp only [addV, List.length_append, List.length_cons, List.length_nil]; omega⟩
theorem getV_fine {c : Cst} {D : Int} {m L : Nat} {E : Mk} (hE : Good c D m L E) (g : Gn) (hg : g.s.ok) (env : List NamD) (he : EOk m env) : Fine (3 * L + 1000) (getV E env g) := by
 have k0 := hE.ok 6 env (nxt g 4) (ok_nxt hg 4) he
 have l0 := hE.len 6 env (nxt g 4) (ok_nxt hg 4) he
 exact ⟨k0, by simp only [getV, List.length_append, List.length_cons, List.length_nil]; omega⟩
theorem applyV_fine {c : Cst} {D : Int} {m L : Nat} {E : Mk} (hE : Good c D m L E) (g : Gn) (hg : g.s.ok) (env : List NamD) (he : EOk m env) : Fine (3 * L + 1000) (applyV E env g) := by
 have k0 := hE.ok 5 env (nxt g 4) (ok_nxt hg 4) he
 have l0 := hE.len 5 env (nxt g 4) (ok_nxt hg 4) he
 have k1 := hE.ok 0 env (E 5 env (nxt g 4)).2 k0 he
 have l1 := hE.len 0 env (E 5 env (nxt g 4)).2 k0 he
 exact ⟨k1, by simp only [applyV, List.length_append, List.length_cons, List.length_nil]; omega⟩
theorem assertV_fine {c : Cst} {D : Int} {m L : Nat} {E : Mk} (hE : Good c D m L E) (g : Gn) (hg : g.s.ok) (env : List NamD) (he : EOk m env) : Fine (3 * L + 1000) (assertV E env g) := by
 have k0 := hE.ok 0 env (nxt g 4) (ok_nxt hg 4) he
 have l0 := hE.len 0 env (nxt g 4) (ok_nxt hg 4) he
 exact ⟨k0, by simp only [assertV, List.length_append, List.length_cons, List.length_nil]; omega⟩
theorem lessV_fine {c : Cst} {D : Int} {m L : Nat} {E : Mk} (hE : Good c D m L E) (g : Gn) (hg : g.s.ok) (env : List NamD) (he : EOk m env) : Fine (3 * L + 1000) (lessV E env g) := by
 have k0 := hE.ok 0 env (nxt g 3) (ok_nxt hg 3) he
 have l0 := hE.len 0 env (nxt g 3) (ok_nxt hg 3) he
 have k1 := hE.ok 0 env (E 0 env (nxt g 3)).2 k0 he
 have l1 := hE.len 0 env (E 0 env (nxt g 3)).2 k0 he
 exact ⟨k1, by simp only [lessV, List.length_append, List.length_cons, List.length_nil]; omega⟩
theorem eqlV_fine {c : Cst} {D : Int} {m L : Nat} {E : Mk} (hE : Good c D m L E) (g : Gn) (hg : g.s.ok) (env : List NamD) (he : EOk m env) : Fine (3 * L + 1000) (eqlV E env g) := by
 have k0 := hE.ok 7 env (nxt g 3) (ok_nxt hg 3) he
 have l0 := hE.len 7 env (nxt g 3) (ok_nxt hg 3) he
 have k1 := hE.ok 7 env (E 7 env (nxt g 3)).2 k0 he
 have l1 := hE.len 7 env (E 7 env (nxt g 3)).2 k0 he
 exact ⟨k1, by simp only [eqlV, List.length_append, List.length_cons, List.length_nil]; omega⟩
theorem notV_fine {c : Cst} {D : Int} {m L : Nat} {E : Mk} (hE : Good c D m L E) (g : Gn) (hg : g.s.ok) (env : List NamD) (he : EOk m env) : Fine (3 * L + 1000) (notV E env g) := by
 have k0 := hE.ok 1 env (nxt g 3) (ok_nxt hg 3) he
 have l0 := hE.len 1 env (nxt g 3) (ok_nxt hg 3) he
 exact ⟨k0, by simp only [notV, List.length_append, List.length_cons, List.length_nil]; omega⟩
theorem consV_fine {c : Cst} {D : Int} {m L : Nat} {E : Mk} (hE : Good c D m L E) (g : Gn) (hg : g.s.ok) (env : List NamD) (he : EOk m env) : Fine (3 * L + 1000) (consV E env g) := by
 have k0 := hE.ok 0 env g hg he
 have l0 := hE.len 0 env g hg he
 have k1 := hE.ok 3 env (E 0 env g).2 k0 he
 have l1 := hE.len 3 env (E 0 env g).2 k0 he
 exact ⟨k1, by simp only [consV, List.length_append, List.length_cons, List.length_nil]; omega⟩
theorem pairV_fine {c : Cst} {D : Int} {m L : Nat} {E : Mk} (hE : Good c D m L E) (g : Gn) (hg : g.s.ok) (env : List NamD) (he : EOk m env) : Fine (3 * L + 1000) (pairV E env g) := by
 have k0 := hE.ok 2 env g hg he
 have l0 := hE.len 2 env g hg he
 have k1 := hE.ok 0 env (E 2 env g).2 k0 he
 have l1 := hE.len 0 env (E 2 env g).2 k0 he
 exact ⟨k1, by simp only [pairV, List.length_append, List.length_cons, List.length_nil]; omega⟩
theorem putV_fine {c : Cst} {D : Int} {m L : Nat} {E : Mk} (hE : Good c D m L E) (g : Gn) (hg : g.s.ok) (env : List NamD) (he : EOk m env) : Fine (3 * L + 1000) (putV E env g) := by
 have k0 := hE.ok 6 env g hg he
 have l0 := hE.len 6 env g hg he
 have hvl := lit_len putL (by decide) (drawV_in (E 6 env g).2.s (n := 3) (by omega))
 have k1 := hE.ok 0 env (nxt (E 6 env g).2 3) (ok_nxt k0 3) he
 have l1 := hE.len 0 env (nxt (E 6 env g).2 3) (ok_nxt k0 3) he
 exact ⟨k1, by simp only [putV, List.length_append, List.length_cons, List.length_nil]; omega⟩
theorem thingV_fine {c : Cst} {D : Int} {m L : Nat} {E : Mk} (hE : Good c D m L E) (g : Gn) (hg : g.s.ok) (env : List NamD) (he : EOk m env) : Fine (3 * L + 1000) (thingV E env g) := by
 have k0 := hE.ok 7 env g hg he
 have l0 := hE.len 7 env g hg he
 have k1 := hE.ok 7 env (E 7 env g).2 k0 he
 have l1 := hE.len 7 env (E 7 env g).2 k0 he
 exact ⟨k1, by simp only [thingV, List.length_append, List.length_cons, List.length_nil]; omega⟩
theorem tryV_fine {c : Cst} {D : Int} {m L : Nat} {E : Mk} (hE : Good c D (m + 1) L E) (g : Gn) (hg : g.s.ok) (sort : Int) (env : List NamD) (he : EOk m env) : Fine (3 * L + 1000) (tryV E sort env g) := by
 have hlf := freshV_len g
 have he1 := he.mono (Nat.le_succ m)
 have hein := inV_len g he
 have k0 := hE.ok sort env (nxt (incK g) 5) (ok_nxt (g := incK g) hg 5) he1
 have l0 := hE.len sort env (nxt (incK g) 5) (ok_nxt (g := incK g) hg 5) he1
 have k1 := hE.ok sort env (E sort env (nxt (incK g) 5)).2 k0 he1
 have l1 := hE.len sort env (E sort env (nxt (incK g) 5)).2 k0 he1
 exact ⟨k1, by simp only [tryV, List.length_append, List.length_cons, List.length_nil]; omega⟩
theorem case0V_fine {c : Cst} {D : Int} {m L : Nat} {E : Mk} (hE : Good c D (m + 1) L E) (g : Gn) (hg : g.s.ok) (sort : Int) (env : List NamD) (he : EOk m env) : Fine (3 * L + 1000) (case0V E sort env g) := by
 have hlf := freshV_len g
 have he1 := he.mono (Nat.le_succ m)
 have hein := inV_len g he
 have k0 := hE.ok 0 env (nxt (nxt (incK g) 5) 4) (ok_nxt (ok_nxt (g := incK g) hg 5) 4) he1
 have l0 := hE.len 0 env (nxt (nxt (incK g) 5) 4) (ok_nxt (ok_nxt (g := incK g) hg 5) 4) he1
 have ls := smallV_len (E 0 env (nxt (nxt (incK g) 5) 4)).2
 have k1 := hE.ok sort env (nxt (E 0 env (nxt (nxt (incK g) 5) 4)).2 7) (ok_nxt k0 7) he1
 have l1 := hE.len sort env (nxt (E 0 env (nxt (nxt (incK g) 5) 4)).2 7) (ok_nxt k0 7) he1
 have k2 := hE.ok sort (inV env g) (E sort env (nxt (E 0 env (nxt (nxt (incK g) 5) 4)).2 7)).2 k1 hein
 have l2 := hE.len sort (inV env g) (E sort env (nxt (E 0 env (nxt (nxt (incK g) 5) 4)).2 7)).2 k1 hein
 exact ⟨k2, by simp only [case0V, List.length_append, List.length_cons, List.length_nil]; omega⟩
theorem case1V_fine {c : Cst} {D : Int} {m L : Nat} {E : Mk} (hE : Good c D (m + 1) L E) (g : Gn) (hg : g.s.ok) (sort : Int) (env : List NamD) (he : EOk m env) : Fine (3 * L + 1000) (case1V E sort env g) := by
 have hlf := freshV_len g
 have he1 := he.mono (Nat.le_succ m)
 have hein := inV_len g he
 have k0 := hE.ok 3 env (nxt (nxt (incK g) 5) 4) (ok_nxt (ok_nxt (g := incK g) hg 5) 4) he1
 have l0 := hE.len 3 env (nxt (nxt (incK g) 5) 4) (ok_nxt (ok_nxt (g := incK g) hg 5) 4) he1
 have k1 := hE.ok sort env (E 3 env (nxt (nxt (incK g) 5) 4)).2 k0 he1
 have l1 := hE.len sort env (E 3 env (nxt (nxt (incK g) 5) 4)).2 k0 he1
 have k2 := hE.ok sort (inV env g) (E sort env (E 3 env (nxt (nxt (incK g) 5) 4)).2).2 k1 hein
 have l2 := hE.len sort (inV env g) (E sort env (E 3 env (nxt (nxt (incK g) 5) 4)).2).2 k1 hein
 exact ⟨k2, by simp only [case1V, List.length_append, List.length_cons, List.length_nil]; omega⟩
theorem case2V_fine {c : Cst} {D : Int} {m L : Nat} {E : Mk} (hE : Good c D (m + 1) L E) (g : Gn) (hg : g.s.ok) (sort : Int) (env : List NamD) (he : EOk m env) : Fine (3 * L + 1000) (case2V E sort env g) := by
 have hlf := freshV_len g
 have he1 := he.mono (Nat.le_succ m)
 have hein := inV_len g he
 have k0 := hE.ok 4 env (nxt (nxt (incK g) 5) 4) (ok_nxt (ok_nxt (g := incK g) hg 5) 4) he1
 have l0 := hE.len 4 env (nxt (nxt (incK g) 5) 4) (ok_nxt (ok_nxt (g := incK g) hg 5) 4) he1
 have k1 := hE.ok sort (inV env g) (E 4 env (nxt (nxt (incK g) 5) 4)).2 k0 hein
 have l1 := hE.len sort (inV env g) (E 4 env (nxt (nxt (incK g) 5) 4)).2 k0 hein
 have k2 := hE.ok sort env (E sort (inV env g) (E 4 env (nxt (nxt (incK g) 5) 4)).2).2 k1 he1
 have l2 := hE.len sort env (E sort (inV env g) (E 4 env (nxt (nxt (incK g) 5) 4)).2).2 k1 he1
 exact ⟨k2, by simp only [case2V, List.length_append, List.length_cons, List.length_nil]; omega⟩
theorem case3V_fine {c : Cst} {D : Int} {m L : Nat} {E : Mk} (hE : Good c D (m + 1) L E) (g : Gn) (hg : g.s.ok) (sort : Int) (env : List NamD) (he : EOk m env) : Fine (3 * L + 1000) (case3V E sort env g) := by
 have hlf := freshV_len g
 have he1 := he.mono (Nat.le_succ m)
 have hein := inV_len g he
 have k0 := hE.ok 7 env (nxt (nxt (incK g) 5) 4) (ok_nxt (ok_nxt (g := incK g) hg 5) 4) he1
 have l0 := hE.len 7 env (nxt (nxt (incK g) 5) 4) (ok_nxt (ok_nxt (g := incK g) hg 5) 4) he1
 have k1 := hE.ok sort (inV env g) (E 7 env (nxt (nxt (incK g) 5) 4)).2 k0 hein
 have l1 := hE.len sort (inV env g) (E 7 env (nxt (nxt (incK g) 5) 4)).2 k0 hein
 have k2 := hE.ok sort env (E sort (inV env g) (E 7 env (nxt (nxt (incK g) 5) 4)).2).2 k1 he1
 have l2 := hE.len sort env (E sort (inV env g) (E 7 env (nxt (nxt (incK g) 5) 4)).2).2 k1 he1
 exact ⟨k2, by simp only [case3V, List.length_append, List.length_cons, List.length_nil]; omega⟩
theorem proc0V_fine {c : Cst} {D : Int} {m L : Nat} {E : Mk} (hE : Good c D (m + 1) L E) (g : Gn) (hg : g.s.ok) (sort : Int) (env : List NamD) (he : EOk m env) : Fine (3 * L + 1000) (proc0V E sort env g) := by
 have hlf := freshV_len g
 have he1 := he.mono (Nat.le_succ m)
 have hein := inV_len g he
 have k0 := hE.ok sort env (nxt (incK g) 3) (ok_nxt (g := incK g) hg 3) he1
 have l0 := hE.len sort env (nxt (incK g) 3) (ok_nxt (g := incK g) hg 3) he1
 have k1 := hE.ok sort env (E sort env (nxt (incK g) 3)).2 k0 he1
 have l1 := hE.len sort env (E sort env (nxt (incK g) 3)).2 k0 he1
 exact ⟨k1, by simp only [proc0V, List.length_append, List.length_cons, List.length_nil]; omega⟩
theorem proc1V_fine {c : Cst} {D : Int} {m L : Nat} {E : Mk} (hE : Good c D (m + 1) L E) (g : Gn) (hg : g.s.ok) (sort : Int) (env : List NamD) (he : EOk m env) : Fine (3 * L + 1000) (proc1V E sort env g) := by
 have hlf := freshV_len g
 have he1 := he.mono (Nat.le_succ m)
 have hein := inV_len g he
 have k0 := hE.ok sort env (nxt (incK g) 3) (ok_nxt (g := incK g) hg 3) he1
 have l0 := hE.len sort env (nxt (incK g) 3) (ok_nxt (g := incK g) hg 3) he1
 have k1 := hE.ok 7 env (E sort env (nxt (incK g) 3)).2 k0 he1
 have l1 := hE.len 7 env (E sort env (nxt (incK g) 3)).2 k0 he1
 have k2 := hE.ok sort env (E 7 env (E sort env (nxt (incK g) 3)).2).2 k1 he1
 have l2 := hE.len sort env (E 7 env (E sort env (nxt (incK g) 3)).2).2 k1 he1
 exact ⟨k2, by simp only [proc1V, List.length_append, List.length_cons, List.length_nil]; omega⟩
theorem proc2V_fine {c : Cst} {D : Int} {m L : Nat} {E : Mk} (hE : Good c D (m + 1) L E) (g : Gn) (hg : g.s.ok) (sort : Int) (env : List NamD) (he : EOk m env) : Fine (3 * L + 1000) (proc2V E sort env g) := by
 have hlf := freshV_len g
 have he1 := he.mono (Nat.le_succ m)
 have hein := inV_len g he
 have k0 := hE.ok sort env (nxt (incK g) 3) (ok_nxt (g := incK g) hg 3) he1
 have l0 := hE.len sort env (nxt (incK g) 3) (ok_nxt (g := incK g) hg 3) he1
 have k1 := hE.ok sort env (E sort env (nxt (incK g) 3)).2 k0 he1
 have l1 := hE.len sort env (E sort env (nxt (incK g) 3)).2 k0 he1
 exact ⟨k1, by simp only [proc2V, List.length_append, List.length_cons, List.length_nil]; omega⟩
theorem proc3V_fine {c : Cst} {D : Int} {m L : Nat} {E : Mk} (hE : Good c D (m + 1) L E) (g : Gn) (hg : g.s.ok) (sort : Int) (env : List NamD) (he : EOk m env) : Fine (3 * L + 1000) (proc3V E sort env g) := by
 have hlf := freshV_len g
 have he1 := he.mono (Nat.le_succ m)
 have hein := inV_len g he
 have k0 := hE.ok 0 (inV env g) (nxt (incK g) 3) (ok_nxt (g := incK g) hg 3) hein
 have l0 := hE.len 0 (inV env g) (nxt (incK g) 3) (ok_nxt (g := incK g) hg 3) hein
 have k1 := hE.ok 0 env (E 0 (inV env g) (nxt (incK g) 3)).2 k0 he1
 have l1 := hE.len 0 env (E 0 (inV env g) (nxt (incK g) 3)).2 k0 he1
 exact ⟨k1, by simp only [proc3V, List.length_append, List.length_cons, List.length_nil]; omega⟩
theorem funV_fine {c : Cst} {D : Int} {m L : Nat} {E : Mk} (hE : Good c D (m + 1) L E) (g : Gn) (hg : g.s.ok) (env : List NamD) (he : EOk m env) : Fine (3 * L + 1000) (funV E env g) := by
 have hlf := freshV_len g
 have k0 := hE.ok 0 (env ++ [⟨freshV g, 0⟩]) (incK g) hg (inV_len g he)
 have l0 := hE.len 0 (env ++ [⟨freshV g, 0⟩]) (incK g) hg (inV_len g he)
 exact ⟨k0, by simp only [funV, List.length_append, List.length_cons, List.length_nil]; omega⟩
theorem specialV_fine {c : Cst} {D : Int} {m L : Nat} {E : Mk} (hE : Good c D (m + 1) L E) (g : Gn) (hg : g.s.ok) (sort : Int) (env : List NamD) (he : EOk m env) : Fine (3 * L + 1000) (specialV E sort env g) := by
 have he1 := he.mono (Nat.le_succ m)
 unfold specialV
 have hleaf : Fine (3 * L + 1000) (leafV sort env g) := leafV_fine sort env g hg _ (by omega) (fun x hx => by have := he.txt x hx; omega)
 repeat' (first | exact hleaf | refine bif_fine _ ?_ ?_)
 ·exact addV_fine hE g hg env he1
 ·exact getV_fine hE g hg env he1
 ·exact applyV_fine hE g hg env he1
 ·exact assertV_fine hE g hg env he1
 ·exact lessV_fine hE g hg env he1
 ·exact eqlV_fine hE g hg env he1
 ·exact notV_fine hE g hg env he1
 ·exact consV_fine hE g hg env he1
 ·exact pairV_fine hE g hg env he1
 ·exact funV_fine hE g hg env he
 ·exact putV_fine hE g hg env he1
 ·exact thingV_fine hE g hg env he1
theorem branchV_fine {c : Cst} {D : Int} {m L : Nat} {E : Mk} (hE : Good c D (m + 1) L E) (g : Gn) (hg : g.s.ok) (sort : Int) (env : List NamD) (he : EOk m env) : Fine (3 * L + 1000) (branchV E sort env g) := by
 unfold branchV
 repeat' refine bif_fine _ ?_ ?_
 ·exact tryV_fine hE g hg sort env he
 ·exact case0V_fine hE g hg sort env he
 ·exact case1V_fine hE g hg sort env he
 ·exact case2V_fine hE g hg sort env he
 ·exact case3V_fine hE g hg sort env he
theorem processV_fine {c : Cst} {D : Int} {m L : Nat} {E : Mk} (hE : Good c D (m + 1) L E) (g : Gn) (hg : g.s.ok) (sort : Int) (env : List NamD) (he : EOk m env) : Fine (3 * L + 1000) (processV E sort env g) := by
 unfold processV
 repeat' refine bif_fine _ ?_ ?_
 ·exact proc0V_fine hE g hg sort env he
 ·exact proc1V_fine hE g hg sort env he
 ·exact proc3V_fine hE g hg sort env he
 ·exact proc2V_fine hE g hg sort env he
end Go.Proofs.YtogponhonjiidaaDoor

