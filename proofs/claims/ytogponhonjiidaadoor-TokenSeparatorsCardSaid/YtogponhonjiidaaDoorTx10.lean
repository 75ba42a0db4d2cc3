/- A part of the proof: lemmas about the walk of the program and about plain integers and lists. No conditions beyond those that each lemma states. -/
import Derived.Test.YtogponhonjiidaaDoorTx9
set_option linter.unusedSimpArgs false
set_option linter.unusedVariables false
set_option maxRecDepth 20000
set_option maxHeartbeats 16000000
namespace Go.Proofs.YtogponhonjiidaaDoor
open Go Go.Sx
open Nat renaming reduceBEq → zA, reduceBNe → zB, reduceAdd → zC, reduceSub → zD, reduceMul → zE, reduceLeDiff → zF, reduceLT → zG, reduceEqDiff → zH
open Int renaming reduceToNat → zI, reduceLE → zJ, reduceLT → zK, reduceEq → zL
open Bool renaming not_eq_true' → zM, not_eq_false' → zN
def calsV (l : List CalD) (sort : Int) : List CalD := l.filter fun x => decide (x.res = sort)
def pickV (l : List CalD) (g : Gn) : CalD := l.getD (drawV g.s (l.length : Int)).toNat ⟨[], [], [], 0⟩
def argStep (E : Mk) (env : List NamD) (st : Bool × List UInt8 × Gn) (p : Int) : Bool × List UInt8 × Gn :=
 (false, (bif st.1 then st.2.1 else st.2.1 ++ [44, 32]) ++ (E p env st.2.2).1, (E p env st.2.2).2)
def argAt (E : Mk) (env : List NamD) (s : List UInt8) (g : Gn) (ps : List Int) (k : Nat) : Bool × List UInt8 × Gn := (ps.take k).foldl (argStep E env) (true, s, g)
def headV (d : CalD) : List UInt8 := bif decide (d.mod = []) then d.name ++ [40] else d.mod ++ [58] ++ (d.name ++ [40])
def callW (E : Mk) (env : List NamD) (d : CalD) (g : Gn) : List UInt8 × Gn :=
 ((argAt E env (headV d) g d.params d.params.length).2.1 ++ [41], (argAt E env (headV d) g d.params d.params.length).2.2)
/-- functions that may be called: short names, few parameters -/
def CalOk (d : CalD) : Prop := d.mod.length ≤ 100 ∧ d.name.length ≤ 100 ∧ d.params.length ≤ 2
structure CstOk (c : Cst) : Prop where
 len : c.calls.length ≤ 1000
 cal : ∀ d ∈ c.calls, CalOk d
theorem argAt_succ (E : Mk) (env : List NamD) (s : List UInt8) (g : Gn) (ps : List Int) (k : Nat) (p : Int) (hp : ps[k]? = some p) : argAt E env s g ps (k + 1) = argStep E env (argAt E env s g ps k) p := by
 unfold argAt; rw [List.take_add_one, hp, List.foldl_append]; rfl
theorem argAt_fst (E : Mk) (env : List NamD) (s : List UInt8) (g : Gn) (ps : List Int) : ∀ k, k ≤ ps.length → (argAt E env s g ps k).1 = decide (k = 0)
 | 0, _ => by simp [argAt]
 | k + 1, hk => by
  rw [argAt_succ E env s g ps k ps[k] (List.getElem?_eq_getElem (by omega))]
  simp [argStep]
theorem argAt_fine {c : Cst} {D : Int} {m L : Nat} {E : Mk} (hE : Good c D m L E) (env : List NamD) (he : EOk m env) (s : List UInt8) (g : Gn) (hg : g.s.ok) (ps : List Int) : ∀ k, k ≤ ps.length → (argAt E env s g ps k).2.2.s.ok ∧ (argAt E env s g ps k).2.1.length ≤ s.length + k * (L + 2)
 | 0, _ => ⟨hg, by simp [argAt]⟩
 | k + 1, hk => by
  have ih := argAt_fine hE env he s g hg ps k (by omega)
  rw [argAt_succ E env s g ps k ps[k] (List.getElem?_eq_getElem (by omega))]
  refine ⟨hE.ok _ env _ ih.1 he, ?_⟩
  have hl := hE.len ps[k] env _ ih.1 he
  have hb : ∀ b : Bool, ∀ t : List UInt8, (bif b then t else t ++ [44, 32]).length ≤ t.length + 2 := by intro b t; cases b <;> simp
  have := hb (argAt E env s g ps k).1 (argAt E env s g ps k).2.1
  simp only [argStep, List.length_append]
  rw [Nat.add_mul]; omega
theorem headV_len (d : CalD) (h : CalOk d) : (headV d).length ≤ 202 := by
 obtain ⟨h1, h2, _⟩ := h
 unfold headV
 cases decide (d.mod = []) <;> simp only [cond_true, cond_false, List.length_append, List.length_cons, List.length_nil] <;> omega
theorem callW_fine {c : Cst} {D : Int} {m L : Nat} {E : Mk} (hE : Good c D m L E) (env : List NamD) (he : EOk m env) (d : CalD) (hd : CalOk d) (g : Gn) (hg : g.s.ok) : Fine (3 * L + 1000) (callW E env d g) := by
 have h := argAt_fine hE env he (headV d) g hg d.params d.params.length (Nat.le_refl _)
 have hh := headV_len d hd
 have h2 := hd.2.2
 have h3 : d.params.length * (L + 2) ≤ 2 * (L + 2) := Nat.mul_le_mul_right _ h2
 refine ⟨h.1, ?_⟩
 simp only [callW, List.length_append, List.length_cons, List.length_nil]; omega
theorem cals_mem {l : List CalD} {sort : Int} {g : Gn} (h : 0 < (calsV l sort).length) : pickV (calsV l sort) g ∈ l := by
 have hv := drawV_in g.s (n := ((calsV l sort).length : Int)) (by omega)
 unfold pickV
 rw [List.getD_eq_getElem?_getD, List.getElem?_eq_getElem (show (drawV g.s ((calsV l sort).length : Int)).toNat < (calsV l sort).length by omega)]
 exact (List.mem_filter.1 (List.getElem_mem (l := calsV l sort) (h := _))).1
def callV (c : Cst) (E : Mk) (sort : Int) (env : List NamD) (g : Gn) : List UInt8 × Gn :=
 callW E env (pickV (calsV c.calls sort) g) (nxt g ((calsV c.calls sort).length : Int))
theorem cal_snoc (l : List CalD) (d : CalD) : l.map encCal ++ [[.str d.mod, .str d.name, .sl 1 (d.params.map encZ), .int .i64 d.res]] = (l ++ [d]).map encCal := by rw [List.map_append]; rfl
theorem cals_none (c : Cst) (hc : CstOk c) (D : Int) (g : Gn) (sort : Int) (env : List NamD) (hn : (calsV c.calls sort).length = 0) : PCB Tryd.prog 78 [Sp 1000000, I .i64 sort, I .i64 D, Envt env] (gB c g) (.tup [S [], .one (.dat (.bool false))]) (gB c g) := by
 have hcl := hc.len
 have hdn : decide (((calsV c.calls sort).length : Int) = 0) = true := by rw [hn]; rfl
 refine PCB.of_body Tryd.func78 rfl (by decide) Tryd.ntmps78 Tryd.results78 rfl rfl rfl ?_ rfl rfl
 repeat' (first | (simp only [go_sem, zA, zB, zC, zD, zE, zF, zG, reduceCtorEq, zH, zI, zJ, zK, zL, List.length_map]; all_goals fail_if_success guard_target =ₛ False) | (with_reducible first | ((first | refine seqVC_stepN rfl ?_ | refine AWP.seq ?_ | refine AWP.seqR (by kernel_rfl) ?_); intro K hK) | ((first | refine hK _ _ _ ?_ | refine hK _ _ ?_ | refine hK _ ?_); clear hK K) | refine seqVC_nil ?_ | refine AWP.block ?_ | (refine AWP.cond (by with_unfolding_all rfl) ?_ ?_ <;> intro h <;> (try simp only [zM, zN] at h) <;> try exact absurd h (by decide)) | refine AWP.skip ?_ | refine AWP.ret ?_ | refine AWP.exit ?_ | refine Or.inl ?_) | (clear hK K))
 refine AWP.gh (Gh.nilrow 10 900 rfl rfl rfl (by simp [Bx.fresh, Cell.freshs, Cell.fresh])) ?_
 refine AWP.len 20 rfl fun hlen0 => ?_
 (try rw [List.length_map] at hlen0)
 refine AWP.range (S := List CalD) (c.calls) encCal (fun k s => (22, I .i64 (k : Nat)) :: [(10, .one (.own 900 s.length))]) (fun k s => [(900, .row 4 (s.map encCal)), (1000000, mkB c g), (1000001, srcB g.s)]) [0, 1, 2, 3, 20, 21] [] (fun k s => s = calsV (c.calls.take k) sort) ([]) (by simp only [go_sem, zA, zB, zC, zD, zE, zF, zG, reduceCtorEq, zH, zI, zJ, zK, zL]; exact Gh.to [] (by repeat (first | exact trivial | refine ⟨rfl, ?_⟩ | refine ⟨by (simp only [go_sem, zA, zB, zC, zD, zE, zF, zG, reduceCtorEq, zH, zI, zJ, zK, zL, List.length_append, List.length_map, List.length_cons, List.length_nil, Nat.zero_add]) <;> rfl, ?_⟩)) (by repeat (first | exact trivial | refine ⟨rfl, ?_⟩ | refine ⟨by (simp only [go_sem, zA, zB, zC, zD, zE, zF, zG, reduceCtorEq, zH, zI, zJ, zK, zL, List.length_append, List.length_map, List.length_cons, List.length_nil, Nat.zero_add]) <;> rfl, ?_⟩)) rfl rfl rfl) ?_ ?_ ?_
 ·rfl
 ·intro k s x hlt hx hx' hbb hok
  simp only [go_sem, zA, zB, zC, zD, zE, zF, zG, reduceCtorEq, zH, zI, zJ, zK, zL]
  have hsl : s.length ≤ 1000 := by
   rw [hok]; unfold calsV
   have := List.length_filter_le (fun x : CalD => decide (x.res = sort)) (c.calls.take k)
   rw [List.length_take] at this; omega
  have hok' : calsV (c.calls.take (k + 1)) sort = bif decide (x.res = sort) then s ++ [x] else s := by
   rw [List.take_add_one, hx, hok]
   unfold calsV
   rw [List.filter_append]
   cases hd : decide (x.res = sort) <;> simp [List.filter_cons, hd]
  repeat' (first | (simp only [go_sem, zA, zB, zC, zD, zE, zF, zG, reduceCtorEq, zH, zI, zJ, zK, zL, List.length_map, hbb, encCal, cal_snoc]; all_goals fail_if_success guard_target =ₛ False) | (with_reducible first | ((first | refine seqVC_stepN rfl ?_ | refine AWP.seq ?_ | refine AWP.seqR (by kernel_rfl) ?_); intro K hK) | ((first | refine hK _ _ _ ?_ | refine hK _ _ ?_ | refine hK _ ?_); clear hK K) | refine seqVC_nil ?_ | refine AWP.block ?_ | (refine AWP.cond (by with_unfolding_all rfl) ?_ ?_ <;> intro h <;> (try simp only [zM, zN] at h) <;> try exact absurd h (by decide)) | refine AWP.skip ?_ | refine AWP.ret ?_ | refine AWP.exit ?_ | refine ⟨(by omega : _ ≤ _), ?_⟩ | refine ⟨(by omega : _ ≤ _), (by omega : _ ≤ _), ?_⟩ | refine ⟨by omega, encCal x, hx', ?_⟩ | refine ⟨encCal x, hx', ?_⟩ | refine Or.inl ?_) | (clear hK K))
  all_goals rw [wrap_succ hlt hlen0, hok', h]
  ·rw [cond_true]; exact Gh.to [(900, 33)] (by repeat (first | exact trivial | refine ⟨rfl, ?_⟩ | refine ⟨by (simp only [go_sem, zA, zB, zC, zD, zE, zF, zG, reduceCtorEq, zH, zI, zJ, zK, zL, List.length_append, List.length_map, List.length_cons, List.length_nil, Nat.zero_add]) <;> rfl, ?_⟩)) (by repeat (first | exact trivial | refine ⟨rfl, ?_⟩ | refine ⟨by (simp only [go_sem, zA, zB, zC, zD, zE, zF, zG, reduceCtorEq, zH, zI, zJ, zK, zL, List.length_append, List.length_map, List.length_cons, List.length_nil, Nat.zero_add]) <;> rfl, ?_⟩)) rfl rfl rfl
  ·rw [cond_false]; exact Gh.to [(900, 900)] (by repeat (first | exact trivial | refine ⟨rfl, ?_⟩ | refine ⟨by (simp only [go_sem, zA, zB, zC, zD, zE, zF, zG, reduceCtorEq, zH, zI, zJ, zK, zL, List.length_append, List.length_map, List.length_cons, List.length_nil, Nat.zero_add]) <;> rfl, ?_⟩)) (by repeat (first | exact trivial | refine ⟨rfl, ?_⟩ | refine ⟨by (simp only [go_sem, zA, zB, zC, zD, zE, zF, zG, reduceCtorEq, zH, zI, zJ, zK, zL, List.length_append, List.length_map, List.length_cons, List.length_nil, Nat.zero_add]) <;> rfl, ?_⟩)) rfl rfl rfl
 ·intro s hbb hok
  simp only [go_sem, zA, zB, zC, zD, zE, zF, zG, reduceCtorEq, zH, zI, zJ, zK, zL]
  rw [List.take_length] at hok
  rw [hok]
  repeat' (first | (simp only [go_sem, zA, zB, zC, zD, zE, zF, zG, reduceCtorEq, zH, zI, zJ, zK, zL, List.length_map, hbb, hdn]; all_goals fail_if_success guard_target =ₛ False) | (with_reducible first | ((first | refine seqVC_stepN rfl ?_ | refine AWP.seq ?_ | refine AWP.seqR (by kernel_rfl) ?_); intro K hK) | ((first | refine hK _ _ _ ?_ | refine hK _ _ ?_ | refine hK _ ?_); clear hK K) | refine seqVC_nil ?_ | refine AWP.block ?_ | (refine AWP.cond (by with_unfolding_all rfl) ?_ ?_ <;> intro h <;> (try simp only [zM, zN] at h) <;> try exact absurd h (by decide)) | refine AWP.skip ?_ | refine AWP.ret ?_ | refine AWP.exit ?_ | refine Or.inl ?_) | (clear hK K))
  all_goals exact fun x hx => List.mem_cons_of_mem _ hx
theorem cals_own (c : Cst) (hc : CstOk c) (D D1 : Int) (m L : Nat) (E : Mk) (hD : IntKind.i64.wrap (D - 1) = D1) (hE : Good c D1 m L E) (hL : L ≤ 1000000) (g : Gn) (hg : g.s.ok) (sort : Int) (env : List NamD) (he : EOk m env) (hn : 0 < (calsV c.calls sort).length) (hmd : decide ((pickV (calsV c.calls sort) g).mod = []) = true) : PCB Tryd.prog 78 [Sp 1000000, I .i64 sort, I .i64 D, Envt env] (gB c g) (.tup [S (callV c E sort env g).1, .one (.dat (.bool true))]) (gB c (callV c E sort env g).2) := by
 have hcl := hc.len
 have hdn : decide (((calsV c.calls sort).length : Int) = 0) = false := by rw [decide_eq_false_iff_not]; omega
 have hll : (calsV c.calls sort).length ≤ c.calls.length := List.length_filter_le _ _
 have hdk := hc.cal _ (cals_mem (g := g) hn)
 have hv := drawV_in g.s (n := ((calsV c.calls sort).length : Int)) (by omega)
 have hpk := lit_get encCal (calsV c.calls sort) ⟨[], [], [], 0⟩ hv
 have hok1 := ok_nxt hg ((calsV c.calls sort).length : Int)
 have hfin := argAt_fine hE env he (headV (pickV (calsV c.calls sort) g)) (nxt g ((calsV c.calls sort).length : Int)) hok1 (pickV (calsV c.calls sort) g).params
 have hfst := argAt_fst E env (headV (pickV (calsV c.calls sort) g)) (nxt g ((calsV c.calls sort).length : Int)) (pickV (calsV c.calls sort) g).params
 have hsuc := argAt_succ E env (headV (pickV (calsV c.calls sort) g)) (nxt g ((calsV c.calls sort).length : Int)) (pickV (calsV c.calls sort) g).params
 have hhl := headV_len _ hdk
 have hmax : 10000000 ≤ maxLen := by unfold maxLen; omega
 refine PCB.of_body Tryd.func78 rfl (by decide) Tryd.ntmps78 Tryd.results78 rfl rfl rfl ?_ rfl rfl
 repeat' (first | (simp only [go_sem, zA, zB, zC, zD, zE, zF, zG, reduceCtorEq, zH, zI, zJ, zK, zL, List.length_map]; all_goals fail_if_success guard_target =ₛ False) | (with_reducible first | ((first | refine seqVC_stepN rfl ?_ | refine AWP.seq ?_ | refine AWP.seqR (by kernel_rfl) ?_); intro K hK) | ((first | refine hK _ _ _ ?_ | refine hK _ _ ?_ | refine hK _ ?_); clear hK K) | refine seqVC_nil ?_ | refine AWP.block ?_ | (refine AWP.cond (by with_unfolding_all rfl) ?_ ?_ <;> intro h <;> (try simp only [zM, zN] at h) <;> try exact absurd h (by decide)) | refine AWP.skip ?_ | refine AWP.ret ?_ | refine AWP.exit ?_ | refine Or.inl ?_) | (clear hK K))
 refine AWP.gh (Gh.nilrow 10 900 rfl rfl rfl (by simp [Bx.fresh, Cell.freshs, Cell.fresh])) ?_
 refine AWP.len 20 rfl fun hlen0 => ?_
 (try rw [List.length_map] at hlen0)
 refine AWP.range (S := List CalD) (c.calls) encCal (fun k s => (22, I .i64 (k : Nat)) :: [(10, .one (.own 900 s.length))]) (fun k s => [(900, .row 4 (s.map encCal)), (1000000, mkB c g), (1000001, srcB g.s)]) [0, 1, 2, 3, 20, 21] [] (fun k s => s = calsV (c.calls.take k) sort) ([]) (by simp only [go_sem, zA, zB, zC, zD, zE, zF, zG, reduceCtorEq, zH, zI, zJ, zK, zL]; exact Gh.to [] (by repeat (first | exact trivial | refine ⟨rfl, ?_⟩ | refine ⟨by (simp only [go_sem, zA, zB, zC, zD, zE, zF, zG, reduceCtorEq, zH, zI, zJ, zK, zL, List.length_append, List.length_map, List.length_cons, List.length_nil, Nat.zero_add]) <;> rfl, ?_⟩)) (by repeat (first | exact trivial | refine ⟨rfl, ?_⟩ | refine ⟨by (simp only [go_sem, zA, zB, zC, zD, zE, zF, zG, reduceCtorEq, zH, zI, zJ, zK, zL, List.length_append, List.length_map, List.length_cons, List.length_nil, Nat.zero_add]) <;> rfl, ?_⟩)) rfl rfl rfl) ?_ ?_ ?_
 ·rfl
 ·intro k s x hlt hx hx' hbb hok
  simp only [go_sem, zA, zB, zC, zD, zE, zF, zG, reduceCtorEq, zH, zI, zJ, zK, zL]
  have hsl : s.length ≤ 1000 := by
   rw [hok]; unfold calsV
   have := List.length_filter_le (fun x : CalD => decide (x.res = sort)) (c.calls.take k)
   rw [List.length_take] at this; omega
  have hok' : calsV (c.calls.take (k + 1)) sort = bif decide (x.res = sort) then s ++ [x] else s := by
   rw [List.take_add_one, hx, hok]
   unfold calsV
   rw [List.filter_append]
   cases hd : decide (x.res = sort) <;> simp [List.filter_cons, hd]
  repeat' (first | (simp only [go_sem, zA, zB, zC, zD, zE, zF, zG, reduceCtorEq, zH, zI, zJ, zK, zL, List.length_map, hbb, encCal, cal_snoc]; all_goals fail_if_success guard_target =ₛ False) | (with_reducible first | ((first | refine seqVC_stepN rfl ?_ | refine AWP.seq ?_ | refine AWP.seqR (by kernel_rfl) ?_); intro K hK) | ((first | refine hK _ _ _ ?_ | refine hK _ _ ?_ | refine hK _ ?_); clear hK K) | refine seqVC_nil ?_ | refine AWP.block ?_ | (refine AWP.cond (by with_unfolding_all rfl) ?_ ?_ <;> intro h <;> (try simp only [zM, zN] at h) <;> try exact absurd h (by decide)) | refine AWP.skip ?_ | refine AWP.ret ?_ | refine AWP.exit ?_ | refine ⟨(by omega : _ ≤ _), ?_⟩ | refine ⟨(by omega : _ ≤ _), (by omega : _ ≤ _), ?_⟩ | refine ⟨by omega, encCal x, hx', ?_⟩ | refine ⟨encCal x, hx', ?_⟩ | refine Or.inl ?_) | (clear hK K))
  all_goals rw [wrap_succ hlt hlen0, hok', h]
  ·rw [cond_true]; exact Gh.to [(900, 33)] (by repeat (first | exact trivial | refine ⟨rfl, ?_⟩ | refine ⟨by (simp only [go_sem, zA, zB, zC, zD, zE, zF, zG, reduceCtorEq, zH, zI, zJ, zK, zL, List.length_append, List.length_map, List.length_cons, List.length_nil, Nat.zero_add]) <;> rfl, ?_⟩)) (by repeat (first | exact trivial | refine ⟨rfl, ?_⟩ | refine ⟨by (simp only [go_sem, zA, zB, zC, zD, zE, zF, zG, reduceCtorEq, zH, zI, zJ, zK, zL, List.length_append, List.length_map, List.length_cons, List.length_nil, Nat.zero_add]) <;> rfl, ?_⟩)) rfl rfl rfl
  ·rw [cond_false]; exact Gh.to [(900, 900)] (by repeat (first | exact trivial | refine ⟨rfl, ?_⟩ | refine ⟨by (simp only [go_sem, zA, zB, zC, zD, zE, zF, zG, reduceCtorEq, zH, zI, zJ, zK, zL, List.length_append, List.length_map, List.length_cons, List.length_nil, Nat.zero_add]) <;> rfl, ?_⟩)) (by repeat (first | exact trivial | refine ⟨rfl, ?_⟩ | refine ⟨by (simp only [go_sem, zA, zB, zC, zD, zE, zF, zG, reduceCtorEq, zH, zI, zJ, zK, zL, List.length_append, List.length_map, List.length_cons, List.length_nil, Nat.zero_add]) <;> rfl, ?_⟩)) rfl rfl rfl
 ·intro s hbb hok
  simp only [go_sem, zA, zB, zC, zD, zE, zF, zG, reduceCtorEq, zH, zI, zJ, zK, zL]
  rw [List.take_length] at hok
  subst hok
  unfold callV callW
  change (List.map encCal (calsV c.calls sort))[(drawV g.s ((calsV c.calls sort).length : Int)).toNat]? = some (encCal (pickV (calsV c.calls sort) g)) at hpk
  generalize hdd : pickV (calsV c.calls sort) g = d at *
  obtain ⟨hd1, hd2, hd3⟩ := hdk
  have hhd : headV d = d.name ++ [40] := by unfold headV; rw [hmd]; rfl
  generalize hg1 : nxt g ((calsV c.calls sort).length : Int) = g1 at *
  have hg1s : nextS g.s ((calsV c.calls sort).length : Int) = g1.s := by rw [← hg1]; rfl
  have hg1k : g.k = g1.k := by rw [← hg1]; rfl
  refine AWP.gh (Gh.freeze 900 rfl rfl (by simp only [go_sem, zA, zB, zC, zD, zE, zF, zG, reduceCtorEq, zH, zI, zJ, zK, zL, List.length_map]) (by simp only [go_sem, zA, zB, zC, zD, zE, zF, zG, reduceCtorEq, zH, zI, zJ, zK, zL, List.length_map])) ?_
  simp only [go_sem, zA, zB, zC, zD, zE, zF, zG, reduceCtorEq, zH, zI, zJ, zK, zL, List.length_map]
  repeat' (first | (simp only [go_sem, zA, zB, zC, zD, zE, zF, zG, reduceCtorEq, zH, zI, zJ, zK, zL, List.length_map, hbb, hdn, encCal, hmd, hg1s, hg1k]; all_goals fail_if_success guard_target =ₛ False) | (with_reducible first | ((first | refine seqVC_stepN rfl ?_ | refine AWP.seq ?_ | refine AWP.seqR (by kernel_rfl) ?_); intro K hK) | ((first | refine hK _ _ _ ?_ | refine hK _ _ ?_ | refine hK _ ?_); clear hK K) | refine seqVC_nil ?_ | refine AWP.block ?_ | (refine AWP.cond (by with_unfolding_all rfl) ?_ ?_ <;> intro h <;> (try simp only [zM, zN] at h) <;> try exact absurd h (by decide)) | refine AWP.skip ?_ | refine AWP.ret ?_ | refine AWP.exit ?_ | (refine ⟨(by first | omega | (simp only [List.length_append, List.length_map, List.length_take, List.length_drop, List.length_cons, List.length_nil, List.length_replicate]; omega) : _ ≤ _), ?_⟩) | refine ⟨by omega, by omega, ?_⟩) | (refine ⟨1000001, _, _, _, draw_k 1000001 g.s hg ((calsV c.calls sort).length : Int) (by omega), rfl, ?_⟩) | ( refine ⟨hv.1, encCal d, hpk, ?_⟩) | ( refine ⟨hv.1, ?_⟩) | ( refine ⟨encCal d, hpk, ?_⟩) | (with_reducible first | refine Or.inl ?_) | (clear hK K))
  refine AWP.len 60 rfl fun hlen1 => ?_
  (try rw [List.length_map] at hlen1)
  refine AWP.range (S := List UInt8 × Gn) (d.params) encZ (fun k s => (62, I .i64 (k : Nat)) :: [(14, S s.1)]) (fun k s => [(13, .cells [.dat (.str d.mod), .dat (.str d.name), .dat (.sl 1 (d.params.map encZ)), .dat (.int .i64 d.res)]), (1000000, mkB c s.2), (1000001, srcB s.2.s)]) [0, 2, 3, 60, 61] [] (fun k s => s = (argAt E env (headV d) g1 d.params k).2) ((d.name ++ [40], g1)) (by simp only [go_sem, zA, zB, zC, zD, zE, zF, zG, reduceCtorEq, zH, zI, zJ, zK, zL, hg1s, hg1k]; exact Gh.to [] (by repeat (first | exact trivial | refine ⟨rfl, ?_⟩ | refine ⟨by (simp only [go_sem, zA, zB, zC, zD, zE, zF, zG, reduceCtorEq, zH, zI, zJ, zK, zL, List.length_append, List.length_map, List.length_cons, List.length_nil, Nat.zero_add]) <;> rfl, ?_⟩)) (by repeat (first | exact trivial | refine ⟨rfl, ?_⟩ | refine ⟨by (simp only [go_sem, zA, zB, zC, zD, zE, zF, zG, reduceCtorEq, zH, zI, zJ, zK, zL, List.length_append, List.length_map, List.length_cons, List.length_nil, Nat.zero_add]) <;> rfl, ?_⟩)) rfl rfl rfl) ?_ ?_ ?_
  ·rw [hhd]; rfl
  ·intro k s p hlt hx hx' hbb hok
   simp only [go_sem, zA, zB, zC, zD, zE, zF, zG, reduceCtorEq, zH, zI, zJ, zK, zL]
   have hk := hfin k (by omega)
   have hk1 := hfst k (by omega)
   have hk2 := hsuc k p hx
   rw [← hok] at hk
   have hsl : s.1.length ≤ 202 + 2 * (L + 2) := by
    have : k * (L + 2) ≤ 2 * (L + 2) := Nat.mul_le_mul_right _ (by omega)
    omega
   have r0 := hE.run p env s.2 hk.1 he
   have l0 := hE.len p env s.2 hk.1 he
   have hst : (argAt E env (headV d) g1 d.params (k + 1)).2 = ((bif decide (k = 0) then s.1 else s.1 ++ [44, 32]) ++ (E p env s.2).1, (E p env s.2).2) := by rw [hk2]; simp only [argStep, ← hok, hk1]
   by_cases hk0 : k = 0
   ·have hd0 : decide (0 < (k : Int)) = false := by rw [decide_eq_false_iff_not]; omega
    rw [show decide (k = 0) = true from by simp [hk0], cond_true] at hst
    repeat' (first | (simp only [go_sem, zA, zB, zC, zD, zE, zF, zG, reduceCtorEq, zH, zI, zJ, zK, zL, List.length_map, hbb, encZ, hd0, hD, Bx.puts]; all_goals fail_if_success guard_target =ₛ False) | (with_reducible first | ((first | refine seqVC_stepN rfl ?_ | refine AWP.seq ?_ | refine AWP.seqR (by kernel_rfl) ?_); intro K hK) | ((first | refine hK _ _ _ ?_ | refine hK _ _ ?_ | refine hK _ ?_); clear hK K) | refine seqVC_nil ?_ | refine AWP.block ?_ | (refine AWP.cond (by with_unfolding_all rfl) ?_ ?_ <;> intro h <;> (try simp only [zM, zN] at h) <;> try exact absurd h (by decide)) | refine AWP.skip ?_ | refine AWP.ret ?_ | refine AWP.exit ?_ | refine ⟨by omega, encZ p, hx', ?_⟩ | refine ⟨encZ p, hx', ?_⟩ | (refine ⟨(by first | omega | (simp only [List.length_append, List.length_map, List.length_take, List.length_drop, List.length_cons, List.length_nil, List.length_replicate]; omega) : _ ≤ _), ?_⟩) | refine ⟨by omega, by omega, ?_⟩) | ( refine Or.inr ⟨_, _, _, r0, ⟨rfl, rfl, trivial⟩, rfl, rfl, ?_⟩) | (with_reducible first | refine Or.inl ?_) | (clear hK K))
    all_goals (rw [wrap_succ hlt hlen1, hst]; exact Gh.to [] (by repeat (first | exact trivial | refine ⟨rfl, ?_⟩ | refine ⟨by (simp only [go_sem, zA, zB, zC, zD, zE, zF, zG, reduceCtorEq, zH, zI, zJ, zK, zL, List.length_append, List.length_map, List.length_cons, List.length_nil, Nat.zero_add]) <;> rfl, ?_⟩)) (by repeat (first | exact trivial | refine ⟨rfl, ?_⟩ | refine ⟨by (simp only [go_sem, zA, zB, zC, zD, zE, zF, zG, reduceCtorEq, zH, zI, zJ, zK, zL, List.length_append, List.length_map, List.length_cons, List.length_nil, Nat.zero_add]) <;> rfl, ?_⟩)) rfl rfl rfl)
   ·have hd0 : decide (0 < (k : Int)) = true := by rw [decide_eq_true_eq]; omega
    rw [show decide (k = 0) = false from by simp [hk0], cond_false] at hst
    repeat' (first | (simp only [go_sem, zA, zB, zC, zD, zE, zF, zG, reduceCtorEq, zH, zI, zJ, zK, zL, List.length_map, hbb, encZ, hd0, hD, Bx.puts]; all_goals fail_if_success guard_target =ₛ False) | (with_reducible first | ((first | refine seqVC_stepN rfl ?_ | refine AWP.seq ?_ | refine AWP.seqR (by kernel_rfl) ?_); intro K hK) | ((first | refine hK _ _ _ ?_ | refine hK _ _ ?_ | refine hK _ ?_); clear hK K) | refine seqVC_nil ?_ | refine AWP.block ?_ | (refine AWP.cond (by with_unfolding_all rfl) ?_ ?_ <;> intro h <;> (try simp only [zM, zN] at h) <;> try exact absurd h (by decide)) | refine AWP.skip ?_ | refine AWP.ret ?_ | refine AWP.exit ?_ | refine ⟨by omega, encZ p, hx', ?_⟩ | refine ⟨encZ p, hx', ?_⟩ | (refine ⟨(by first | omega | (simp only [List.length_append, List.length_map, List.length_take, List.length_drop, List.length_cons, List.length_nil, List.length_replicate]; omega) : _ ≤ _), ?_⟩) | refine ⟨by omega, by omega, ?_⟩) | ( refine Or.inr ⟨_, _, _, r0, ⟨rfl, rfl, trivial⟩, rfl, rfl, ?_⟩) | (with_reducible first | refine Or.inl ?_) | (clear hK K))
    all_goals (rw [wrap_succ hlt hlen1, hst]; exact Gh.to [] (by repeat (first | exact trivial | refine ⟨rfl, ?_⟩ | refine ⟨by (simp only [go_sem, zA, zB, zC, zD, zE, zF, zG, reduceCtorEq, zH, zI, zJ, zK, zL, List.length_append, List.length_map, List.length_cons, List.length_nil, Nat.zero_add]) <;> rfl, ?_⟩)) (by repeat (first | exact trivial | refine ⟨rfl, ?_⟩ | refine ⟨by (simp only [go_sem, zA, zB, zC, zD, zE, zF, zG, reduceCtorEq, zH, zI, zJ, zK, zL, List.length_append, List.length_map, List.length_cons, List.length_nil, Nat.zero_add]) <;> rfl, ?_⟩)) rfl rfl rfl)
  ·intro s hbb hok
   simp only [go_sem, zA, zB, zC, zD, zE, zF, zG, reduceCtorEq, zH, zI, zJ, zK, zL]
   have hk := hfin d.params.length (by omega)
   rw [← hok] at hk
   have hsl : s.1.length ≤ 202 + 2 * (L + 2) := by
    have : d.params.length * (L + 2) ≤ 2 * (L + 2) := Nat.mul_le_mul_right _ (by omega)
    omega
   repeat' (first | (simp only [go_sem, zA, zB, zC, zD, zE, zF, zG, reduceCtorEq, zH, zI, zJ, zK, zL, List.length_map, hbb]; all_goals fail_if_success guard_target =ₛ False) | (with_reducible first | ((first | refine seqVC_stepN rfl ?_ | refine AWP.seq ?_ | refine AWP.seqR (by kernel_rfl) ?_); intro K hK) | ((first | refine hK _ _ _ ?_ | refine hK _ _ ?_ | refine hK _ ?_); clear hK K) | refine seqVC_nil ?_ | refine AWP.block ?_ | (refine AWP.cond (by with_unfolding_all rfl) ?_ ?_ <;> intro h <;> (try simp only [zM, zN] at h) <;> try exact absurd h (by decide)) | refine AWP.skip ?_ | refine AWP.ret ?_ | refine AWP.exit ?_ | (refine ⟨(by first | omega | (simp only [List.length_append, List.length_map, List.length_take, List.length_drop, List.length_cons, List.length_nil, List.length_replicate]; omega) : _ ≤ _), ?_⟩) | refine ⟨by omega, by omega, ?_⟩ | refine Or.inl ?_) | (clear hK K))
   have hcv : callV c E sort env g = (s.1 ++ [41], s.2) := by unfold callV callW; rw [hdd, hg1, ← hok]
   rw [hcv]
   all_goals exact ⟨rfl, fun x hx => List.mem_cons_of_mem _ hx⟩
theorem cals_far (c : Cst) (hc : CstOk c) (D D1 : Int) (m L : Nat) (E : Mk) (hD : IntKind.i64.wrap (D - 1) = D1) (hE : Good c D1 m L E) (hL : L ≤ 1000000) (g : Gn) (hg : g.s.ok) (sort : Int) (env : List NamD) (he : EOk m env) (hn : 0 < (calsV c.calls sort).length) (hmd : decide ((pickV (calsV c.calls sort) g).mod = []) = false) : PCB Tryd.prog 78 [Sp 1000000, I .i64 sort, I .i64 D, Envt env] (gB c g) (.tup [S (callV c E sort env g).1, .one (.dat (.bool true))]) (gB c (callV c E sort env g).2) := by
 have hcl := hc.len
 have hdn : decide (((calsV c.calls sort).length : Int) = 0) = false := by rw [decide_eq_false_iff_not]; omega
 have hll : (calsV c.calls sort).length ≤ c.calls.length := List.length_filter_le _ _
 have hdk := hc.cal _ (cals_mem (g := g) hn)
 have hv := drawV_in g.s (n := ((calsV c.calls sort).length : Int)) (by omega)
 have hpk := lit_get encCal (calsV c.calls sort) ⟨[], [], [], 0⟩ hv
 have hok1 := ok_nxt hg ((calsV c.calls sort).length : Int)
 have hfin := argAt_fine hE env he (headV (pickV (calsV c.calls sort) g)) (nxt g ((calsV c.calls sort).length : Int)) hok1 (pickV (calsV c.calls sort) g).params
 have hfst := argAt_fst E env (headV (pickV (calsV c.calls sort) g)) (nxt g ((calsV c.calls sort).length : Int)) (pickV (calsV c.calls sort) g).params
 have hsuc := argAt_succ E env (headV (pickV (calsV c.calls sort) g)) (nxt g ((calsV c.calls sort).length : Int)) (pickV (calsV c.calls sort) g).params
 have hhl := headV_len _ hdk
 have hmax : 10000000 ≤ maxLen := by unfold maxLen; omega
 refine PCB.of_body Tryd.func78 rfl (by decide) Tryd.ntmps78 Tryd.results78 rfl rfl rfl ?_ rfl rfl
 repeat' (first | (simp only [go_sem, zA, zB, zC, zD, zE, zF, zG, reduceCtorEq, zH, zI, zJ, zK, zL, List.length_map]; all_goals fail_if_success guard_target =ₛ False) | (with_reducible first | ((first | refine seqVC_stepN rfl ?_ | refine AWP.seq ?_ | refine AWP.seqR (by kernel_rfl) ?_); intro K hK) | ((first | refine hK _ _ _ ?_ | refine hK _ _ ?_ | refine hK _ ?_); clear hK K) | refine seqVC_nil ?_ | refine AWP.block ?_ | (refine AWP.cond (by with_unfolding_all rfl) ?_ ?_ <;> intro h <;> (try simp only [zM, zN] at h) <;> try exact absurd h (by decide)) | refine AWP.skip ?_ | refine AWP.ret ?_ | refine AWP.exit ?_ | refine Or.inl ?_) | (clear hK K))
 refine AWP.gh (Gh.nilrow 10 900 rfl rfl rfl (by simp [Bx.fresh, Cell.freshs, Cell.fresh])) ?_
 refine AWP.len 20 rfl fun hlen0 => ?_
 (try rw [List.length_map] at hlen0)
 refine AWP.range (S := List CalD) (c.calls) encCal (fun k s => (22, I .i64 (k : Nat)) :: [(10, .one (.own 900 s.length))]) (fun k s => [(900, .row 4 (s.map encCal)), (1000000, mkB c g), (1000001, srcB g.s)]) [0, 1, 2, 3, 20, 21] [] (fun k s => s = calsV (c.calls.take k) sort) ([]) (by simp only [go_sem, zA, zB, zC, zD, zE, zF, zG, reduceCtorEq, zH, zI, zJ, zK, zL]; exact Gh.to [] (by repeat (first | exact trivial | refine ⟨rfl, ?_⟩ | refine ⟨by (simp only [go_sem, zA, zB, zC, zD, zE, zF, zG, reduceCtorEq, zH, zI, zJ, zK, zL, List.length_append, List.length_map, List.length_cons, List.length_nil, Nat.zero_add]) <;> rfl, ?_⟩)) (by repeat (first | exact trivial | refine ⟨rfl, ?_⟩ | refine ⟨by (simp only [go_sem, zA, zB, zC, zD, zE, zF, zG, reduceCtorEq, zH, zI, zJ, zK, zL, List.length_append, List.length_map, List.length_cons, List.length_nil, Nat.zero_add]) <;> rfl, ?_⟩)) rfl rfl rfl) ?_ ?_ ?_
 ·rfl
 ·intro k s x hlt hx hx' hbb hok
  simp only [go_sem, zA, zB, zC, zD, zE, zF, zG, reduceCtorEq, zH, zI, zJ, zK, zL]
  have hsl : s.length ≤ 1000 := by
   rw [hok]; unfold calsV
   have := List.length_filter_le (fun x : CalD => decide (x.res = sort)) (c.calls.take k)
   rw [List.length_take] at this; omega
  have hok' : calsV (c.calls.take (k + 1)) sort = bif decide (x.res = sort) then s ++ [x] else s := by
   rw [List.take_add_one, hx, hok]
   unfold calsV
   rw [List.filter_append]
   cases hd : decide (x.res = sort) <;> simp [List.filter_cons, hd]
  repeat' (first | (simp only [go_sem, zA, zB, zC, zD, zE, zF, zG, reduceCtorEq, zH, zI, zJ, zK, zL, List.length_map, hbb, encCal, cal_snoc]; all_goals fail_if_success guard_target =ₛ False) | (with_reducible first | ((first | refine seqVC_stepN rfl ?_ | refine AWP.seq ?_ | refine AWP.seqR (by kernel_rfl) ?_); intro K hK) | ((first | refine hK _ _ _ ?_ | refine hK _ _ ?_ | refine hK _ ?_); clear hK K) | refine seqVC_nil ?_ | refine AWP.block ?_ | (refine AWP.cond (by with_unfolding_all rfl) ?_ ?_ <;> intro h <;> (try simp only [zM, zN] at h) <;> try exact absurd h (by decide)) | refine AWP.skip ?_ | refine AWP.ret ?_ | refine AWP.exit ?_ | refine ⟨(by omega : _ ≤ _), ?_⟩ | refine ⟨(by omega : _ ≤ _), (by omega : _ ≤ _), ?_⟩ | refine ⟨by omega, encCal x, hx', ?_⟩ | refine ⟨encCal x, hx', ?_⟩ | refine Or.inl ?_) | (clear hK K))
  all_goals rw [wrap_succ hlt hlen0, hok', h]
  ·rw [cond_true]; exact Gh.to [(900, 33)] (by repeat (first | exact trivial | refine ⟨rfl, ?_⟩ | refine ⟨by (simp only [go_sem, zA, zB, zC, zD, zE, zF, zG, reduceCtorEq, zH, zI, zJ, zK, zL, List.length_append, List.length_map, List.length_cons, List.length_nil, Nat.zero_add]) <;> rfl, ?_⟩)) (by repeat (first | exact trivial | refine ⟨rfl, ?_⟩ | refine ⟨by (simp only [go_sem, zA, zB, zC, zD, zE, zF, zG, reduceCtorEq, zH, zI, zJ, zK, zL, List.length_append, List.length_map, List.length_cons, List.length_nil, Nat.zero_add]) <;> rfl, ?_⟩)) rfl rfl rfl
  ·rw [cond_false]; exact Gh.to [(900, 900)] (by repeat (first | exact trivial | refine ⟨rfl, ?_⟩ | refine ⟨by (simp only [go_sem, zA, zB, zC, zD, zE, zF, zG, reduceCtorEq, zH, zI, zJ, zK, zL, List.length_append, List.length_map, List.length_cons, List.length_nil, Nat.zero_add]) <;> rfl, ?_⟩)) (by repeat (first | exact trivial | refine ⟨rfl, ?_⟩ | refine ⟨by (simp only [go_sem, zA, zB, zC, zD, zE, zF, zG, reduceCtorEq, zH, zI, zJ, zK, zL, List.length_append, List.length_map, List.length_cons, List.length_nil, Nat.zero_add]) <;> rfl, ?_⟩)) rfl rfl rfl
 ·intro s hbb hok
  simp only [go_sem, zA, zB, zC, zD, zE, zF, zG, reduceCtorEq, zH, zI, zJ, zK, zL]
  rw [List.take_length] at hok
  subst hok
  unfold callV callW
  change (List.map encCal (calsV c.calls sort))[(drawV g.s ((calsV c.calls sort).length : Int)).toNat]? = some (encCal (pickV (calsV c.calls sort) g)) at hpk
  generalize hdd : pickV (calsV c.calls sort) g = d at *
  obtain ⟨hd1, hd2, hd3⟩ := hdk
  have hhd : headV d = d.mod ++ [58] ++ (d.name ++ [40]) := by unfold headV; rw [hmd]; rfl
  generalize hg1 : nxt g ((calsV c.calls sort).length : Int) = g1 at *
  have hg1s : nextS g.s ((calsV c.calls sort).length : Int) = g1.s := by rw [← hg1]; rfl
  have hg1k : g.k = g1.k := by rw [← hg1]; rfl
  refine AWP.gh (Gh.freeze 900 rfl rfl (by simp only [go_sem, zA, zB, zC, zD, zE, zF, zG, reduceCtorEq, zH, zI, zJ, zK, zL, List.length_map]) (by simp only [go_sem, zA, zB, zC, zD, zE, zF, zG, reduceCtorEq, zH, zI, zJ, zK, zL, List.length_map])) ?_
  simp only [go_sem, zA, zB, zC, zD, zE, zF, zG, reduceCtorEq, zH, zI, zJ, zK, zL, List.length_map]
  repeat' (first | (simp only [go_sem, zA, zB, zC, zD, zE, zF, zG, reduceCtorEq, zH, zI, zJ, zK, zL, List.length_map, hbb, hdn, encCal, hmd, hg1s, hg1k]; all_goals fail_if_success guard_target =ₛ False) | (with_reducible first | ((first | refine seqVC_stepN rfl ?_ | refine AWP.seq ?_ | refine AWP.seqR (by kernel_rfl) ?_); intro K hK) | ((first | refine hK _ _ _ ?_ | refine hK _ _ ?_ | refine hK _ ?_); clear hK K) | refine seqVC_nil ?_ | refine AWP.block ?_ | (refine AWP.cond (by with_unfolding_all rfl) ?_ ?_ <;> intro h <;> (try simp only [zM, zN] at h) <;> try exact absurd h (by decide)) | refine AWP.skip ?_ | refine AWP.ret ?_ | refine AWP.exit ?_ | (refine ⟨(by first | omega | (simp only [List.length_append, List.length_map, List.length_take, List.length_drop, List.length_cons, List.length_nil, List.length_replicate]; omega) : _ ≤ _), ?_⟩) | refine ⟨by omega, by omega, ?_⟩) | (refine ⟨1000001, _, _, _, draw_k 1000001 g.s hg ((calsV c.calls sort).length : Int) (by omega), rfl, ?_⟩) | ( refine ⟨hv.1, encCal d, hpk, ?_⟩) | ( refine ⟨hv.1, ?_⟩) | ( refine ⟨encCal d, hpk, ?_⟩) | (with_reducible first | refine Or.inl ?_) | (clear hK K))
  refine AWP.len 60 rfl fun hlen1 => ?_
  (try rw [List.length_map] at hlen1)
  refine AWP.range (S := List UInt8 × Gn) (d.params) encZ (fun k s => (62, I .i64 (k : Nat)) :: [(14, S s.1)]) (fun k s => [(13, .cells [.dat (.str d.mod), .dat (.str d.name), .dat (.sl 1 (d.params.map encZ)), .dat (.int .i64 d.res)]), (1000000, mkB c s.2), (1000001, srcB s.2.s)]) [0, 2, 3, 60, 61] [] (fun k s => s = (argAt E env (headV d) g1 d.params k).2) ((d.mod ++ [58] ++ (d.name ++ [40]), g1)) (by simp only [go_sem, zA, zB, zC, zD, zE, zF, zG, reduceCtorEq, zH, zI, zJ, zK, zL, hg1s, hg1k]; exact Gh.to [] (by repeat (first | exact trivial | refine ⟨rfl, ?_⟩ | refine ⟨by (simp only [go_sem, zA, zB, zC, zD, zE, zF, zG, reduceCtorEq, zH, zI, zJ, zK, zL, List.length_append, List.length_map, List.length_cons, List.length_nil, Nat.zero_add]) <;> rfl, ?_⟩)) (by repeat (first | exact trivial | refine ⟨rfl, ?_⟩ | refine ⟨by (simp only [go_sem, zA, zB, zC, zD, zE, zF, zG, reduceCtorEq, zH, zI, zJ, zK, zL, List.length_append, List.length_map, List.length_cons, List.length_nil, Nat.zero_add]) <;> rfl, ?_⟩)) rfl rfl rfl) ?_ ?_ ?_
  ·rw [hhd]; rfl
  ·intro k s p hlt hx hx' hbb hok
   simp only [go_sem, zA, zB, zC, zD, zE, zF, zG, reduceCtorEq, zH, zI, zJ, zK, zL]
   have hk := hfin k (by omega)
   have hk1 := hfst k (by omega)
   have hk2 := hsuc k p hx
   rw [← hok] at hk
   have hsl : s.1.length ≤ 202 + 2 * (L + 2) := by
    have : k * (L + 2) ≤ 2 * (L + 2) := Nat.mul_le_mul_right _ (by omega)
    omega
   have r0 := hE.run p env s.2 hk.1 he
   have l0 := hE.len p env s.2 hk.1 he
   have hst : (argAt E env (headV d) g1 d.params (k + 1)).2 = ((bif decide (k = 0) then s.1 else s.1 ++ [44, 32]) ++ (E p env s.2).1, (E p env s.2).2) := by rw [hk2]; simp only [argStep, ← hok, hk1]
   by_cases hk0 : k = 0
   ·have hd0 : decide (0 < (k : Int)) = false := by rw [decide_eq_false_iff_not]; omega
    rw [show decide (k = 0) = true from by simp [hk0], cond_true] at hst
    repeat' (first | (simp only [go_sem, zA, zB, zC, zD, zE, zF, zG, reduceCtorEq, zH, zI, zJ, zK, zL, List.length_map, hbb, encZ, hd0, hD, Bx.puts]; all_goals fail_if_success guard_target =ₛ False) | (with_reducible first | ((first | refine seqVC_stepN rfl ?_ | refine AWP.seq ?_ | refine AWP.seqR (by kernel_rfl) ?_); intro K hK) | ((first | refine hK _ _ _ ?_ | refine hK _ _ ?_ | refine hK _ ?_); clear hK K) | refine seqVC_nil ?_ | refine AWP.block ?_ | (refine AWP.cond (by with_unfolding_all rfl) ?_ ?_ <;> intro h <;> (try simp only [zM, zN] at h) <;> try exact absurd h (by decide)) | refine AWP.skip ?_ | refine AWP.ret ?_ | refine AWP.exit ?_ | refine ⟨by omega, encZ p, hx', ?_⟩ | refine ⟨encZ p, hx', ?_⟩ | (refine ⟨(by first | omega | (simp only [List.length_append, List.length_map, List.length_take, List.length_drop, List.length_cons, List.length_nil, List.length_replicate]; omega) : _ ≤ _), ?_⟩) | refine ⟨by omega, by omega, ?_⟩) | ( refine Or.inr ⟨_, _, _, r0, ⟨rfl, rfl, trivial⟩, rfl, rfl, ?_⟩) | (with_reducible first | refine Or.inl ?_) | (clear hK K))
    all_goals (rw [wrap_succ hlt hlen1, hst]; exact Gh.to [] (by repeat (first | exact trivial | refine ⟨rfl, ?_⟩ | refine ⟨by (simp only [go_sem, zA, zB, zC, zD, zE, zF, zG, reduceCtorEq, zH, zI, zJ, zK, zL, List.length_append, List.length_map, List.length_cons, List.length_nil, Nat.zero_add]) <;> rfl, ?_⟩)) (by repeat (first | exact trivial | refine ⟨rfl, ?_⟩ | refine ⟨by (simp only [go_sem, zA, zB, zC, zD, zE, zF, zG, reduceCtorEq, zH, zI, zJ, zK, zL, List.length_append, List.length_map, List.length_cons, List.length_nil, Nat.zero_add]) <;> rfl, ?_⟩)) rfl rfl rfl)
   ·have hd0 : decide (0 < (k : Int)) = true := by rw [decide_eq_true_eq]; omega
    rw [show decide (k = 0) = false from by simp [hk0], cond_false] at hst
    repeat' (first | (simp only [go_sem, zA, zB, zC, zD, zE, zF, zG, reduceCtorEq, zH, zI, zJ, zK, zL, List.length_map, hbb, encZ, hd0, hD, Bx.puts]; all_goals fail_if_success guard_target =ₛ False) | (with_reducible first | ((first | refine seqVC_stepN rfl ?_ | refine AWP.seq ?_ | refine AWP.seqR (by kernel_rfl) ?_); intro K hK) | ((first | refine hK _ _ _ ?_ | refine hK _ _ ?_ | refine hK _ ?_); clear hK K) | refine seqVC_nil ?_ | refine AWP.block ?_ | (refine AWP.cond (by with_unfolding_all rfl) ?_ ?_ <;> intro h <;> (try simp only [zM, zN] at h) <;> try exact absurd h (by decide)) | refine AWP.skip ?_ | refine AWP.ret ?_ | refine AWP.exit ?_ | refine ⟨by omega, encZ p, hx', ?_⟩ | refine ⟨encZ p, hx', ?_⟩ | (refine ⟨(by first | omega | (simp only [List.length_append, List.length_map, List.length_take, List.length_drop, List.length_cons, List.length_nil, List.length_replicate]; omega) : _ ≤ _), ?_⟩) | refine ⟨by omega, by omega, ?_⟩) | ( refine Or.inr ⟨_, _, _, r0, ⟨rfl, rfl, trivial⟩, rfl, rfl, ?_⟩) | (with_reducible first | refine Or.inl ?_) | (clear hK K))
    all_goals (rw [wrap_succ hlt hlen1, hst]; exact Gh.to [] (by repeat (first | exact trivial | refine ⟨rfl, ?_⟩ | refine ⟨by (simp only [go_sem, zA, zB, zC, zD, zE, zF, zG, reduceCtorEq, zH, zI, zJ, zK, zL, List.length_append, List.length_map, List.length_cons, List.length_nil, Nat.zero_add]) <;> rfl, ?_⟩)) (by repeat (first | exact trivial | refine ⟨rfl, ?_⟩ | refine ⟨by (simp only [go_sem, zA, zB, zC, zD, zE, zF, zG, reduceCtorEq, zH, zI, zJ, zK, zL, List.length_append, List.length_map, List.length_cons, List.length_nil, Nat.zero_add]) <;> rfl, ?_⟩)) rfl rfl rfl)
  ·intro s hbb hok
   simp only [go_sem, zA, zB, zC, zD, zE, zF, zG, reduceCtorEq, zH, zI, zJ, zK, zL]
   have hk := hfin d.params.length (by omega)
   rw [← hok] at hk
   have hsl : s.1.length ≤ 202 + 2 * (L + 2) := by
    have : d.params.length * (L + 2) ≤ 2 * (L + 2) := Nat.mul_le_mul_right _ (by omega)
    omega
   repeat' (first | (simp only [go_sem, zA, zB, zC, zD, zE, zF, zG, reduceCtorEq, zH, zI, zJ, zK, zL, List.length_map, hbb]; all_goals fail_if_success guard_target =ₛ False) | (with_reducible first | ((first | refine seqVC_stepN rfl ?_ | refine AWP.seq ?_ | refine AWP.seqR (by kernel_rfl) ?_); intro K hK) | ((first | refine hK _ _ _ ?_ | refine hK _ _ ?_ | refine hK _ ?_); clear hK K) | refine seqVC_nil ?_ | refine AWP.block ?_ | (refine AWP.cond (by with_unfolding_all rfl) ?_ ?_ <;> intro h <;> (try simp only [zM, zN] at h) <;> try exact absurd h (by decide)) | refine AWP.skip ?_ | refine AWP.ret ?_ | refine AWP.exit ?_ | (refine ⟨(by first | omega | (simp only [List.length_append, List.length_map, List.length_take, List.length_drop, List.length_cons, List.length_nil, List.length_replicate]; omega) : _ ≤ _), ?_⟩) | refine ⟨by omega, by omega, ?_⟩ | refine Or.inl ?_) | (clear hK K))
   have hcv : callV c E sort env g = (s.1 ++ [41], s.2) := by unfold callV callW; rw [hdd, hg1, ← hok]
   rw [hcv]
   all_goals exact ⟨rfl, fun x hx => List.mem_cons_of_mem _ hx⟩
theorem cals_some (c : Cst) (hc : CstOk c) (D D1 : Int) (m L : Nat) (E : Mk) (hD : IntKind.i64.wrap (D - 1) = D1) (hE : Good c D1 m L E) (hL : L ≤ 1000000) (g : Gn) (hg : g.s.ok) (sort : Int) (env : List NamD) (he : EOk m env) (hn : 0 < (calsV c.calls sort).length) : PCB Tryd.prog 78 [Sp 1000000, I .i64 sort, I .i64 D, Envt env] (gB c g) (.tup [S (callV c E sort env g).1, .one (.dat (.bool true))]) (gB c (callV c E sort env g).2) := by
 cases hmd : decide ((pickV (calsV c.calls sort) g).mod = []) with
 | true => exact cals_own c hc D D1 m L E hD hE hL g hg sort env he hn hmd
 | false => exact cals_far c hc D D1 m L E hD hE hL g hg sort env he hn hmd
def letV (E : Mk) (sort : Int) (env : List NamD) (g : Gn) : List UInt8 × Gn :=
 let a0 := E (drawV (incK g).s 8) env (nxt (incK g) 8)
 let a1 := E sort (env ++ [⟨freshV g, drawV (incK g).s 8⟩]) a0.2
 ([108, 101, 116, 32] ++ freshV g ++ [32, 61, 32] ++ a0.1 ++ [32, 105, 110, 32] ++ a1.1, a1.2)
def raiseV (E : Mk) (env : List NamD) (g : Gn) : List UInt8 × Gn :=
 let a0 := E 7 env g
 ([114, 97, 105, 115, 101, 40] ++ a0.1 ++ [41], a0.2)
theorem e0_c (c : Cst) (hw : c.wild = 0) (hc : CstOk c) (D D1 : Int) (m L : Nat) (E : Mk) (hD : IntKind.i64.wrap (D - 1) = D1) (hD0 : decide (D ≤ 0) = false) (hE : Good c D1 (m + 1) L E) (hL : L ≤ 1000000) (g : Gn) (hg : g.s.ok) (sort : Int) (env : List NamD) (he : EOk m env) (hm : m ≤ 900) (h7 : drawV g.s 7 = 0) : PCB Tryd.prog 56 [Sp 1000000, I .i64 sort, I .i64 D, Envt env] (gB c g) (S (leafV sort env (nxt g 7)).1) (gB c (leafV sort env (nxt g 7)).2) := by
 have hmax : 10000000 ≤ maxLen := by unfold maxLen; omega
 have hw0 : decide (0 < c.wild) = false := by rw [hw]; rfl
 have he1 := he.mono (Nat.le_succ m)
 have hlen1 := he.len
 have r0 := leaf_c c (nxt g 7) (ok_nxt hg 7) sort env (by omega)
 refine PCB.of_body Tryd.func56 rfl (by decide) Tryd.ntmps56 Tryd.results56 rfl rfl rfl ?_ rfl rfl
 repeat' (first | (simp only [go_sem, zA, zB, zC, zD, zE, zF, zG, reduceCtorEq, zH, zI, zJ, zK, zL, Bx.puts, hw0, hD, hD0, List.length_map, h7]; all_goals fail_if_success guard_target =ₛ False) | (with_reducible first | ((first | refine seqVC_stepN rfl ?_ | refine seqVC_stepG rfl (by with_unfolding_all rfl) ?_ | refine AWP.seq ?_ | refine AWP.seqR (by kernel_rfl) ?_ | refine parVC_stepN rfl ?_ | refine parVC_stepG rfl (by with_unfolding_all rfl) ?_ | refine parEVC_stepN rfl ?_ | refine parEVC_stepG rfl (by with_unfolding_all rfl) ?_ | refine genVC_stepN rfl ?_ | refine genVC_stepG rfl (by with_unfolding_all rfl) ?_); intro K hK) | ((first | refine hK _ _ _ ?_ | refine hK _ _ ?_ | refine hK _ ?_); clear hK K) | refine seqVC_nil ?_ | refine parVC_nil ?_ | refine parEVC_nil ?_ | refine genVC_nil ?_ | refine AWP.block ?_ | (refine AWP.cond (by with_unfolding_all rfl) ?_ ?_ <;> intro h <;> (try simp only [zM, zN] at h) <;> try exact absurd h (by decide)) | refine AWP.skip ?_ | refine AWP.ret ?_ | refine AWP.exit ?_ | (refine ⟨fun h => ?_, fun h => ?_⟩ <;> (try simp only [zM, zN] at h) <;> try simp only [h]) | (refine ⟨(by first | omega | (simp only [List.length_append, List.length_map, List.length_take, List.length_drop, List.length_cons, List.length_nil, List.length_replicate]; omega) : _ ≤ _), ?_⟩) | refine ⟨by omega, by omega, ?_⟩) | (refine ⟨1000001, _, _, _, draw_k 1000001 g.s hg 7 (by omega), rfl, ?_⟩) | ( refine Or.inr ⟨_, _, _, r0, ⟨rfl, rfl, trivial⟩, rfl, rfl, ?_⟩) | (with_reducible first | refine AWP.parR mixed (by kernel_rfl) fun K hK => ?_ | refine ⟨(by kernel_rfl : depB _ _ _ = true), ?_⟩ | refine Or.inl ?_) | (clear hK K))
 all_goals first | exact fun x hx => hx | (refine ⟨?_, fun x hx => hx⟩; first | rfl | rfl)
theorem e1a_c (c : Cst) (hw : c.wild = 0) (hc : CstOk c) (D D1 : Int) (m L : Nat) (E : Mk) (hD : IntKind.i64.wrap (D - 1) = D1) (hD0 : decide (D ≤ 0) = false) (hE : Good c D1 (m + 1) L E) (hL : L ≤ 1000000) (g : Gn) (hg : g.s.ok) (sort : Int) (env : List NamD) (he : EOk m env) (hm : m ≤ 900) (h7 : drawV g.s 7 = 1) (hn : 0 < (calsV c.calls sort).length) : PCB Tryd.prog 56 [Sp 1000000, I .i64 sort, I .i64 D, Envt env] (gB c g) (S (callV c E sort env (nxt g 7)).1) (gB c (callV c E sort env (nxt g 7)).2) := by
 have hmax : 10000000 ≤ maxLen := by unfold maxLen; omega
 have hw0 : decide (0 < c.wild) = false := by rw [hw]; rfl
 have he1 := he.mono (Nat.le_succ m)
 have hlen1 := he.len
 have r0 := cals_some c hc D D1 (m + 1) L E hD hE hL (nxt g 7) (ok_nxt hg 7) sort env he1 hn
 refine PCB.of_body Tryd.func56 rfl (by decide) Tryd.ntmps56 Tryd.results56 rfl rfl rfl ?_ rfl rfl
 repeat' (first | (simp only [go_sem, zA, zB, zC, zD, zE, zF, zG, reduceCtorEq, zH, zI, zJ, zK, zL, Bx.puts, hw0, hD, hD0, List.length_map, h7]; all_goals fail_if_success guard_target =ₛ False) | (with_reducible first | ((first | refine seqVC_stepN rfl ?_ | refine seqVC_stepG rfl (by with_unfolding_all rfl) ?_ | refine AWP.seq ?_ | refine AWP.seqR (by kernel_rfl) ?_ | refine parVC_stepN rfl ?_ | refine parVC_stepG rfl (by with_unfolding_all rfl) ?_ | refine parEVC_stepN rfl ?_ | refine parEVC_stepG rfl (by with_unfolding_all rfl) ?_ | refine genVC_stepN rfl ?_ | refine genVC_stepG rfl (by with_unfolding_all rfl) ?_); intro K hK) | ((first | refine hK _ _ _ ?_ | refine hK _ _ ?_ | refine hK _ ?_); clear hK K) | refine seqVC_nil ?_ | refine parVC_nil ?_ | refine parEVC_nil ?_ | refine genVC_nil ?_ | refine AWP.block ?_ | (refine AWP.cond (by with_unfolding_all rfl) ?_ ?_ <;> intro h <;> (try simp only [zM, zN] at h) <;> try exact absurd h (by decide)) | refine AWP.skip ?_ | refine AWP.ret ?_ | refine AWP.exit ?_ | (refine ⟨fun h => ?_, fun h => ?_⟩ <;> (try simp only [zM, zN] at h) <;> try simp only [h]) | (refine ⟨(by first | omega | (simp only [List.length_append, List.length_map, List.length_take, List.length_drop, List.length_cons, List.length_nil, List.length_replicate]; omega) : _ ≤ _), ?_⟩) | refine ⟨by omega, by omega, ?_⟩) | (refine ⟨1000001, _, _, _, draw_k 1000001 g.s hg 7 (by omega), rfl, ?_⟩) | ( refine Or.inr ⟨_, _, _, r0, ⟨rfl, rfl, trivial⟩, rfl, rfl, ?_⟩) | (with_reducible first | refine AWP.parR mixed (by kernel_rfl) fun K hK => ?_ | refine ⟨(by kernel_rfl : depB _ _ _ = true), ?_⟩ | refine Or.inl ?_) | (clear hK K))
 all_goals first | exact fun x hx => hx | (refine ⟨?_, fun x hx => hx⟩; first | rfl | rfl)
theorem e1b_c (c : Cst) (hw : c.wild = 0) (hc : CstOk c) (D D1 : Int) (m L : Nat) (E : Mk) (hD : IntKind.i64.wrap (D - 1) = D1) (hD0 : decide (D ≤ 0) = false) (hE : Good c D1 (m + 1) L E) (hL : L ≤ 1000000) (g : Gn) (hg : g.s.ok) (sort : Int) (env : List NamD) (he : EOk m env) (hm : m ≤ 900) (h7 : drawV g.s 7 = 1) (hn : (calsV c.calls sort).length = 0) : PCB Tryd.prog 56 [Sp 1000000, I .i64 sort, I .i64 D, Envt env] (gB c g) (S (specialV E sort env (nxt g 7)).1) (gB c (specialV E sort env (nxt g 7)).2) := by
 have hmax : 10000000 ≤ maxLen := by unfold maxLen; omega
 have hw0 : decide (0 < c.wild) = false := by rw [hw]; rfl
 have he1 := he.mono (Nat.le_succ m)
 have hlen1 := he.len
 have r0 := cals_none c hc D (nxt g 7) sort env hn
 have r1 := special_c c D D1 m L E hD hE hL (nxt g 7) (ok_nxt hg 7) sort env he hm
 refine PCB.of_body Tryd.func56 rfl (by decide) Tryd.ntmps56 Tryd.results56 rfl rfl rfl ?_ rfl rfl
 repeat' (first | (simp only [go_sem, zA, zB, zC, zD, zE, zF, zG, reduceCtorEq, zH, zI, zJ, zK, zL, Bx.puts, hw0, hD, hD0, List.length_map, h7]; all_goals fail_if_success guard_target =ₛ False) | (with_reducible first | ((first | refine seqVC_stepN rfl ?_ | refine seqVC_stepG rfl (by with_unfolding_all rfl) ?_ | refine AWP.seq ?_ | refine AWP.seqR (by kernel_rfl) ?_ | refine parVC_stepN rfl ?_ | refine parVC_stepG rfl (by with_unfolding_all rfl) ?_ | refine parEVC_stepN rfl ?_ | refine parEVC_stepG rfl (by with_unfolding_all rfl) ?_ | refine genVC_stepN rfl ?_ | refine genVC_stepG rfl (by with_unfolding_all rfl) ?_); intro K hK) | ((first | refine hK _ _ _ ?_ | refine hK _ _ ?_ | refine hK _ ?_); clear hK K) | refine seqVC_nil ?_ | refine parVC_nil ?_ | refine parEVC_nil ?_ | refine genVC_nil ?_ | refine AWP.block ?_ | (refine AWP.cond (by with_unfolding_all rfl) ?_ ?_ <;> intro h <;> (try simp only [zM, zN] at h) <;> try exact absurd h (by decide)) | refine AWP.skip ?_ | refine AWP.ret ?_ | refine AWP.exit ?_ | (refine ⟨fun h => ?_, fun h => ?_⟩ <;> (try simp only [zM, zN] at h) <;> try simp only [h]) | (refine ⟨(by first | omega | (simp only [List.length_append, List.length_map, List.length_take, List.length_drop, List.length_cons, List.length_nil, List.length_replicate]; omega) : _ ≤ _), ?_⟩) | refine ⟨by omega, by omega, ?_⟩) | (refine ⟨1000001, _, _, _, draw_k 1000001 g.s hg 7 (by omega), rfl, ?_⟩) | ( refine Or.inr ⟨_, _, _, r0, ⟨rfl, rfl, trivial⟩, rfl, rfl, ?_⟩) | ( refine Or.inr ⟨_, _, _, r1, ⟨rfl, rfl, trivial⟩, rfl, rfl, ?_⟩) | (with_reducible first | refine AWP.parR mixed (by kernel_rfl) fun K hK => ?_ | refine ⟨(by kernel_rfl : depB _ _ _ = true), ?_⟩ | refine Or.inl ?_) | (clear hK K))
 all_goals first | exact fun x hx => hx | (refine ⟨?_, fun x hx => hx⟩; first | rfl | rfl)
theorem e2_c (c : Cst) (hw : c.wild = 0) (hc : CstOk c) (D D1 : Int) (m L : Nat) (E : Mk) (hD : IntKind.i64.wrap (D - 1) = D1) (hD0 : decide (D ≤ 0) = false) (hE : Good c D1 (m + 1) L E) (hL : L ≤ 1000000) (g : Gn) (hg : g.s.ok) (sort : Int) (env : List NamD) (he : EOk m env) (hm : m ≤ 900) (h7 : drawV g.s 7 = 2) : PCB Tryd.prog 56 [Sp 1000000, I .i64 sort, I .i64 D, Envt env] (gB c g) (S (branchV E sort env (nxt g 7)).1) (gB c (branchV E sort env (nxt g 7)).2) := by
 have hmax : 10000000 ≤ maxLen := by unfold maxLen; omega
 have hw0 : decide (0 < c.wild) = false := by rw [hw]; rfl
 have he1 := he.mono (Nat.le_succ m)
 have hlen1 := he.len
 have r0 := branch_c c D D1 m L E hD hE hL (nxt g 7) (ok_nxt hg 7) sort env he hm
 refine PCB.of_body Tryd.func56 rfl (by decide) Tryd.ntmps56 Tryd.results56 rfl rfl rfl ?_ rfl rfl
 repeat' (first | (simp only [go_sem, zA, zB, zC, zD, zE, zF, zG, reduceCtorEq, zH, zI, zJ, zK, zL, Bx.puts, hw0, hD, hD0, List.length_map, h7]; all_goals fail_if_success guard_target =ₛ False) | (with_reducible first | ((first | refine seqVC_stepN rfl ?_ | refine seqVC_stepG rfl (by with_unfolding_all rfl) ?_ | refine AWP.seq ?_ | refine AWP.seqR (by kernel_rfl) ?_ | refine parVC_stepN rfl ?_ | refine parVC_stepG rfl (by with_unfolding_all rfl) ?_ | refine parEVC_stepN rfl ?_ | refine parEVC_stepG rfl (by with_unfolding_all rfl) ?_ | refine genVC_stepN rfl ?_ | refine genVC_stepG rfl (by with_unfolding_all rfl) ?_); intro K hK) | ((first | refine hK _ _ _ ?_ | refine hK _ _ ?_ | refine hK _ ?_); clear hK K) | refine seqVC_nil ?_ | refine parVC_nil ?_ | refine parEVC_nil ?_ | refine genVC_nil ?_ | refine AWP.block ?_ | (refine AWP.cond (by with_unfolding_all rfl) ?_ ?_ <;> intro h <;> (try simp only [zM, zN] at h) <;> try exact absurd h (by decide)) | refine AWP.skip ?_ | refine AWP.ret ?_ | refine AWP.exit ?_ | (refine ⟨fun h => ?_, fun h => ?_⟩ <;> (try simp only [zM, zN] at h) <;> try simp only [h]) | (refine ⟨(by first | omega | (simp only [List.length_append, List.length_map, List.length_take, List.length_drop, List.length_cons, List.length_nil, List.length_replicate]; omega) : _ ≤ _), ?_⟩) | refine ⟨by omega, by omega, ?_⟩) | (refine ⟨1000001, _, _, _, draw_k 1000001 g.s hg 7 (by omega), rfl, ?_⟩) | ( refine Or.inr ⟨_, _, _, r0, ⟨rfl, rfl, trivial⟩, rfl, rfl, ?_⟩) | (with_reducible first | refine AWP.parR mixed (by kernel_rfl) fun K hK => ?_ | refine ⟨(by kernel_rfl : depB _ _ _ = true), ?_⟩ | refine Or.inl ?_) | (clear hK K))
 all_goals first | exact fun x hx => hx | (refine ⟨?_, fun x hx => hx⟩; first | rfl | rfl)
theorem e4a_c (c : Cst) (hw : c.wild = 0) (hc : CstOk c) (D D1 : Int) (m L : Nat) (E : Mk) (hD : IntKind.i64.wrap (D - 1) = D1) (hD0 : decide (D ≤ 0) = false) (hE : Good c D1 (m + 1) L E) (hL : L ≤ 1000000) (g : Gn) (hg : g.s.ok) (sort : Int) (env : List NamD) (he : EOk m env) (hm : m ≤ 900) (h7 : drawV g.s 7 = 4) (hmy : c.many = true) : PCB Tryd.prog 56 [Sp 1000000, I .i64 sort, I .i64 D, Envt env] (gB c g) (S (processV E sort env (nxt g 7)).1) (gB c (processV E sort env (nxt g 7)).2) := by
 have hmax : 10000000 ≤ maxLen := by unfold maxLen; omega
 have hw0 : decide (0 < c.wild) = false := by rw [hw]; rfl
 have he1 := he.mono (Nat.le_succ m)
 have hlen1 := he.len
 have r0 := process_c c D D1 m L E hD hE hL (nxt g 7) (ok_nxt hg 7) sort env he hm
 refine PCB.of_body Tryd.func56 rfl (by decide) Tryd.ntmps56 Tryd.results56 rfl rfl rfl ?_ rfl rfl
 repeat' (first | (simp only [go_sem, zA, zB, zC, zD, zE, zF, zG, reduceCtorEq, zH, zI, zJ, zK, zL, Bx.puts, hw0, hD, hD0, List.length_map, h7, hmy]; all_goals fail_if_success guard_target =ₛ False) | (with_reducible first | ((first | refine seqVC_stepN rfl ?_ | refine seqVC_stepG rfl (by with_unfolding_all rfl) ?_ | refine AWP.seq ?_ | refine AWP.seqR (by kernel_rfl) ?_ | refine parVC_stepN rfl ?_ | refine parVC_stepG rfl (by with_unfolding_all rfl) ?_ | refine parEVC_stepN rfl ?_ | refine parEVC_stepG rfl (by with_unfolding_all rfl) ?_ | refine genVC_stepN rfl ?_ | refine genVC_stepG rfl (by with_unfolding_all rfl) ?_); intro K hK) | ((first | refine hK _ _ _ ?_ | refine hK _ _ ?_ | refine hK _ ?_); clear hK K) | refine seqVC_nil ?_ | refine parVC_nil ?_ | refine parEVC_nil ?_ | refine genVC_nil ?_ | refine AWP.block ?_ | (refine AWP.cond (by with_unfolding_all rfl) ?_ ?_ <;> intro h <;> (try simp only [zM, zN] at h) <;> try exact absurd h (by decide)) | refine AWP.skip ?_ | refine AWP.ret ?_ | refine AWP.exit ?_ | (refine ⟨fun h => ?_, fun h => ?_⟩ <;> (try simp only [zM, zN] at h) <;> try simp only [h]) | (refine ⟨(by first | omega | (simp only [List.length_append, List.length_map, List.length_take, List.length_drop, List.length_cons, List.length_nil, List.length_replicate]; omega) : _ ≤ _), ?_⟩) | refine ⟨by omega, by omega, ?_⟩) | (refine ⟨1000001, _, _, _, draw_k 1000001 g.s hg 7 (by omega), rfl, ?_⟩) | ( refine Or.inr ⟨_, _, _, r0, ⟨rfl, rfl, trivial⟩, rfl, rfl, ?_⟩) | (with_reducible first | refine AWP.parR mixed (by kernel_rfl) fun K hK => ?_ | refine ⟨(by kernel_rfl : depB _ _ _ = true), ?_⟩ | refine Or.inl ?_) | (clear hK K))
 all_goals first | exact fun x hx => hx | (refine ⟨?_, fun x hx => hx⟩; first | rfl | rfl)
theorem e4b_c (c : Cst) (hw : c.wild = 0) (hc : CstOk c) (D D1 : Int) (m L : Nat) (E : Mk) (hD : IntKind.i64.wrap (D - 1) = D1) (hD0 : decide (D ≤ 0) = false) (hE : Good c D1 (m + 1) L E) (hL : L ≤ 1000000) (g : Gn) (hg : g.s.ok) (sort : Int) (env : List NamD) (he : EOk m env) (hm : m ≤ 900) (h7 : drawV g.s 7 = 4) (hmy : c.many = false) : PCB Tryd.prog 56 [Sp 1000000, I .i64 sort, I .i64 D, Envt env] (gB c g) (S (specialV E sort env (nxt g 7)).1) (gB c (specialV E sort env (nxt g 7)).2) := by
 have hmax : 10000000 ≤ maxLen := by unfold maxLen; omega
 have hw0 : decide (0 < c.wild) = false := by rw [hw]; rfl
 have he1 := he.mono (Nat.le_succ m)
 have hlen1 := he.len
 have r0 := special_c c D D1 m L E hD hE hL (nxt g 7) (ok_nxt hg 7) sort env he hm
 refine PCB.of_body Tryd.func56 rfl (by decide) Tryd.ntmps56 Tryd.results56 rfl rfl rfl ?_ rfl rfl
 repeat' (first | (simp only [go_sem, zA, zB, zC, zD, zE, zF, zG, reduceCtorEq, zH, zI, zJ, zK, zL, Bx.puts, hw0, hD, hD0, List.length_map, h7, hmy]; all_goals fail_if_success guard_target =ₛ False) | (with_reducible first | ((first | refine seqVC_stepN rfl ?_ | refine seqVC_stepG rfl (by with_unfolding_all rfl) ?_ | refine AWP.seq ?_ | refine AWP.seqR (by kernel_rfl) ?_ | refine parVC_stepN rfl ?_ | refine parVC_stepG rfl (by with_unfolding_all rfl) ?_ | refine parEVC_stepN rfl ?_ | refine parEVC_stepG rfl (by with_unfolding_all rfl) ?_ | refine genVC_stepN rfl ?_ | refine genVC_stepG rfl (by with_unfolding_all rfl) ?_); intro K hK) | ((first | refine hK _ _ _ ?_ | refine hK _ _ ?_ | refine hK _ ?_); clear hK K) | refine seqVC_nil ?_ | refine parVC_nil ?_ | refine parEVC_nil ?_ | refine genVC_nil ?_ | refine AWP.block ?_ | (refine AWP.cond (by with_unfolding_all rfl) ?_ ?_ <;> intro h <;> (try simp only [zM, zN] at h) <;> try exact absurd h (by decide)) | refine AWP.skip ?_ | refine AWP.ret ?_ | refine AWP.exit ?_ | (refine ⟨fun h => ?_, fun h => ?_⟩ <;> (try simp only [zM, zN] at h) <;> try simp only [h]) | (refine ⟨(by first | omega | (simp only [List.length_append, List.length_map, List.length_take, List.length_drop, List.length_cons, List.length_nil, List.length_replicate]; omega) : _ ≤ _), ?_⟩) | refine ⟨by omega, by omega, ?_⟩) | (refine ⟨1000001, _, _, _, draw_k 1000001 g.s hg 7 (by omega), rfl, ?_⟩) | ( refine Or.inr ⟨_, _, _, r0, ⟨rfl, rfl, trivial⟩, rfl, rfl, ?_⟩) | (with_reducible first | refine AWP.parR mixed (by kernel_rfl) fun K hK => ?_ | refine ⟨(by kernel_rfl : depB _ _ _ = true), ?_⟩ | refine Or.inl ?_) | (clear hK K))
 all_goals first | exact fun x hx => hx | (refine ⟨?_, fun x hx => hx⟩; first | rfl | rfl)
theorem e5a_c (c : Cst) (hw : c.wild = 0) (hc : CstOk c) (D D1 : Int) (m L : Nat) (E : Mk) (hD : IntKind.i64.wrap (D - 1) = D1) (hD0 : decide (D ≤ 0) = false) (hE : Good c D1 (m + 1) L E) (hL : L ≤ 1000000) (g : Gn) (hg : g.s.ok) (sort : Int) (env : List NamD) (he : EOk m env) (hm : m ≤ 900) (h7 : drawV g.s 7 = 5) (h6 : drawV (nxt g 7).s 6 = 5) : PCB Tryd.prog 56 [Sp 1000000, I .i64 sort, I .i64 D, Envt env] (gB c g) (S (raiseV E env (nxt (nxt g 7) 6)).1) (gB c (raiseV E env (nxt (nxt g 7) 6)).2) := by
 have hmax : 10000000 ≤ maxLen := by unfold maxLen; omega
 have hw0 : decide (0 < c.wild) = false := by rw [hw]; rfl
 have he1 := he.mono (Nat.le_succ m)
 have hlen1 := he.len
 have r0 := hE.run 7 env (nxt (nxt g 7) 6) (ok_nxt (ok_nxt hg 7) 6) he1
 have l0 := hE.len 7 env (nxt (nxt g 7) 6) (ok_nxt (ok_nxt hg 7) 6) he1
 refine PCB.of_body Tryd.func56 rfl (by decide) Tryd.ntmps56 Tryd.results56 rfl rfl rfl ?_ rfl rfl
 repeat' (first | (simp only [go_sem, zA, zB, zC, zD, zE, zF, zG, reduceCtorEq, zH, zI, zJ, zK, zL, Bx.puts, hw0, hD, hD0, List.length_map, h7, h6]; all_goals fail_if_success guard_target =ₛ False) | (with_reducible first | ((first | refine seqVC_stepN rfl ?_ | refine seqVC_stepG rfl (by with_unfolding_all rfl) ?_ | refine AWP.seq ?_ | refine AWP.seqR (by kernel_rfl) ?_ | refine parVC_stepN rfl ?_ | refine parVC_stepG rfl (by with_unfolding_all rfl) ?_ | refine parEVC_stepN rfl ?_ | refine parEVC_stepG rfl (by with_unfolding_all rfl) ?_ | refine genVC_stepN rfl ?_ | refine genVC_stepG rfl (by with_unfolding_all rfl) ?_); intro K hK) | ((first | refine hK _ _ _ ?_ | refine hK _ _ ?_ | refine hK _ ?_); clear hK K) | refine seqVC_nil ?_ | refine parVC_nil ?_ | refine parEVC_nil ?_ | refine genVC_nil ?_ | refine AWP.block ?_ | (refine AWP.cond (by with_unfolding_all rfl) ?_ ?_ <;> intro h <;> (try simp only [zM, zN] at h) <;> try exact absurd h (by decide)) | refine AWP.skip ?_ | refine AWP.ret ?_ | refine AWP.exit ?_ | (refine ⟨fun h => ?_, fun h => ?_⟩ <;> (try simp only [zM, zN] at h) <;> try simp only [h]) | (refine ⟨(by first | omega | (simp only [List.length_append, List.length_map, List.length_take, List.length_drop, List.length_cons, List.length_nil, List.length_replicate]; omega) : _ ≤ _), ?_⟩) | refine ⟨by omega, by omega, ?_⟩) | (refine ⟨1000001, _, _, _, draw_k 1000001 g.s hg 7 (by omega), rfl, ?_⟩) | (refine ⟨1000001, _, _, _, draw_k 1000001 (nxt g 7).s (ok_nxt hg 7) 6 (by omega), rfl, ?_⟩) | ( refine Or.inr ⟨_, _, _, r0, ⟨rfl, rfl, trivial⟩, rfl, rfl, ?_⟩) | (with_reducible first | refine AWP.parR mixed (by kernel_rfl) fun K hK => ?_ | refine ⟨(by kernel_rfl : depB _ _ _ = true), ?_⟩ | refine Or.inl ?_) | (clear hK K))
 all_goals first | exact fun x hx => hx | (refine ⟨?_, fun x hx => hx⟩; first | rfl | (simp only [raiseV, List.append_assoc, List.cons_append, List.nil_append]))
theorem e5b_c (c : Cst) (hw : c.wild = 0) (hc : CstOk c) (D D1 : Int) (m L : Nat) (E : Mk) (hD : IntKind.i64.wrap (D - 1) = D1) (hD0 : decide (D ≤ 0) = false) (hE : Good c D1 (m + 1) L E) (hL : L ≤ 1000000) (g : Gn) (hg : g.s.ok) (sort : Int) (env : List NamD) (he : EOk m env) (hm : m ≤ 900) (h7 : drawV g.s 7 = 5) (h6 : decide (drawV (nxt g 7).s 6 = 5) = false) : PCB Tryd.prog 56 [Sp 1000000, I .i64 sort, I .i64 D, Envt env] (gB c g) (S (specialV E sort env (nxt (nxt g 7) 6)).1) (gB c (specialV E sort env (nxt (nxt g 7) 6)).2) := by
 have hmax : 10000000 ≤ maxLen := by unfold maxLen; omega
 have hw0 : decide (0 < c.wild) = false := by rw [hw]; rfl
 have he1 := he.mono (Nat.le_succ m)
 have hlen1 := he.len
 have r0 := special_c c D D1 m L E hD hE hL (nxt (nxt g 7) 6) (ok_nxt (ok_nxt hg 7) 6) sort env he hm
 refine PCB.of_body Tryd.func56 rfl (by decide) Tryd.ntmps56 Tryd.results56 rfl rfl rfl ?_ rfl rfl
 repeat' (first | (simp only [go_sem, zA, zB, zC, zD, zE, zF, zG, reduceCtorEq, zH, zI, zJ, zK, zL, Bx.puts, hw0, hD, hD0, List.length_map, h7, h6]; all_goals fail_if_success guard_target =ₛ False) | (with_reducible first | ((first | refine seqVC_stepN rfl ?_ | refine seqVC_stepG rfl (by with_unfolding_all rfl) ?_ | refine AWP.seq ?_ | refine AWP.seqR (by kernel_rfl) ?_ | refine parVC_stepN rfl ?_ | refine parVC_stepG rfl (by with_unfolding_all rfl) ?_ | refine parEVC_stepN rfl ?_ | refine parEVC_stepG rfl (by with_unfolding_all rfl) ?_ | refine genVC_stepN rfl ?_ | refine genVC_stepG rfl (by with_unfolding_all rfl) ?_); intro K hK) | ((first | refine hK _ _ _ ?_ | refine hK _ _ ?_ | refine hK _ ?_); clear hK K) | refine seqVC_nil ?_ | refine parVC_nil ?_ | refine parEVC_nil ?_ | refine genVC_nil ?_ | refine AWP.block ?_ | (refine AWP.cond (by with_unfolding_all rfl) ?_ ?_ <;> intro h <;> (try simp only [zM, zN] at h) <;> try exact absurd h (by decide)) | refine AWP.skip ?_ | refine AWP.ret ?_ | refine AWP.exit ?_ | (refine ⟨fun h => ?_, fun h => ?_⟩ <;> (try simp only [zM, zN] at h) <;> try simp only [h]) | (refine ⟨(by first | omega | (simp only [List.length_append, List.length_map, List.length_take, List.length_drop, List.length_cons, List.length_nil, List.length_replicate]; omega) : _ ≤ _), ?_⟩) | refine ⟨by omega, by omega, ?_⟩) | (refine ⟨1000001, _, _, _, draw_k 1000001 g.s hg 7 (by omega), rfl, ?_⟩) | (refine ⟨1000001, _, _, _, draw_k 1000001 (nxt g 7).s (ok_nxt hg 7) 6 (by omega), rfl, ?_⟩) | ( refine Or.inr ⟨_, _, _, r0, ⟨rfl, rfl, trivial⟩, rfl, rfl, ?_⟩) | (with_reducible first | refine AWP.parR mixed (by kernel_rfl) fun K hK => ?_ | refine ⟨(by kernel_rfl : depB _ _ _ = true), ?_⟩ | refine Or.inl ?_) | (clear hK K))
 all_goals first | exact fun x hx => hx | (refine ⟨?_, fun x hx => hx⟩; first | rfl | rfl)
theorem e6_c (c : Cst) (hw : c.wild = 0) (hc : CstOk c) (D D1 : Int) (m L : Nat) (E : Mk) (hD : IntKind.i64.wrap (D - 1) = D1) (hD0 : decide (D ≤ 0) = false) (hE : Good c D1 (m + 1) L E) (hL : L ≤ 1000000) (g : Gn) (hg : g.s.ok) (sort : Int) (env : List NamD) (he : EOk m env) (hm : m ≤ 900) (h7 : drawV g.s 7 = 6) : PCB Tryd.prog 56 [Sp 1000000, I .i64 sort, I .i64 D, Envt env] (gB c g) (S (specialV E sort env (nxt g 7)).1) (gB c (specialV E sort env (nxt g 7)).2) := by
 have hmax : 10000000 ≤ maxLen := by unfold maxLen; omega
 have hw0 : decide (0 < c.wild) = false := by rw [hw]; rfl
 have he1 := he.mono (Nat.le_succ m)
 have hlen1 := he.len
 have r0 := special_c c D D1 m L E hD hE hL (nxt g 7) (ok_nxt hg 7) sort env he hm
 refine PCB.of_body Tryd.func56 rfl (by decide) Tryd.ntmps56 Tryd.results56 rfl rfl rfl ?_ rfl rfl
 repeat' (first | (simp only [go_sem, zA, zB, zC, zD, zE, zF, zG, reduceCtorEq, zH, zI, zJ, zK, zL, Bx.puts, hw0, hD, hD0, List.length_map, h7]; all_goals fail_if_success guard_target =ₛ False) | (with_reducible first | ((first | refine seqVC_stepN rfl ?_ | refine seqVC_stepG rfl (by with_unfolding_all rfl) ?_ | refine AWP.seq ?_ | refine AWP.seqR (by kernel_rfl) ?_ | refine parVC_stepN rfl ?_ | refine parVC_stepG rfl (by with_unfolding_all rfl) ?_ | refine parEVC_stepN rfl ?_ | refine parEVC_stepG rfl (by with_unfolding_all rfl) ?_ | refine genVC_stepN rfl ?_ | refine genVC_stepG rfl (by with_unfolding_all rfl) ?_); intro K hK) | ((first | refine hK _ _ _ ?_ | refine hK _ _ ?_ | refine hK _ ?_); clear hK K) | refine seqVC_nil ?_ | refine parVC_nil ?_ | refine parEVC_nil ?_ | refine genVC_nil ?_ | refine AWP.block ?_ | (refine AWP.cond (by with_unfolding_all rfl) ?_ ?_ <;> intro h <;> (try simp only [zM, zN] at h) <;> try exact absurd h (by decide)) | refine AWP.skip ?_ | refine AWP.ret ?_ | refine AWP.exit ?_ | (refine ⟨fun h => ?_, fun h => ?_⟩ <;> (try simp only [zM, zN] at h) <;> try simp only [h]) | (refine ⟨(by first | omega | (simp only [List.length_append, List.length_map, List.length_take, List.length_drop, List.length_cons, List.length_nil, List.length_replicate]; omega) : _ ≤ _), ?_⟩) | refine ⟨by omega, by omega, ?_⟩) | (refine ⟨1000001, _, _, _, draw_k 1000001 g.s hg 7 (by omega), rfl, ?_⟩) | ( refine Or.inr ⟨_, _, _, r0, ⟨rfl, rfl, trivial⟩, rfl, rfl, ?_⟩) | (with_reducible first | refine AWP.parR mixed (by kernel_rfl) fun K hK => ?_ | refine ⟨(by kernel_rfl : depB _ _ _ = true), ?_⟩ | refine Or.inl ?_) | (clear hK K))
 all_goals first | exact fun x hx => hx | (refine ⟨?_, fun x hx => hx⟩; first | rfl | rfl)
theorem e3_c (c : Cst) (hw : c.wild = 0) (hc : CstOk c) (D D1 : Int) (m L : Nat) (E : Mk) (hD : IntKind.i64.wrap (D - 1) = D1) (hD0 : decide (D ≤ 0) = false) (hE : Good c D1 (m + 1) L E) (hL : L ≤ 1000000) (g : Gn) (hg : g.s.ok) (sort : Int) (env : List NamD) (he : EOk m env) (hm : m ≤ 900) (h7 : drawV g.s 7 = 3) : PCB Tryd.prog 56 [Sp 1000000, I .i64 sort, I .i64 D, Envt env] (gB c g) (S (letV E sort env (nxt g 7)).1) (gB c (letV E sort env (nxt g 7)).2) := by
 have hmax : 10000000 ≤ maxLen := by unfold maxLen; omega
 have hw0 : decide (0 < c.wild) = false := by rw [hw]; rfl
 have he1 := he.mono (Nat.le_succ m)
 have hlen1 := he.len
 have hlf := freshV_len (nxt g 7)
 have hok8 := ok_nxt (g := incK (nxt g 7)) (ok_nxt hg 7) 8
 have r0 := hE.run (drawV (incK (nxt g 7)).s 8) env (nxt (incK (nxt g 7)) 8) hok8 he1
 have k0 := hE.ok (drawV (incK (nxt g 7)).s 8) env (nxt (incK (nxt g 7)) 8) hok8 he1
 have l0 := hE.len (drawV (incK (nxt g 7)).s 8) env (nxt (incK (nxt g 7)) 8) hok8 he1
 have hein : EOk (m + 1) (env ++ [(⟨freshV (nxt g 7), drawV (incK (nxt g 7)).s 8⟩ : NamD)]) := he.snoc _ (by simp only; omega)
 have hlen2 := hein.len
 have r1 := hE.run sort (env ++ [⟨freshV (nxt g 7), drawV (incK (nxt g 7)).s 8⟩]) (E (drawV (incK (nxt g 7)).s 8) env (nxt (incK (nxt g 7)) 8)).2 k0 hein
 have l1 := hE.len sort (env ++ [⟨freshV (nxt g 7), drawV (incK (nxt g 7)).s 8⟩]) (E (drawV (incK (nxt g 7)).s 8) env (nxt (incK (nxt g 7)) 8)).2 k0 hein
 refine PCB.of_body Tryd.func56 rfl (by decide) Tryd.ntmps56 Tryd.results56 rfl rfl rfl ?_ rfl rfl
 repeat' (first | (simp only [go_sem, zA, zB, zC, zD, zE, zF, zG, reduceCtorEq, zH, zI, zJ, zK, zL, Bx.puts, hw0, hD, hD0, h7, nam_snoc, List.length_map]; all_goals fail_if_success guard_target =ₛ False) | (with_reducible first | ((first | refine seqVC_stepN rfl ?_ | refine seqVC_stepG rfl (by with_unfolding_all rfl) ?_ | refine AWP.seq ?_ | refine AWP.seqR (by kernel_rfl) ?_ | refine parVC_stepN rfl ?_ | refine parVC_stepG rfl (by with_unfolding_all rfl) ?_ | refine parEVC_stepN rfl ?_ | refine parEVC_stepG rfl (by with_unfolding_all rfl) ?_ | refine genVC_stepN rfl ?_ | refine genVC_stepG rfl (by with_unfolding_all rfl) ?_); intro K hK) | ((first | refine hK _ _ _ ?_ | refine hK _ _ ?_ | refine hK _ ?_); clear hK K) | refine seqVC_nil ?_ | refine parVC_nil ?_ | refine parEVC_nil ?_ | refine genVC_nil ?_ | refine AWP.block ?_ | (refine AWP.cond (by with_unfolding_all rfl) ?_ ?_ <;> intro h <;> (try simp only [zM, zN] at h) <;> try exact absurd h (by decide)) | refine AWP.skip ?_ | refine AWP.ret ?_ | refine AWP.exit ?_ | (refine ⟨fun h => ?_, fun h => ?_⟩ <;> (try simp only [zM, zN] at h) <;> try simp only [h]) | (refine ⟨(by first | omega | (simp only [List.length_append, List.length_map, List.length_take, List.length_drop, List.length_cons, List.length_nil, List.length_replicate]; omega) : _ ≤ _), ?_⟩) | refine ⟨by omega, by omega, ?_⟩) | (refine ⟨1000001, _, _, _, draw_k 1000001 g.s hg 7 (by omega), rfl, ?_⟩) | ( refine Or.inr ⟨_, _, _, fresh_c c (nxt g 7), ⟨rfl, rfl, trivial⟩, rfl, rfl, ?_⟩) | (refine ⟨1000001, _, _, _, draw_k 1000001 (incK (nxt g 7)).s (ok_nxt hg 7) 8 (by omega), rfl, ?_⟩) | ( refine Or.inr ⟨_, _, _, r0, ⟨rfl, rfl, trivial⟩, rfl, rfl, ?_⟩) | ( refine Or.inr ⟨rfl, (by simp only [go_sem, T.frOks, List.length_map]; exact fun _ => trivial), _, _, _, r1, ⟨rfl, rfl, trivial⟩, rfl, rfl, ?_⟩) | (with_reducible first | refine AWP.parR mixed (by kernel_rfl) fun K hK => ?_ | refine ⟨(by kernel_rfl : depB _ _ _ = true), ?_⟩ | refine Or.inl ?_) | (clear hK K))
 all_goals (refine ⟨?_, fun x hx => hx⟩; first | rfl | (simp only [letV, List.append_assoc, List.cons_append, List.nil_append]))
theorem letV_fine {c : Cst} {D : Int} {m L : Nat} {E : Mk} (hE : Good c D (m + 1) L E) (g : Gn) (hg : g.s.ok) (sort : Int) (env : List NamD) (he : EOk m env) : Fine (3 * L + 1000) (letV E sort env g) := by
 have he1 := he.mono (Nat.le_succ m)
 have hlf := freshV_len g
 have hok8 := ok_nxt (g := incK g) hg 8
 have k0 := hE.ok (drawV (incK g).s 8) env (nxt (incK g) 8) hok8 he1
 have l0 := hE.len (drawV (incK g).s 8) env (nxt (incK g) 8) hok8 he1
 have hein : EOk (m + 1) (env ++ [(⟨freshV g, drawV (incK g).s 8⟩ : NamD)]) := he.snoc _ (by simp only; omega)
 have k1 := hE.ok sort (env ++ [⟨freshV g, drawV (incK g).s 8⟩]) (E (drawV (incK g).s 8) env (nxt (incK g) 8)).2 k0 hein
 have l1 := hE.len sort (env ++ [⟨freshV g, drawV (incK g).s 8⟩]) (E (drawV (incK g).s 8) env (nxt (incK g) 8)).2 k0 hein
 exact ⟨k1, by simp only [letV, List.length_append, List.length_cons, List.length_nil]; omega⟩
theorem raiseV_fine {c : Cst} {D : Int} {m L : Nat} {E : Mk} (hE : Good c D m L E) (g : Gn) (hg : g.s.ok) (env : List NamD) (he : EOk m env) : Fine (3 * L + 1000) (raiseV E env g) := by
 have k0 := hE.ok 7 env g hg he
 have l0 := hE.len 7 env g hg he
 exact ⟨k0, by simp only [raiseV, List.length_append, List.length_cons, List.length_nil]; omega⟩
/-- an expression of one level more -/
def stepE (c : Cst) (E : Mk) (sort : Int) (env : List NamD) (g : Gn) : List UInt8 × Gn :=
 bif decide (drawV g.s 7 = 0) then leafV sort env (nxt g 7)
 else bif decide (drawV g.s 7 = 1) then (bif decide ((calsV c.calls sort).length = 0) then specialV E sort env (nxt g 7) else callV c E sort env (nxt g 7))
 else bif decide (drawV g.s 7 = 2) then branchV E sort env (nxt g 7)
 else bif decide (drawV g.s 7 = 3) then letV E sort env (nxt g 7)
 else bif decide (drawV g.s 7 = 4) then (bif c.many then processV E sort env (nxt g 7) else specialV E sort env (nxt g 7))
 else bif decide (drawV g.s 7 = 5) then (bif decide (drawV (nxt g 7).s 6 = 5) then raiseV E env (nxt (nxt g 7) 6) else specialV E sort env (nxt (nxt g 7) 6))
 else specialV E sort env (nxt g 7)
theorem stepE_c (c : Cst) (hw : c.wild = 0) (hc : CstOk c) (D D1 : Int) (m L : Nat) (E : Mk) (hD : IntKind.i64.wrap (D - 1) = D1) (hD0 : decide (D ≤ 0) = false) (hE : Good c D1 (m + 1) L E) (hL : L ≤ 1000000) (g : Gn) (hg : g.s.ok) (sort : Int) (env : List NamD) (he : EOk m env) (hm : m ≤ 900) : PCB Tryd.prog 56 [Sp 1000000, I .i64 sort, I .i64 D, Envt env] (gB c g) (S (stepE c E sort env g).1) (gB c (stepE c E sort env g).2) := by
 have hv := drawV_in g.s (n := 7) (by omega)
 unfold stepE
 cases a0 : decide (drawV g.s 7 = 0) with
 | true => exact e0_c c hw hc D D1 m L E hD hD0 hE hL g hg sort env he hm (by simpa using a0)
 | false =>
 cases a1 : decide (drawV g.s 7 = 1) with
 | true =>
  cases b : decide ((calsV c.calls sort).length = 0) with
  | true => exact e1b_c c hw hc D D1 m L E hD hD0 hE hL g hg sort env he hm (by simpa using a1) (by simpa only [decide_eq_true_eq] using b)
  | false => exact e1a_c c hw hc D D1 m L E hD hD0 hE hL g hg sort env he hm (by simpa using a1) (by rw [decide_eq_false_iff_not] at b; omega)
 | false =>
 cases a2 : decide (drawV g.s 7 = 2) with
 | true => exact e2_c c hw hc D D1 m L E hD hD0 hE hL g hg sort env he hm (by simpa using a2)
 | false =>
 cases a3 : decide (drawV g.s 7 = 3) with
 | true => exact e3_c c hw hc D D1 m L E hD hD0 hE hL g hg sort env he hm (by simpa using a3)
 | false =>
 cases a4 : decide (drawV g.s 7 = 4) with
 | true =>
  cases b : c.many with
  | true => exact e4a_c c hw hc D D1 m L E hD hD0 hE hL g hg sort env he hm (by simpa using a4) b
  | false => exact e4b_c c hw hc D D1 m L E hD hD0 hE hL g hg sort env he hm (by simpa using a4) b
 | false =>
 cases a5 : decide (drawV g.s 7 = 5) with
 | true =>
  cases b : decide (drawV (nxt g 7).s 6 = 5) with
  | true => exact e5a_c c hw hc D D1 m L E hD hD0 hE hL g hg sort env he hm (by simpa using a5) (by simpa using b)
  | false => exact e5b_c c hw hc D D1 m L E hD hD0 hE hL g hg sort env he hm (by simpa using a5) b
 | false =>
  simp only [decide_eq_false_iff_not] at a0 a1 a2 a3 a4 a5
  exact e6_c c hw hc D D1 m L E hD hD0 hE hL g hg sort env he hm (by omega)
theorem stepE_fine {c : Cst} (hc : CstOk c) {D : Int} {m L : Nat} {E : Mk} (hE : Good c D (m + 1) L E) (g : Gn) (hg : g.s.ok) (sort : Int) (env : List NamD) (he : EOk m env) : Fine (3 * L + 1000) (stepE c E sort env g) := by
 have he1 := he.mono (Nat.le_succ m)
 have hlf : Fine (3 * L + 1000) (leafV sort env (nxt g 7)) := leafV_fine sort env _ (ok_nxt hg 7) _ (by omega) (fun x hx => by have := he.txt x hx; omega)
 unfold stepE
 refine bif_fine _ hlf (bif_fine _ ?_ (bif_fine _ (branchV_fine hE _ (ok_nxt hg 7) sort env he) (bif_fine _ (letV_fine hE _ (ok_nxt hg 7) sort env he) (bif_fine _ (bif_fine _ (processV_fine hE _ (ok_nxt hg 7) sort env he) (specialV_fine hE _ (ok_nxt hg 7) sort env he)) (bif_fine _ (bif_fine _ (raiseV_fine hE _ (ok_nxt (ok_nxt hg 7) 6) env he1) (specialV_fine hE _ (ok_nxt (ok_nxt hg 7) 6) sort env he)) (specialV_fine hE _ (ok_nxt hg 7) sort env he))))))
 cases b : decide ((calsV c.calls sort).length = 0) with
 | true => exact specialV_fine hE _ (ok_nxt hg 7) sort env he
 | false =>
  rw [decide_eq_false_iff_not] at b
  exact callW_fine hE env he1 _ (hc.cal _ (cals_mem (g := nxt g 7) (by omega))) _ (ok_nxt (ok_nxt hg 7) _)
theorem leaf0_c (c : Cst) (hw : c.wild = 0) (D : Int) (hD0 : D ≤ 0) (g : Gn) (hg : g.s.ok) (sort : Int) (env : List NamD) (he : env.length ≤ 1000) : PCB Tryd.prog 56 [Sp 1000000, I .i64 sort, I .i64 D, Envt env] (gB c g) (S (leafV sort env g).1) (gB c (leafV sort env g).2) := by
 have hw0 : decide (0 < c.wild) = false := by rw [hw]; rfl
 have hd0 : decide (D ≤ 0) = true := by simpa using hD0
 have r0 := leaf_c c g hg sort env he
 refine PCB.of_body Tryd.func56 rfl (by decide) Tryd.ntmps56 Tryd.results56 rfl rfl rfl ?_ rfl rfl
 repeat' (first | (simp only [go_sem, zA, zB, zC, zD, zE, zF, zG, reduceCtorEq, zH, zI, zJ, zK, zL, Bx.puts, hw0, hd0, List.length_map]; all_goals fail_if_success guard_target =ₛ False) | (with_reducible first | ((first | refine seqVC_stepN rfl ?_ | refine seqVC_stepG rfl (by with_unfolding_all rfl) ?_ | refine AWP.seq ?_ | refine AWP.seqR (by kernel_rfl) ?_ | refine parVC_stepN rfl ?_ | refine parVC_stepG rfl (by with_unfolding_all rfl) ?_ | refine parEVC_stepN rfl ?_ | refine parEVC_stepG rfl (by with_unfolding_all rfl) ?_ | refine genVC_stepN rfl ?_ | refine genVC_stepG rfl (by with_unfolding_all rfl) ?_); intro K hK) | ((first | refine hK _ _ _ ?_ | refine hK _ _ ?_ | refine hK _ ?_); clear hK K) | refine seqVC_nil ?_ | refine parVC_nil ?_ | refine parEVC_nil ?_ | refine genVC_nil ?_ | refine AWP.block ?_ | (refine AWP.cond (by with_unfolding_all rfl) ?_ ?_ <;> intro h <;> (try simp only [zM, zN] at h) <;> try exact absurd h (by decide)) | refine AWP.skip ?_ | refine AWP.ret ?_ | refine AWP.exit ?_ | (refine ⟨fun h => ?_, fun h => ?_⟩ <;> (try simp only [zM, zN] at h) <;> try simp only [h])) | ( refine Or.inr ⟨_, _, _, r0, ⟨rfl, rfl, trivial⟩, rfl, rfl, ?_⟩) | (with_reducible first | refine AWP.parR mixed (by kernel_rfl) fun K hK => ?_ | refine ⟨(by kernel_rfl : depB _ _ _ = true), ?_⟩ | refine Or.inl ?_) | (clear hK K))
 all_goals first | exact fun x hx => hx | exact ⟨rfl, fun x hx => hx⟩
/-- an expression of a depth -/
def exprV (c : Cst) : Nat → Mk
 | 0 => leafV
 | d + 1 => stepE c (exprV c d)
def lenE : Nat → Nat
 | 0 => 200
 | d + 1 => 3 * lenE d + 1000
theorem expr_good (c : Cst) (hw : c.wild = 0) (hc : CstOk c) : ∀ d : Nat, d ≤ 5 → Good c (d : Int) (800 - d) (lenE d) (exprV c d)
 | 0, _ => by
  have hf := fun sort env g (hg : Src.ok (Gn.s g)) (he : EOk 800 env) => leafV_fine sort env g hg 200 (Nat.le_refl _) he.txt
  exact ⟨fun sort env g hg he => leaf0_c c hw 0 (Int.le_refl _) g hg sort env (by have := he.len; omega), fun sort env g hg he => (hf sort env g hg he).1, fun sort env g hg he => (hf sort env g hg he).2⟩
 | d + 1, hd => by
  have ih := expr_good c hw hc d (by omega)
  rw [show 800 - d = (800 - (d + 1)) + 1 by omega] at ih
  have hL : lenE d ≤ 1000000 := by
   have : ∀ d : Nat, d < 5 → lenE d ≤ 1000000 := by decide
   exact this d (by omega)
  have hf := fun sort env g (hg : Src.ok (Gn.s g)) (he : EOk (800 - (d + 1)) env) => stepE_fine hc ih g hg sort env he
  exact ⟨fun sort env g hg he => stepE_c c hw hc _ d _ (lenE d) (exprV c d) (by rw [wrapI _ (by omega) (by omega)]; omega) (by rw [decide_eq_false_iff_not]; omega) ih hL g hg sort env he (by omega), fun sort env g hg he => (hf sort env g hg he).1, fun sort env g hg he => (hf sort env g hg he).2⟩
def testL (x : List UInt8) : List (List UInt8) := [[105, 115, 95, 105, 110, 116, 40] ++ x ++ [41], [40, 105, 115, 95, 105, 110, 116, 40] ++ x ++ [41, 32, 97, 110, 100, 32, 40] ++ x ++ [32, 60, 32, 53, 41, 41], [40, 110, 111, 116, 32, 40] ++ x ++ [32, 60, 32, 48, 41, 41]]
def testV (x : List UInt8) (sort : Int) (g : Gn) : List UInt8 × Gn :=
 bif decide (sort = 0) then ((testL x).getD (drawV g.s 2).toNat [], nxt g 2)
 else bif decide (sort = 1) then ([40, 40] ++ x ++ [32, 61, 61, 32, 116, 114, 117, 101, 41, 32, 111, 114, 32, 40] ++ x ++ [32, 61, 61, 32, 102, 97, 108, 115, 101, 41, 41], g)
 else bif decide (sort = 2) then ([105, 115, 95, 97, 116, 111, 109, 40] ++ x ++ [41], g)
 else bif decide (sort = 3) then ([105, 115, 95, 108, 105, 115, 116, 40] ++ x ++ [41], g)
 else bif decide (sort = 4) then ([105, 115, 95, 116, 117, 112, 108, 101, 40] ++ x ++ [44, 32, 50, 41], g)
 else bif decide (sort = 5) then ([105, 115, 95, 102, 117, 110, 99, 116, 105, 111, 110, 40] ++ x ++ [44, 32, 49, 41], g)
 else bif decide (sort = 6) then ([40, 105, 115, 95, 109, 97, 112, 40] ++ x ++ [41, 32, 97, 110, 100, 32, 104, 97, 115, 95, 107, 101, 121, 40] ++ x ++ [44, 32, 97, 41, 41], g)
 else ([40, 110, 111, 116, 32, 105, 115, 95, 102, 117, 110, 99, 116, 105, 111, 110, 40] ++ x ++ [44, 32, 49, 41, 41], g)
theorem testV_fine (x : List UInt8) (hx : x.length ≤ 200) (sort : Int) (g : Gn) (hg : g.s.ok) : Fine 500 (testV x sort g) := by
 have hv := drawV_in g.s (n := 2) (by omega)
 have hl : ((testL x).getD (drawV g.s 2).toNat []).length ≤ 500 := by
  have : ∀ y ∈ testL x, y.length ≤ 500 := by
   intro y hy
   simp only [testL, List.mem_cons, List.not_mem_nil, or_false] at hy
   rcases hy with rfl | rfl | rfl <;> simp only [List.length_append, List.length_cons, List.length_nil] <;> omega
  rw [List.getD_eq_getElem?_getD, List.getElem?_eq_getElem (show (drawV g.s 2).toNat < (testL x).length by show _ < 3; omega)]
  exact this _ (List.getElem_mem _)
 unfold testV
 refine bif_fine _ ⟨ok_nxt hg 2, hl⟩ ?_
 repeat' refine bif_fine _ ?_ ?_
 all_goals exact ⟨hg, by simp only [List.length_append, List.length_cons, List.length_nil]; omega⟩
theorem test_c (c : Cst) (g : Gn) (hg : g.s.ok) (x : List UInt8) (hx : x.length ≤ 200) (sort : Int) : PCB Tryd.prog 55 [Sp 1000000, S x, I .i64 sort] (gB c g) (S (testV x sort g).1) (gB c (testV x sort g).2) := by
 have hmax : 1000000 ≤ maxLen := by unfold maxLen; omega
 have hv := drawV_in g.s (n := 2) (by omega)
 have hv3 : 0 ≤ drawV g.s 2 ∧ drawV g.s 2 < ((testL x).length : Int) := by show _ ∧ _ < (3 : Int); omega
 refine PCB.of_body Tryd.func55 rfl (by decide) Tryd.ntmps55 Tryd.results55 rfl rfl rfl ?_ rfl rfl
 repeat' (first | (simp only [go_sem, zA, zB, zC, zD, zE, zF, zG, reduceCtorEq, zH, zI, zJ, zK, zL, List.length_map, Bx.puts]; all_goals fail_if_success guard_target =ₛ False) | (with_reducible first | ((first | refine seqVC_stepN rfl ?_ | refine AWP.seq ?_ | refine AWP.seqR (by kernel_rfl) ?_); intro K hK) | ((first | refine hK _ _ _ ?_ | refine hK _ _ ?_ | refine hK _ ?_); clear hK K) | refine seqVC_nil ?_ | refine AWP.block ?_ | (refine AWP.cond (by with_unfolding_all rfl) ?_ ?_ <;> intro h <;> (try simp only [zM, zN] at h) <;> try exact absurd h (by decide)) | refine AWP.skip ?_ | refine AWP.ret ?_ | refine AWP.exit ?_ | (refine ⟨(by first | omega | (simp only [List.length_append, List.length_map, List.length_take, List.length_drop, List.length_cons, List.length_nil, List.length_replicate]; omega) : _ ≤ _), ?_⟩) | refine ⟨by omega, by omega, ?_⟩) | (refine ⟨1000001, _, _, _, draw_k 1000001 g.s hg 2 (by omega), rfl, ?_⟩) | ( refine ⟨hv.1, [.str ((testL x).getD (drawV g.s 2).toNat [])], lit_get (fun x => [C.str x]) (testL x) [] hv3, ?_⟩) | ( refine ⟨[.str ((testL x).getD (drawV g.s 2).toNat [])], lit_get (fun x => [C.str x]) (testL x) [] hv3, ?_⟩) | (with_reducible first | refine Or.inl ?_) | (clear hK K))
 all_goals (simp only [testV, *, cond_true, cond_false]; refine ⟨?_, fun x hx => hx⟩; first | rfl | (simp only [List.append_assoc, List.cons_append, List.nil_append]))
def declL : List (List UInt8) := [[105, 110, 116], [58, 116, 114, 117, 101, 32, 111, 114, 32, 58, 102, 97, 108, 115, 101], [97, 116, 111, 109], [108, 105, 115, 116, 40, 105, 110, 116, 41], [123, 97, 116, 111, 109, 44, 32, 105, 110, 116, 125], [40, 105, 110, 116, 41, 32, 45, 62, 32, 105, 110, 116], [37, 123, 97, 58, 32, 105, 110, 116, 44, 32, 97, 116, 111, 109, 32, 61, 62, 32, 97, 110, 121, 44, 32, 115, 116, 114, 105, 110, 103, 32, 61, 62, 32, 97, 110, 121, 125], [97, 110, 121]]
def declV (sort : Int) : List UInt8 := declL.getD sort.toNat []
theorem declV_len (sort : Int) (h : 0 ≤ sort ∧ sort < 8) : (declV sort).length ≤ 40 := by
 have : ∀ y ∈ declL, y.length ≤ 40 := by decide
 unfold declV
 rw [List.getD_eq_getElem?_getD, List.getElem?_eq_getElem (show sort.toNat < declL.length by show _ < 8; omega)]
 exact this _ (List.getElem_mem _)
theorem declare_c (sort : Int) (h : 0 ≤ sort ∧ sort < 8) : PC Tryd.prog 52 [I .i64 sort] (S (declV sort)) := by
 refine PCB.of_body Tryd.func52 rfl (by decide) Tryd.ntmps52 Tryd.results52 rfl rfl rfl ?_ rfl rfl
 repeat' (first | (simp only [go_sem, zA, zB, zC, zD, zE, zF, zG, reduceCtorEq, zH, zI, zJ, zK, zL, List.length_map]; all_goals fail_if_success guard_target =ₛ False) | (with_reducible first | ((first | refine seqVC_stepN rfl ?_ | refine AWP.seq ?_ | refine AWP.seqR (by kernel_rfl) ?_); intro K hK) | ((first | refine hK _ _ _ ?_ | refine hK _ _ ?_ | refine hK _ ?_); clear hK K) | refine seqVC_nil ?_ | refine AWP.block ?_ | (refine AWP.cond (by with_unfolding_all rfl) ?_ ?_ <;> intro h <;> (try simp only [zM, zN] at h) <;> try exact absurd h (by decide)) | refine AWP.skip ?_ | refine AWP.ret ?_ | refine AWP.exit ?_) | ( refine ⟨h.1, [.str (declV sort)], lit_get (fun x => [C.str x]) declL [] h, ?_⟩) | ( refine ⟨[.str (declV sort)], lit_get (fun x => [C.str x]) declL [] h, ?_⟩) | (with_reducible first | refine Or.inl ?_) | (clear hK K))
 all_goals (first | exact fun _ h => absurd h List.not_mem_nil | refine fin0 ?_)
 all_goals rfl
/-- texts with commas between them -/
def sepStep (st : Bool × List UInt8) (x : List UInt8) : Bool × List UInt8 := (false, (bif st.1 then st.2 else st.2 ++ [44, 32]) ++ x)
def sepAt (s : List UInt8) (l : List (List UInt8)) (k : Nat) : Bool × List UInt8 := (l.take k).foldl sepStep (true, s)
theorem sepAt_succ (s : List UInt8) (l : List (List UInt8)) (k : Nat) (x : List UInt8) (hx : l[k]? = some x) : sepAt s l (k + 1) = sepStep (sepAt s l k) x := by
 unfold sepAt; rw [List.take_add_one, hx, List.foldl_append]; rfl
theorem sepAt_fst (s : List UInt8) (l : List (List UInt8)) : ∀ k, k ≤ l.length → (sepAt s l k).1 = decide (k = 0)
 | 0, _ => by simp [sepAt]
 | k + 1, hk => by
  rw [sepAt_succ s l k l[k] (List.getElem?_eq_getElem (by omega))]
  simp [sepStep]
theorem sepAt_len (s : List UInt8) (l : List (List UInt8)) (n : Nat) (hl : ∀ x ∈ l, x.length ≤ n) : ∀ k, k ≤ l.length → (sepAt s l k).2.length ≤ s.length + k * (n + 2)
 | 0, _ => by simp [sepAt]
 | k + 1, hk => by
  have ih := sepAt_len s l n hl k (by omega)
  rw [sepAt_succ s l k l[k] (List.getElem?_eq_getElem (by omega))]
  have hb : ∀ b : Bool, ∀ t : List UInt8, (bif b then t else t ++ [44, 32]).length ≤ t.length + 2 := by intro b t; cases b <;> simp
  have h1 := hb (sepAt s l k).1 (sepAt s l k).2
  have h2 := hl l[k] (List.getElem_mem _)
  simp only [sepStep, List.length_append]
  rw [Nat.add_mul]; omega
def commaV (l : List (List UInt8)) : List UInt8 := (sepAt [] l l.length).2
theorem commaV_len (l : List (List UInt8)) (h : l.length ≤ 10) (hl : ∀ x ∈ l, x.length ≤ 200) : (commaV l).length ≤ 2020 := by
 have := sepAt_len [] l 200 hl l.length (Nat.le_refl _)
 have h2 : l.length * (200 + 2) ≤ 10 * (200 + 2) := Nat.mul_le_mul_right _ h
 unfold commaV; rw [List.length_nil] at this; omega
theorem comma_c (l : List (List UInt8)) (h : l.length ≤ 10) (hl : ∀ x ∈ l, x.length ≤ 200) : PC Tryd.prog 33 [.one (.dat (.sl 1 (l.map encStr)))] (S (commaV l)) := by
 have hmax : 1000000 ≤ maxLen := by unfold maxLen; omega
 have hsl := sepAt_len [] l 200 hl
 have hfst := sepAt_fst [] l
 have hsuc := sepAt_succ [] l
 unfold commaV
 refine PCB.of_body Tryd.func33 rfl (by decide) Tryd.ntmps33 Tryd.results33 rfl rfl rfl ?_ rfl rfl
 repeat' (first | (simp only [go_sem, zA, zB, zC, zD, zE, zF, zG, reduceCtorEq, zH, zI, zJ, zK, zL, List.length_map]; all_goals fail_if_success guard_target =ₛ False) | (with_reducible first | ((first | refine seqVC_stepN rfl ?_ | refine AWP.seq ?_ | refine AWP.seqR (by kernel_rfl) ?_); intro K hK) | ((first | refine hK _ _ _ ?_ | refine hK _ _ ?_ | refine hK _ ?_); clear hK K) | refine seqVC_nil ?_ | refine AWP.block ?_ | (refine AWP.cond (by with_unfolding_all rfl) ?_ ?_ <;> intro h <;> (try simp only [zM, zN] at h) <;> try exact absurd h (by decide)) | refine AWP.skip ?_ | refine AWP.ret ?_ | refine AWP.exit ?_ | refine Or.inl ?_) | (clear hK K))
 refine AWP.len 6 rfl fun hlen0 => ?_
 (try rw [List.length_map] at hlen0)
 refine AWP.range (S := List UInt8) (l) encStr (fun k s => (8, I .i64 (k : Nat)) :: [(3, S s)]) (fun k s => []) [6, 7] [] (fun k s => s = (sepAt [] l k).2) ([]) (by simp only [go_sem, zA, zB, zC, zD, zE, zF, zG, reduceCtorEq, zH, zI, zJ, zK, zL]; exact Gh.to [] (by repeat (first | exact trivial | refine ⟨rfl, ?_⟩ | refine ⟨by (simp only [go_sem, zA, zB, zC, zD, zE, zF, zG, reduceCtorEq, zH, zI, zJ, zK, zL, List.length_append, List.length_map, List.length_cons, List.length_nil, Nat.zero_add]) <;> rfl, ?_⟩)) (by repeat (first | exact trivial | refine ⟨rfl, ?_⟩ | refine ⟨by (simp only [go_sem, zA, zB, zC, zD, zE, zF, zG, reduceCtorEq, zH, zI, zJ, zK, zL, List.length_append, List.length_map, List.length_cons, List.length_nil, Nat.zero_add]) <;> rfl, ?_⟩)) rfl rfl rfl) ?_ ?_ ?_
 ·rfl
 ·intro k s x hlt hx hx' hbb hok
  simp only [go_sem, zA, zB, zC, zD, zE, zF, zG, reduceCtorEq, zH, zI, zJ, zK, zL]
  have hk := hsl k (by omega)
  have hk1 := hfst k (by omega)
  have hk2 := hsuc k x hx
  have hxl := hl x (List.mem_of_getElem? hx)
  rw [← hok] at hk
  have hss : s.length ≤ 10 * 202 := by
   have : k * (200 + 2) ≤ 10 * (200 + 2) := Nat.mul_le_mul_right _ (by omega)
   rw [List.length_nil] at hk; omega
  have hst : (sepAt [] l (k + 1)).2 = (bif decide (k = 0) then s else s ++ [44, 32]) ++ x := by rw [hk2]; simp only [sepStep, ← hok, hk1]
  by_cases hk0 : k = 0
  ·have hd0 : decide (0 < (k : Int)) = false := by rw [decide_eq_false_iff_not]; omega
   rw [show decide (k = 0) = true from by simp [hk0], cond_true] at hst
   repeat' (first | (simp only [go_sem, zA, zB, zC, zD, zE, zF, zG, reduceCtorEq, zH, zI, zJ, zK, zL, List.length_map, hbb, encStr, hd0]; all_goals fail_if_success guard_target =ₛ False) | (with_reducible first | ((first | refine seqVC_stepN rfl ?_ | refine AWP.seq ?_ | refine AWP.seqR (by kernel_rfl) ?_); intro K hK) | ((first | refine hK _ _ _ ?_ | refine hK _ _ ?_ | refine hK _ ?_); clear hK K) | refine seqVC_nil ?_ | refine AWP.block ?_ | (refine AWP.cond (by with_unfolding_all rfl) ?_ ?_ <;> intro h <;> (try simp only [zM, zN] at h) <;> try exact absurd h (by decide)) | refine AWP.skip ?_ | refine AWP.ret ?_ | refine AWP.exit ?_ | refine ⟨by omega, encStr x, hx', ?_⟩ | refine ⟨encStr x, hx', ?_⟩ | (refine ⟨(by first | omega | (simp only [List.length_append, List.length_map, List.length_take, List.length_drop, List.length_cons, List.length_nil, List.length_replicate]; omega) : _ ≤ _), ?_⟩) | refine ⟨by omega, by omega, ?_⟩ | refine Or.inl ?_) | (clear hK K))
   all_goals (rw [wrap_succ hlt hlen0, hst]; exact Gh.to [] (by repeat (first | exact trivial | refine ⟨rfl, ?_⟩ | refine ⟨by (simp only [go_sem, zA, zB, zC, zD, zE, zF, zG, reduceCtorEq, zH, zI, zJ, zK, zL, List.length_append, List.length_map, List.length_cons, List.length_nil, Nat.zero_add]) <;> rfl, ?_⟩)) (by repeat (first | exact trivial | refine ⟨rfl, ?_⟩ | refine ⟨by (simp only [go_sem, zA, zB, zC, zD, zE, zF, zG, reduceCtorEq, zH, zI, zJ, zK, zL, List.length_append, List.length_map, List.length_cons, List.length_nil, Nat.zero_add]) <;> rfl, ?_⟩)) rfl rfl rfl)
  ·have hd0 : decide (0 < (k : Int)) = true := by rw [decide_eq_true_eq]; omega
   rw [show decide (k = 0) = false from by simp [hk0], cond_false] at hst
   repeat' (first | (simp only [go_sem, zA, zB, zC, zD, zE, zF, zG, reduceCtorEq, zH, zI, zJ, zK, zL, List.length_map, hbb, encStr, hd0]; all_goals fail_if_success guard_target =ₛ False) | (with_reducible first | ((first | refine seqVC_stepN rfl ?_ | refine AWP.seq ?_ | refine AWP.seqR (by kernel_rfl) ?_); intro K hK) | ((first | refine hK _ _ _ ?_ | refine hK _ _ ?_ | refine hK _ ?_); clear hK K) | refine seqVC_nil ?_ | refine AWP.block ?_ | (refine AWP.cond (by with_unfolding_all rfl) ?_ ?_ <;> intro h <;> (try simp only [zM, zN] at h) <;> try exact absurd h (by decide)) | refine AWP.skip ?_ | refine AWP.ret ?_ | refine AWP.exit ?_ | refine ⟨by omega, encStr x, hx', ?_⟩ | refine ⟨encStr x, hx', ?_⟩ | (refine ⟨(by first | omega | (simp only [List.length_append, List.length_map, List.length_take, List.length_drop, List.length_cons, List.length_nil, List.length_replicate]; omega) : _ ≤ _), ?_⟩) | refine ⟨by omega, by omega, ?_⟩ | refine Or.inl ?_) | (clear hK K))
   all_goals (rw [wrap_succ hlt hlen0, hst]; exact Gh.to [] (by repeat (first | exact trivial | refine ⟨rfl, ?_⟩ | refine ⟨by (simp only [go_sem, zA, zB, zC, zD, zE, zF, zG, reduceCtorEq, zH, zI, zJ, zK, zL, List.length_append, List.length_map, List.length_cons, List.length_nil, Nat.zero_add]) <;> rfl, ?_⟩)) (by repeat (first | exact trivial | refine ⟨rfl, ?_⟩ | refine ⟨by (simp only [go_sem, zA, zB, zC, zD, zE, zF, zG, reduceCtorEq, zH, zI, zJ, zK, zL, List.length_append, List.length_map, List.length_cons, List.length_nil, Nat.zero_add]) <;> rfl, ?_⟩)) rfl rfl rfl)
 ·intro s hbb hok
  simp only [go_sem, zA, zB, zC, zD, zE, zF, zG, reduceCtorEq, zH, zI, zJ, zK, zL]
  repeat' (first | (simp only [go_sem, zA, zB, zC, zD, zE, zF, zG, reduceCtorEq, zH, zI, zJ, zK, zL, List.length_map, hbb]; all_goals fail_if_success guard_target =ₛ False) | (with_reducible first | ((first | refine seqVC_stepN rfl ?_ | refine AWP.seq ?_ | refine AWP.seqR (by kernel_rfl) ?_); intro K hK) | ((first | refine hK _ _ _ ?_ | refine hK _ _ ?_ | refine hK _ ?_); clear hK K) | refine seqVC_nil ?_ | refine AWP.block ?_ | (refine AWP.cond (by with_unfolding_all rfl) ?_ ?_ <;> intro h <;> (try simp only [zM, zN] at h) <;> try exact absurd h (by decide)) | refine AWP.skip ?_ | refine AWP.ret ?_ | refine AWP.exit ?_ | refine Or.inl ?_) | (clear hK K))
  all_goals (first | exact fun _ h => absurd h List.not_mem_nil | refine fin0 ?_)
  all_goals (rw [hok])
def HdOk (d : CalD) : Prop := (0 ≤ d.res ∧ d.res < 8) ∧ ∀ p ∈ d.params, 0 ≤ p ∧ p < 8
def headerV (d : CalD) : List UInt8 := (sepAt ([115, 105, 103, 32] ++ d.name ++ [47] ++ Lib.itoa (d.params.length : Int) ++ [32, 58, 32, 96, 40]) (d.params.map declV) d.params.length).2 ++ [41, 32, 45, 62, 32] ++ declV d.res ++ [96, 46, 10]
def header0 (d : CalD) : List UInt8 := [115, 105, 103, 32] ++ d.name ++ [47] ++ Lib.itoa (d.params.length : Int) ++ [32, 58, 32, 96, 40]
theorem header0_len (d : CalD) (h : CalOk d) : (header0 d).length ≤ 150 := by
 obtain ⟨h1, h2, h3⟩ := h
 have := itoa_len (n := (d.params.length : Int)) (by omega) (by omega)
 simp only [header0, List.length_append, List.length_cons, List.length_nil]; omega
theorem header_sl (d : CalD) (h : CalOk d) (hh : HdOk d) (k : Nat) (hk : k ≤ d.params.length) : (sepAt (header0 d) (d.params.map declV) k).2.length ≤ 250 := by
 have h0 := header0_len d h
 have h1 := sepAt_len (header0 d) (d.params.map declV) 40 (fun x hx => by obtain ⟨p, hp, rfl⟩ := List.mem_map.1 hx; exact declV_len p (hh.2 p hp)) k (by rw [List.length_map]; exact hk)
 have h2 : k * (40 + 2) ≤ 2 * (40 + 2) := Nat.mul_le_mul_right _ (by have := h.2.2; omega)
 omega
theorem headerV_len (d : CalD) (h : CalOk d) (hh : HdOk d) : (headerV d).length ≤ 310 := by
 have h1 := header_sl d h hh d.params.length (Nat.le_refl _)
 have h2 := declV_len d.res hh.1
 unfold headerV
 unfold header0 at h1
 simp only [List.length_append, List.length_cons, List.length_nil] at h1 ⊢; omega
theorem header_c (d : CalD) (h : CalOk d) (hh : HdOk d) : PC Tryd.prog 34 [.st (encCal d)] (S (headerV d)) := by
 have hmax : 1000000 ≤ maxLen := by unfold maxLen; omega
 have hil := itoa_len (n := (d.params.length : Int)) (by omega) (by have := h.2.2; omega)
 have hsl := header_sl d h hh
 have h0 := header0_len d h
 have hfst := sepAt_fst (header0 d) (d.params.map declV)
 have hsuc := sepAt_succ (header0 d) (d.params.map declV)
 have hdec := decimal_c _ (d.params.length : Int) (Nat.le_refl _) (by omega) (by have := h.2.2; omega)
 have hdl := declV_len d.res hh.1
 have hdc := declare_c d.res hh.1
 have hhv : headerV d = (sepAt (header0 d) (d.params.map declV) d.params.length).2 ++ [41, 32, 45, 62, 32] ++ declV d.res ++ [96, 46, 10] := rfl
 have h00 : header0 d = [115, 105, 103, 32] ++ d.name ++ [47] ++ Lib.itoa (d.params.length : Int) ++ [32, 58, 32, 96, 40] := rfl
 have hnl := h.2.1
 refine PCB.of_body Tryd.func34 rfl (by decide) Tryd.ntmps34 Tryd.results34 rfl rfl rfl ?_ rfl rfl
 unfold encCal
 repeat' (first | (simp only [go_sem, zA, zB, zC, zD, zE, zF, zG, reduceCtorEq, zH, zI, zJ, zK, zL, List.length_map]; all_goals fail_if_success guard_target =ₛ False) | (with_reducible first | ((first | refine seqVC_stepN rfl ?_ | refine AWP.seq ?_ | refine AWP.seqR (by kernel_rfl) ?_ | refine parVC_stepN rfl ?_ | refine parEVC_stepN rfl ?_ | refine genVC_stepN rfl ?_); intro K hK) | ((first | refine hK _ _ _ ?_ | refine hK _ _ ?_ | refine hK _ ?_); clear hK K) | refine seqVC_nil ?_ | refine parVC_nil ?_ | refine parEVC_nil ?_ | refine genVC_nil ?_ | refine AWP.block ?_ | (refine AWP.cond (by with_unfolding_all rfl) ?_ ?_ <;> intro h <;> (try simp only [zM, zN] at h) <;> try exact absurd h (by decide)) | refine AWP.skip ?_ | refine AWP.ret ?_ | refine AWP.exit ?_ | refine ⟨_, hdec, ?_⟩ | (refine ⟨(by first | omega | (simp only [List.length_append, List.length_map, List.length_take, List.length_drop, List.length_cons, List.length_nil, List.length_replicate]; omega) : _ ≤ _), ?_⟩) | refine ⟨by omega, by omega, ?_⟩ | refine AWP.parR mixed (by kernel_rfl) fun K hK => ?_ | refine ⟨(by kernel_rfl : depB _ _ _ = true), ?_⟩ | refine Or.inl ?_) | (clear hK K))
 refine AWP.len 17 rfl fun hlen0 => ?_
 (try rw [List.length_map] at hlen0)
 refine AWP.range (S := List UInt8) (d.params) encZ (fun k s => (19, I .i64 (k : Nat)) :: [(3, S s)]) (fun k s => [(1, .cells [.dat (.str d.mod), .dat (.str d.name), .dat (.sl 1 (d.params.map encZ)), .dat (.int .i64 d.res)])]) [1, 17, 18] [] (fun k s => s = (sepAt (header0 d) (d.params.map declV) k).2) (header0 d) (by simp only [go_sem, zA, zB, zC, zD, zE, zF, zG, reduceCtorEq, zH, zI, zJ, zK, zL]; exact Gh.to [] (by repeat (first | exact trivial | refine ⟨rfl, ?_⟩ | refine ⟨by (simp only [go_sem, zA, zB, zC, zD, zE, zF, zG, reduceCtorEq, zH, zI, zJ, zK, zL, List.length_append, List.length_map, List.length_cons, List.length_nil, Nat.zero_add]) <;> rfl, ?_⟩)) (by repeat (first | exact trivial | refine ⟨rfl, ?_⟩ | refine ⟨by (simp only [go_sem, zA, zB, zC, zD, zE, zF, zG, reduceCtorEq, zH, zI, zJ, zK, zL, List.length_append, List.length_map, List.length_cons, List.length_nil, Nat.zero_add]) <;> rfl, ?_⟩)) rfl rfl rfl) ?_ ?_ ?_
 ·rfl
 ·intro k s p hlt hx hx' hbb hok
  simp only [go_sem, zA, zB, zC, zD, zE, zF, zG, reduceCtorEq, zH, zI, zJ, zK, zL]
  have hk := hsl k (by omega)
  have hk1 := hfst k (by rw [List.length_map]; omega)
  have hk2 := hsuc k (declV p) (by rw [List.getElem?_map, hx]; rfl)
  have hpp := hh.2 p (List.mem_of_getElem? hx)
  have hxl := declV_len p hpp
  have hpc := declare_c p hpp
  rw [← hok] at hk
  have hst : (sepAt (header0 d) (d.params.map declV) (k + 1)).2 = (bif decide (k = 0) then s else s ++ [44, 32]) ++ declV p := by rw [hk2]; simp only [sepStep, ← hok, hk1]
  by_cases hk0 : k = 0
  ·have hd0 : decide (0 < (k : Int)) = false := by rw [decide_eq_false_iff_not]; omega
   rw [show decide (k = 0) = true from by simp [hk0], cond_true] at hst
   repeat' (first | (simp only [go_sem, zA, zB, zC, zD, zE, zF, zG, reduceCtorEq, zH, zI, zJ, zK, zL, List.length_map, hbb, encZ, hd0]; all_goals fail_if_success guard_target =ₛ False) | (with_reducible first | ((first | refine seqVC_stepN rfl ?_ | refine AWP.seq ?_ | refine AWP.seqR (by kernel_rfl) ?_ | refine parVC_stepN rfl ?_ | refine parEVC_stepN rfl ?_ | refine genVC_stepN rfl ?_); intro K hK) | ((first | refine hK _ _ _ ?_ | refine hK _ _ ?_ | refine hK _ ?_); clear hK K) | refine seqVC_nil ?_ | refine parVC_nil ?_ | refine parEVC_nil ?_ | refine genVC_nil ?_ | refine AWP.block ?_ | (refine AWP.cond (by with_unfolding_all rfl) ?_ ?_ <;> intro h <;> (try simp only [zM, zN] at h) <;> try exact absurd h (by decide)) | refine AWP.skip ?_ | refine AWP.ret ?_ | refine AWP.exit ?_ | refine ⟨_, hpc, ?_⟩ | refine ⟨by omega, encZ p, hx', ?_⟩ | refine ⟨encZ p, hx', ?_⟩ | (refine ⟨(by first | omega | (simp only [List.length_append, List.length_map, List.length_take, List.length_drop, List.length_cons, List.length_nil, List.length_replicate]; omega) : _ ≤ _), ?_⟩) | refine ⟨by omega, by omega, ?_⟩ | refine AWP.parR mixed (by kernel_rfl) fun K hK => ?_ | refine ⟨(by kernel_rfl : depB _ _ _ = true), ?_⟩ | refine Or.inl ?_) | (clear hK K))
   all_goals (rw [wrap_succ hlt hlen0, hst]; exact Gh.to [] (by repeat (first | exact trivial | refine ⟨rfl, ?_⟩ | refine ⟨by (simp only [go_sem, zA, zB, zC, zD, zE, zF, zG, reduceCtorEq, zH, zI, zJ, zK, zL, List.length_append, List.length_map, List.length_cons, List.length_nil, Nat.zero_add]) <;> rfl, ?_⟩)) (by repeat (first | exact trivial | refine ⟨rfl, ?_⟩ | refine ⟨by (simp only [go_sem, zA, zB, zC, zD, zE, zF, zG, reduceCtorEq, zH, zI, zJ, zK, zL, List.length_append, List.length_map, List.length_cons, List.length_nil, Nat.zero_add]) <;> rfl, ?_⟩)) rfl rfl rfl)
  ·have hd0 : decide (0 < (k : Int)) = true := by rw [decide_eq_true_eq]; omega
   rw [show decide (k = 0) = false from by simp [hk0], cond_false] at hst
   repeat' (first | (simp only [go_sem, zA, zB, zC, zD, zE, zF, zG, reduceCtorEq, zH, zI, zJ, zK, zL, List.length_map, hbb, encZ, hd0]; all_goals fail_if_success guard_target =ₛ False) | (with_reducible first | ((first | refine seqVC_stepN rfl ?_ | refine AWP.seq ?_ | refine AWP.seqR (by kernel_rfl) ?_ | refine parVC_stepN rfl ?_ | refine parEVC_stepN rfl ?_ | refine genVC_stepN rfl ?_); intro K hK) | ((first | refine hK _ _ _ ?_ | refine hK _ _ ?_ | refine hK _ ?_); clear hK K) | refine seqVC_nil ?_ | refine parVC_nil ?_ | refine parEVC_nil ?_ | refine genVC_nil ?_ | refine AWP.block ?_ | (refine AWP.cond (by with_unfolding_all rfl) ?_ ?_ <;> intro h <;> (try simp only [zM, zN] at h) <;> try exact absurd h (by decide)) | refine AWP.skip ?_ | refine AWP.ret ?_ | refine AWP.exit ?_ | refine ⟨_, hpc, ?_⟩ | refine ⟨by omega, encZ p, hx', ?_⟩ | refine ⟨encZ p, hx', ?_⟩ | (refine ⟨(by first | omega | (simp only [List.length_append, List.length_map, List.length_take, List.length_drop, List.length_cons, List.length_nil, List.length_replicate]; omega) : _ ≤ _), ?_⟩) | refine ⟨by omega, by omega, ?_⟩ | refine AWP.parR mixed (by kernel_rfl) fun K hK => ?_ | refine ⟨(by kernel_rfl : depB _ _ _ = true), ?_⟩ | refine Or.inl ?_) | (clear hK K))
   all_goals (rw [wrap_succ hlt hlen0, hst]; exact Gh.to [] (by repeat (first | exact trivial | refine ⟨rfl, ?_⟩ | refine ⟨by (simp only [go_sem, zA, zB, zC, zD, zE, zF, zG, reduceCtorEq, zH, zI, zJ, zK, zL, List.length_append, List.length_map, List.length_cons, List.length_nil, Nat.zero_add]) <;> rfl, ?_⟩)) (by repeat (first | exact trivial | refine ⟨rfl, ?_⟩ | refine ⟨by (simp only [go_sem, zA, zB, zC, zD, zE, zF, zG, reduceCtorEq, zH, zI, zJ, zK, zL, List.length_append, List.length_map, List.length_cons, List.length_nil, Nat.zero_add]) <;> rfl, ?_⟩)) rfl rfl rfl)
 ·intro s hbb hok
  simp only [go_sem, zA, zB, zC, zD, zE, zF, zG, reduceCtorEq, zH, zI, zJ, zK, zL]
  have hk := hsl d.params.length (Nat.le_refl _)
  rw [← hok] at hk
  repeat' (first | (simp only [go_sem, zA, zB, zC, zD, zE, zF, zG, reduceCtorEq, zH, zI, zJ, zK, zL, List.length_map, hbb]; all_goals fail_if_success guard_target =ₛ False) | (with_reducible first | ((first | refine seqVC_stepN rfl ?_ | refine AWP.seq ?_ | refine AWP.seqR (by kernel_rfl) ?_ | refine parVC_stepN rfl ?_ | refine parEVC_stepN rfl ?_ | refine genVC_stepN rfl ?_); intro K hK) | ((first | refine hK _ _ _ ?_ | refine hK _ _ ?_ | refine hK _ ?_); clear hK K) | refine seqVC_nil ?_ | refine parVC_nil ?_ | refine parEVC_nil ?_ | refine genVC_nil ?_ | refine AWP.block ?_ | (refine AWP.cond (by with_unfolding_all rfl) ?_ ?_ <;> intro h <;> (try simp only [zM, zN] at h) <;> try exact absurd h (by decide)) | refine AWP.skip ?_ | refine AWP.ret ?_ | refine AWP.exit ?_ | refine ⟨_, hdc, ?_⟩ | (refine ⟨(by first | omega | (simp only [List.length_append, List.length_map, List.length_take, List.length_drop, List.length_cons, List.length_nil, List.length_replicate]; omega) : _ ≤ _), ?_⟩) | refine ⟨by omega, by omega, ?_⟩ | refine AWP.parR mixed (by kernel_rfl) fun K hK => ?_ | refine ⟨(by kernel_rfl : depB _ _ _ = true), ?_⟩ | refine Or.inl ?_) | (clear hK K))
  all_goals (first | exact fun _ h => absurd h List.not_mem_nil | refine fin0 ?_)
  all_goals (rw [hhv, ← hok])
def patternV (sort : Int) (g : Gn) : List UInt8 × Gn :=
 bif decide (sort = 0) then (smallV g, nxt g 7)
 else bif decide (sort = 1) then ([116, 114, 117, 101], g)
 else bif decide (sort = 2) then (atomV g.s, nxt g 4)
 else bif decide (sort = 3) then ([91, 93], g)
 else bif decide (sort = 4) then ([123, 111, 107, 44, 32, 95, 125], g)
 else bif decide (sort = 6) then ([35, 123, 97, 32, 61, 62, 32, 49, 125], g)
 else ([95], g)
theorem patternV_fine (sort : Int) (g : Gn) (hg : g.s.ok) : Fine 50 (patternV sort g) := by
 have h1 := atomV_len g.s
 have h2 := smallV_len g
 unfold patternV
 repeat' refine bif_fine _ ?_ ?_
 all_goals first | exact ⟨hg, by simp only [List.length_cons, List.length_nil]; omega⟩ | exact ⟨ok_nxt hg _, by simp only; omega⟩
theorem pattern_c (c : Cst) (g : Gn) (hg : g.s.ok) (sort : Int) : PCB Tryd.prog 53 [Sp 1000000, I .i64 sort] (gB c g) (S (patternV sort g).1) (gB c (patternV sort g).2) := by
 refine PCB.of_body Tryd.func53 rfl (by decide) Tryd.ntmps53 Tryd.results53 rfl rfl rfl ?_ rfl rfl
 repeat' (first | (simp only [go_sem, zA, zB, zC, zD, zE, zF, zG, reduceCtorEq, zH, zI, zJ, zK, zL, List.length_map, Bx.puts]; all_goals fail_if_success guard_target =ₛ False) | (with_reducible first | ((first | refine seqVC_stepN rfl ?_ | refine AWP.seq ?_ | refine AWP.seqR (by kernel_rfl) ?_); intro K hK) | ((first | refine hK _ _ _ ?_ | refine hK _ _ ?_ | refine hK _ ?_); clear hK K) | refine seqVC_nil ?_ | refine AWP.block ?_ | (refine AWP.cond (by with_unfolding_all rfl) ?_ ?_ <;> intro h <;> (try simp only [zM, zN] at h) <;> try exact absurd h (by decide)) | refine AWP.skip ?_ | refine AWP.ret ?_ | refine AWP.exit ?_) | (refine ⟨1000001, _, _, _, atomName_k 1000001 g.s hg, rfl, ?_⟩) | ( refine Or.inr ⟨_, _, _, small_c c g hg, ⟨rfl, rfl, trivial⟩, rfl, rfl, ?_⟩) | (with_reducible first | refine Or.inl ?_) | (clear hK K))
 all_goals (simp only [patternV, *, cond_true, cond_false]; refine ⟨?_, fun x hx => hx⟩; first | rfl | (simp only [List.append_assoc, List.cons_append, List.nil_append]))
end Go.Proofs.YtogponhonjiidaaDoor

