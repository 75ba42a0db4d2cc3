/- A part of the proof: lemmas about the walk of the program and about plain integers and lists. No conditions beyond those that each lemma states. -/
import Derived.Test.YthpndlinlhapgaaDq2
import Derived.Laws.MakeOwn
import Derived.ChangeKeysEq
import Derived.Laws.StructEq
set_option linter.unusedVariables false
set_option linter.unusedSimpArgs false
namespace Go.Sx
variable {P : Program}
def Bx.put (k : Nat) (r : Res) : Bx → Bx
  | [] => []
  | p :: B => bif p.1 == k then (k, r) :: B else p :: Bx.put k r B
def Bx.drop (k : Nat) : Bx → Bx
  | [] => []
  | p :: B => bif p.1 == k then B else p :: Bx.drop k B
theorem Bx.put_keys (k : Nat) (r : Res) : ∀ B : Bx, (Bx.put k r B).map (·.1) = B.map (·.1)
  | [] => rfl
  | p :: B => by
    unfold Bx.put
    cases h : (p.1 == k) with
    | true => have : p.1 = k := by simpa using h
              simp [this]
    | false => simp [Bx.put_keys k r B]
theorem Bx.mem_put {k : Nat} {r : Res} : ∀ {B : Bx} {x : Nat × Res}, (B.map (·.1)).Nodup → x ∈ Bx.put k r B → x = (k, r) ∨ (x ∈ B ∧ x.1 ≠ k)
  | [], x, _, h => by cases h
  | p :: B, x, hn, h => by
    simp only [List.map_cons, List.nodup_cons] at hn
    unfold Bx.put at h
    cases hp : (p.1 == k) with
    | true =>
      have hpk : p.1 = k := by simpa using hp
      rw [hp] at h
      simp only [cond_true] at h
      rcases List.mem_cons.1 h with h | h
      · exact .inl h
      · refine .inr ⟨List.mem_cons_of_mem _ h, fun e => hn.1 ?_⟩
        rw [hpk, ← e]; exact List.mem_map.2 ⟨x, h, rfl⟩
    | false =>
      have hpk : p.1 ≠ k := by simpa using hp
      rw [hp] at h
      simp only [cond_false] at h
      rcases List.mem_cons.1 h with h | h
      · subst h; exact .inr ⟨by simp, hpk⟩
      · rcases Bx.mem_put hn.2 h with h | ⟨h1, h2⟩
        · exact .inl h
        · exact .inr ⟨List.mem_cons_of_mem _ h1, h2⟩
theorem Bx.mem_drop {k : Nat} : ∀ {B : Bx} {x : Nat × Res}, (B.map (·.1)).Nodup → x ∈ Bx.drop k B → x ∈ B ∧ x.1 ≠ k
  | [], x, _, h => by cases h
  | p :: B, x, hn, h => by
    simp only [List.map_cons, List.nodup_cons] at hn
    unfold Bx.drop at h
    cases hp : (p.1 == k) with
    | true =>
      have hpk : p.1 = k := by simpa using hp
      rw [hp] at h
      simp only [cond_true] at h
      refine ⟨List.mem_cons_of_mem _ h, fun e => hn.1 ?_⟩
      rw [hpk, ← e]; exact List.mem_map.2 ⟨x, h, rfl⟩
    | false =>
      have hpk : p.1 ≠ k := by simpa using hp
      rw [hp] at h
      simp only [cond_false] at h
      rcases List.mem_cons.1 h with h | h
      · subst h; exact ⟨by simp, hpk⟩
      · obtain ⟨h1, h2⟩ := Bx.mem_drop hn.2 h
        exact ⟨List.mem_cons_of_mem _ h1, h2⟩
theorem Bx.drop_nodup (k : Nat) : ∀ {B : Bx}, (B.map (·.1)).Nodup → ((Bx.drop k B).map (·.1)).Nodup
  | [], _ => by simp [Bx.drop]
  | p :: B, hn => by
    have hn' := hn
    simp only [List.map_cons, List.nodup_cons] at hn'
    unfold Bx.drop
    cases hp : (p.1 == k) with
    | true => exact hn'.2
    | false =>
      simp only [cond_false, List.map_cons, List.nodup_cons]
      refine ⟨fun h => ?_, Bx.drop_nodup k hn'.2⟩
      obtain ⟨x, hx, e⟩ := List.mem_map.1 h
      exact hn'.1 (List.mem_map.2 ⟨x, (Bx.mem_drop hn'.2 hx).1, e⟩)
theorem Bx.fresh_spec {k : Nat} : ∀ {B : Bx} {j : Nat} {r : Res}, Bx.fresh k B = true → (j, r) ∈ B → j ≠ k ∧ ∀ cs, r = .cells cs → Cell.freshs k cs = true
  | p :: B, j, r, h, hm => by
    simp only [Bx.fresh, Bool.and_eq_true, bne_iff_ne] at h
    rcases List.mem_cons.1 hm with rfl | hm
    · refine ⟨h.1.1, fun cs e => ?_⟩
      subst e
      exact h.1.2
    · exact Bx.fresh_spec h.2 hm
theorem Res.ok_fresh {M : Mem} {ν ν' : Nu} {w : World} {j k : Nat} (hν : ∀ i, i ≠ k → ν' i = ν i) (hj : j ≠ k) : ∀ {r : Res}, (∀ cs, r = .cells cs → Cell.freshs k cs = true) → r.ok M ν w j → r.ok M ν' w j
  | .cells cs, hf, h => by
    simp only [Res.ok] at h ⊢
    rw [hν j hj]
    obtain ⟨b, c, et, e1, e2, e3⟩ := h
    exact ⟨b, c, et, e1, e2, Cell.reps_fresh hν cs _ (hf cs rfl) e3⟩
  | .row sz rows, hf, h => by
    simp only [Res.ok] at h ⊢
    rw [hν j hj]; exact h
  | .mp ag es, hf, h => by
    simp only [Res.ok] at h ⊢
    rw [hν j hj]; exact h
def Nu.set (ν : Nu) (k : Nat) (m : Nm) : Nu := fun j => if j = k then m else ν j
theorem Nu.set_other {ν : Nu} {k : Nat} {m : Nm} : ∀ j, j ≠ k → ν.set k m j = ν j := fun j h => by simp [Nu.set, h]
theorem Nu.set_self {ν : Nu} {k : Nat} {m : Nm} : ν.set k m k = m := by simp [Nu.set]
/-- a new block, that the name k holds from now on -/
theorem Sat.new_box {κ : Kap} {M : Mem} {ν : Nu} {B : Bx} {w : World} {k : Nat} {c : Array Value} {et : TypeId} {cap : Nat} {r : Res} (h : Sat κ M ν B w) (hf : Bx.fresh k B = true)
    (hr : r.ok M (ν.set k ⟨some w.heap.size, cap⟩) { w with heap := w.heap.push (.cells c et) } k) :
    Sat κ M (ν.set k ⟨some w.heap.size, cap⟩) ((k, r) :: B) { w with heap := w.heap.push (.cells c et) } where
  os := h.os
  tape := h.tape
  output := h.output
  dr := Nat.zero_le _
  size := by simp; have := h.size; omega
  unch := fun b hb hD => by
    rw [← h.unch b hb hD]
    exact push_old (Nat.lt_of_lt_of_le hb h.size)
  fro := fun b x e => push_get (h.fro _ _ e)
  res := fun j q hm => by
    rcases List.mem_cons.1 hm with e | hm
    · cases e; exact hr
    · obtain ⟨hj, hc⟩ := Bx.fresh_spec hf hm
      exact Res.ok_fresh Nu.set_other hj hc (Res.ok_mono (Mem.le.refl M) (fun b x e _ => push_get e) (h.res j q hm))
  away := fun j q b hm hb => by
    rcases List.mem_cons.1 hm with e | hm
    · cases e
      rw [Nu.set_self] at hb
      simp only [Option.some.injEq] at hb
      subst hb
      refine ⟨?_, .inl h.size⟩
      cases hM : M w.heap.size with
      | none => rfl
      | some o => have := h.fro _ _ hM; simp at this
    · obtain ⟨hj, _⟩ := Bx.fresh_spec hf hm
      rw [Nu.set_other j hj] at hb
      exact h.away j q b hm hb
  inj := fun j q j' q' b hm hm' hb hb' => by
    rcases List.mem_cons.1 hm with e | hm <;> rcases List.mem_cons.1 hm' with e' | hm'
    · cases e; cases e'; rfl
    · cases e
      obtain ⟨hj, _⟩ := Bx.fresh_spec hf hm'
      rw [Nu.set_self] at hb
      rw [Nu.set_other j' hj] at hb'
      simp only [Option.some.injEq] at hb
      have := Res.blk_lt (h.res j' q' hm') hb'
      omega
    · cases e'
      obtain ⟨hj, _⟩ := Bx.fresh_spec hf hm
      rw [Nu.set_self] at hb'
      rw [Nu.set_other j hj] at hb
      simp only [Option.some.injEq] at hb'
      have := Res.blk_lt (h.res j q hm) hb
      omega
    · obtain ⟨hj, _⟩ := Bx.fresh_spec hf hm
      obtain ⟨hj', _⟩ := Bx.fresh_spec hf hm'
      rw [Nu.set_other j hj] at hb
      rw [Nu.set_other j' hj'] at hb'
      exact h.inj j q j' q' b hm hm' hb hb'
  nodup := by
    simp only [List.map_cons, List.nodup_cons]
    refine ⟨fun hm => ?_, h.nodup⟩
    obtain ⟨x, hx, e⟩ := List.mem_map.1 hm
    exact (Bx.fresh_spec (j := x.1) (r := x.2) hf hx).1 e
theorem ev_fresh {env : Env} {k : Nat} {ty : TypeId} {x : Operand} {t : T} (hf : Env.fresh k env = true) (h : ev P env ty x = some t) : t.fresh k = true := by
  cases x with
  | tmp d => exact Env.fresh_spec hf (lookup_mem h)
  | const v =>
    simp only [ev, constT] at h
    split at h <;> try (cases h; done)
    · cases h; rfl
    · cases h; rfl
    · cases h; rfl
    · split at h
      · cases h; rfl
      · cases h
    · cases h; rfl
  | func f => simp only [ev, Option.some.injEq] at h; subst h; rfl
  | global g =>
    simp only [ev] at h
    split at h
    · cases h; rfl
    · cases h
theorem freshs_map (k : Nat) : ∀ r : List C, Cell.freshs k (r.map .dat) = true
  | [] => rfl
  | c :: r => by simp only [List.map_cons, Cell.freshs, Cell.fresh, Bool.true_and, freshs_map k r]
theorem toCells_fresh {k : Nat} {t : T} {cs : List Cell} (hf : t.fresh k = true) (h : toCells t = some cs) : Cell.freshs k cs = true := by
  cases t with
  | one c => simp only [toCells, Option.some.injEq] at h; subst h; simp only [T.fresh] at hf; simp [Cell.freshs, hf]
  | st r => simp only [toCells, Option.some.injEq] at h; subst h; exact freshs_map k r
  | agg cs' => simp only [toCells, Option.some.injEq] at h; subst h; exact hf
  | tup ts => cases h
  | un => cases h
theorem OpG.of_run {o : Oper} {env : Env} {B B' : Bx} {k : Nat} {t : T}
    (h : ∀ κ M ν a w, EnvOn M ν a env o → Sat κ M ν B w →
      ∃ v w' M' ν', (execOp a.eval o).run P w = .ok (.value v) w' ∧ M.ext κ M' ∧ (∀ j, j ≠ k → ν' j = ν j) ∧ t.rep M' ν' v ∧ Sat κ M' ν' B' w') : OpG P o env B k t B' := by
  intro κ M ν a w he hs
  obtain ⟨v, w', M', ν', hr, hle, hν, ht, hs'⟩ := h κ M ν a w he hs
  unfold Oper.wp
  rw [hr]
  exact ⟨v, M', ν', rfl, hle, hν, ht, hs'⟩
def dstN (o : Oper) : Nat := o.dst.getD 0
def vAlloc (P : Program) (k : Nat) (e : TypeId) (env : Env) (B : Bx) (K : T → Bx → Prop) : Prop :=
  match zeroT P e with
  | some zs => Env.fresh k env = true ∧ Bx.fresh k B = true ∧ K (.one (.ptr k 0)) ((k, .cells (zs.map .dat)) :: B)
  | none => False
theorem vAlloc_sound {e : TypeId} {env : Env} {B : Bx} {o : Oper} {K : T → Bx → Prop} (ho : o.op = .alloc e) (h : vAlloc P (dstN o) e env B K) :
    ∃ t B', OpG P o env B (dstN o) t B' ∧ Env.fresh (dstN o) env = true ∧ K t B' := by
  unfold vAlloc at h
  split at h
  · rename_i zs hz
    obtain ⟨hf, hfB, hK⟩ := h
    obtain ⟨z, hzr, hzm⟩ := zeroT_spec hz
    refine ⟨_, _, OpG.of_run fun κ M ν a w he hs => ?_, hf, hK⟩
    refine ⟨.pointer (some ⟨w.heap.size, 0, none⟩), _, M, ν.set (dstN o) ⟨some w.heap.size, 0⟩, exec_v (s := Instr.alloc e true (.tuple #[])) (by unfold execOp; rw [ho]) ?_, Mem.ext.refl κ M, Nu.set_other, ?_, Sat.new_box (c := z.cells) (et := e) hs hfB ?_⟩
    · simp only [Instr.alloc, Sem.run_bind, hzr, Result.andThen_ok, newVar, newRow, run_newObj, Sem.run_pure]
    · simp only [T.rep, Cell.rep]
      exact ⟨w.heap.size, by rw [Nu.set_self], rfl⟩
    · simp only [Res.ok]
      exact ⟨w.heap.size, z.cells, e, by rw [Nu.set_self], push_new, Cell.reps_map_c.2 (zmatch_spec hzm)⟩
  · exact h.elim
def vBox (P : Program) (k : Nat) (e : TypeId) (x : Option T) (env : Env) (B : Bx) (K : T → Bx → Prop) : Prop :=
  match x with
  | some t => match toCells t with
    | some cs => Env.fresh k env = true ∧ Bx.fresh k B = true ∧ K (.one (.ptr k 0)) ((k, .cells cs) :: B)
    | none => False
  | none => False
theorem vBox_sound {e ty : TypeId} {x : Operand} {env : Env} {B : Bx} {o : Oper} {K : T → Bx → Prop} (ho : o.op = .box e x) (h : vBox P (dstN o) e (ev P env ty x) env B K) :
    ∃ t B', OpG P o env B (dstN o) t B' ∧ Env.fresh (dstN o) env = true ∧ K t B' := by
  have hx : x ∈ o.op.operands := by rw [ho]; simp [Op.operands]
  unfold vBox at h
  split at h
  · rename_i t ex
    split at h
    · rename_i cs hcs
      obtain ⟨hf, hfB, hK⟩ := h
      refine ⟨_, _, OpG.of_run fun κ M ν a w he hs => ?_, hf, hK⟩
      have hrep := cells_of hcs (ev_rep he hx ex)
      refine ⟨.pointer (some ⟨w.heap.size, 0, none⟩), _, M, ν.set (dstN o) ⟨some w.heap.size, 0⟩, exec_v (s := Instr.box e (a.eval x)) (by unfold execOp; rw [ho]) ?_, Mem.ext.refl κ M, Nu.set_other, ?_, Sat.new_box (c := (a.eval x).cells) (et := e) hs hfB ?_⟩
      · simp only [Instr.box, Sem.run_bind, newVar, newRow, run_newObj, Sem.run_pure, Result.andThen_ok]
      · simp only [T.rep, Cell.rep]
        exact ⟨w.heap.size, by rw [Nu.set_self], rfl⟩
      · simp only [Res.ok]
        exact ⟨w.heap.size, _, e, by rw [Nu.set_self], push_new, Cell.reps_fresh Nu.set_other cs _ (toCells_fresh (ev_fresh hf ex) hcs) hrep⟩
    · exact h.elim
  · exact h.elim
/-- the rows of a literal, as they stand -/
def vRowsH (P : Program) (e n : Nat) (env : Env) : Nat → List (Nat × Operand) → Option (List (List C))
  | _, [] => some []
  | k, (i, x) :: rest => bif i == k then (match ev P env e x with
    | some u => match toCells u with
      | some cs => match pureCs cs with
        | some r => bif lenIs n r then (match vRowsH P e n env (k + 1) rest with
          | some rs => some (r :: rs)
          | none => none) else none
        | none => none
      | none => none
    | none => none) else none
theorem vRowsH_sound {e n : Nat} {env : Env} {M : Mem} {ν : Nu} {a : Act} :
    ∀ (parts : List (Nat × Operand)) (k : Nat) (rows : List (List C)) (pre post : List Value), (∀ p ∈ parts, ∀ u, ev P env e p.2 = some u → u.rep M ν (a.eval p.2)) → vRowsH P e n env k parts = some rows →
      pre.length = k * n → post.length = parts.length * n →
      ∃ vs, Instr.fill (fun i => some (i * n, n)) (pre ++ post).toArray (parts.map fun (i, x) => (i, a.eval x)) = some (pre ++ vs).toArray ∧ repRows M n rows vs ∧ rows.length = parts.length
  | [], k, rows, pre, post, _, h, h1, h2 => by
    simp only [vRowsH, Option.some.injEq] at h
    subst h
    have : post = [] := List.length_eq_zero_iff.1 (by simpa using h2)
    subst this
    exact ⟨[], rfl, by simp only [repRows], rfl⟩
  | (i, x) :: rest, k, rows, pre, post, he, h, h1, h2 => by
    simp only [vRowsH] at h
    cases hik : (i == k) with
    | false => rw [hik] at h; cases h
    | true =>
      rw [hik] at h
      simp only [cond_true] at h
      have hik' : i = k := by simpa using hik
      subst hik'
      split at h
      · rename_i u hu
        split at h
        · rename_i cs hcs
          split at h
          · rename_i r hr
            cases hl : lenIs n r with
            | false => rw [hl] at h; cases h
            | true =>
              rw [hl] at h
              simp only [cond_true] at h
              split at h
              · rename_i rs hrs
                simp only [Option.some.injEq] at h
                subst h
                have hrep := cells_of hcs (he (i, x) (by simp) u hu)
                rw [pureCs_spec hr] at hrep
                have hrow := Cell.reps_map_c.1 hrep
                have hrl := lenIs_spec hl
                have hvl : (a.eval x).cells.size = n := by rw [← Array.length_toList, repRow_length hrow]; exact hrl
                have hpl : post.length = n + rest.length * n := by rw [h2, List.length_cons, Nat.add_mul, Nat.one_mul]; omega
                have hpost : post = post.take n ++ post.drop n := (List.take_append_drop n post).symm
                have step := fill_step (place := fun i => some (i * n, n)) (cells := (pre ++ post).toArray) (i := i) (off := i * n) (n := n) (v := a.eval x) (rest := rest.map fun (i, x) => (i, a.eval x)) (pre := pre) (mid := post.take n) (post := post.drop n)
                  rfl hvl (by rw [← hpost]) h1 (by rw [List.length_take]; omega)
                obtain ⟨vs, hf, hrs', hlen⟩ := vRowsH_sound rest (i + 1) rs (pre ++ (a.eval x).cells.toList) (post.drop n) (fun p hp => he p (List.mem_cons_of_mem _ hp)) hrs
                  (by rw [List.length_append, h1, Array.length_toList, hvl, Nat.add_mul, Nat.one_mul]) (by rw [List.length_drop, hpl]; omega)
                refine ⟨(a.eval x).cells.toList ++ vs, ?_, ?_, by simp [hlen]⟩
                · rw [List.map_cons, step, ← List.append_assoc, hf, List.append_assoc]
                · simp only [repRows]
                  exact ⟨_, vs, rfl, hrl, hrow, hrs'⟩
              · cases h
          · cases h
        · cases h
      · cases h
/-- the literal of a slice, whose cells may be turned from then on -/
def vBuildArr (P : Program) (k : Nat) (t : TypeId) (len : Nat) (env : Env) (parts : List (Nat × Operand)) (B : Bx) (K : T → Bx → Prop) : Prop :=
  match bsT P t with
  | some (e, n) => match vRowsH P e n env 0 parts with
    | some rows => lenIs len parts = true ∧ len * n ≤ 16777216 ∧ Env.fresh k env = true ∧ Bx.fresh k B = true ∧ K (.one (.arr k len)) ((k, .cells (rows.flatten.map .dat)) :: B)
    | none => False
  | none => False
theorem repRows_flat_row {M : Mem} {sz : Nat} : ∀ {rows : List (List C)} {vs : List Value}, repRows M sz rows vs → repRow M rows.flatten vs
  | [], vs, h => by simp only [repRows] at h; simp only [List.flatten_nil, repRow]; exact h
  | r :: rows, vs, h => by
    simp only [repRows] at h
    obtain ⟨v1, v2, e, _, h1, h2⟩ := h
    rw [e, List.flatten_cons]
    exact repRow_append h1 (repRows_flat_row h2)
theorem vBuildArr_sound {t : TypeId} {len : Nat} {parts : List (Nat × Operand)} {env : Env} {B : Bx} {o : Oper} {K : T → Bx → Prop} (ho : o.op = .buildSlice t len parts.toArray)
    (h : vBuildArr P (dstN o) t len env parts B K) : ∃ t B', OpG P o env B (dstN o) t B' ∧ Env.fresh (dstN o) env = true ∧ K t B' := by
  have hex : ∀ (a : Act), execOp a.eval o = (do pure (.value (← Instr.buildSlice t len (parts.map fun (i, x) => (i, a.eval x)).toArray))) := by
    intro a; unfold execOp; rw [ho]; simp
  unfold vBuildArr at h
  split at h
  · rename_i e n hbs
    obtain ⟨hu, hsz, ⟨z, hz, hzs⟩, hn0⟩ := bsT_spec hbs
    split at h
    · rename_i rows hr
      obtain ⟨hlen, hbound, hf, hfB, hK⟩ := h
      have hpl := lenIs_spec hlen
      refine ⟨_, _, OpG.of_run fun κ M ν ac w he hs => ?_, hf, hK⟩
      have hops : ∀ p ∈ parts, ∀ u, ev P env e p.2 = some u → u.rep M ν (ac.eval p.2) := by
        intro p hp u hu
        refine ev_rep he ?_ hu
        rw [ho]
        simp only [Op.operands]
        simp
        exact ⟨p.1, by cases p; exact hp⟩
      let zero : Array Value := if len * n = 0 then #[] else z.cells
      let start : List Value := ((Array.range (len * n)).map (zero[· % zero.size]!)).toList
      have hstart : start.length = parts.length * n := by simp [start, hpl]
      obtain ⟨vs, hfl, hrows, hrl⟩ := vRowsH_sound (a := ac) parts 0 rows [] start hops hr (by simp) hstart
      refine ⟨.slice (some ⟨w.heap.size, 0, none⟩) len len, _, M, ν.set (dstN o) ⟨some w.heap.size, 0⟩, exec_v (hex ac) ?_, Mem.ext.refl κ M, Nu.set_other, ?_, hs.new_box (c := vs.toArray) (et := e) hfB ?_⟩
      · have hle : ¬ len * n > 2 ^ 24 := by omega
        have hf' : Instr.fill (fun i => some (i * n, n)) ((Array.range (len * n)).map (zero[· % zero.size]!)) (parts.map fun (i, x) => (i, ac.eval x)) = some vs.toArray := by
          have e1 : ((Array.range (len * n)).map (zero[· % zero.size]!)) = ([] ++ start).toArray := by simp only [start, List.nil_append, Array.toArray_toList]
          rw [e1, hfl]; simp
        unfold Instr.buildSlice
        by_cases h0 : len * n = 0
        · have hz0 : zero = #[] := by simp only [zero, h0, if_true]
          rw [hz0] at hf'
          rw [h0] at hf' hle
          simp only [Sem.run_bind, run_underlying hu, Result.andThen_ok, run_sz hsz, hle, if_false, Sem.run_pure, h0, if_true, hf', newRow, run_newObj]
        · have hz0 : zero = z.cells := by simp only [zero, h0, if_false]
          rw [hz0] at hf'
          simp only [Sem.run_bind, run_underlying hu, Result.andThen_ok, run_sz hsz, hle, if_false, Sem.run_pure, h0, hz, hf', newRow, run_newObj]
      · simp only [T.rep, Cell.rep]
        exact ⟨w.heap.size, by rw [Nu.set_self], rfl⟩
      · simp only [Res.ok]
        exact ⟨w.heap.size, vs.toArray, e, by rw [Nu.set_self], push_new, Cell.reps_map_c.2 (by simpa using repRows_flat_row hrows)⟩
    · exact h.elim
  · exact h.elim
/-- the literal of a slice, that may be appended to from then on -/
def vBuildRow (P : Program) (k : Nat) (t : TypeId) (len : Nat) (env : Env) (parts : List (Nat × Operand)) (B : Bx) (K : T → Bx → Prop) : Prop :=
  match bsT P t with
  | some (e, n) => match vRows P e n env 0 parts with
    | some rows => lenIs len parts = true ∧ len * n ≤ 16777216 ∧ Env.fresh k env = true ∧ Bx.fresh k B = true ∧ K (.one (.own k len)) ((k, .row n rows) :: B)
    | none => False
  | none => False
theorem vBuildRow_sound {t : TypeId} {len : Nat} {parts : List (Nat × Operand)} {env : Env} {B : Bx} {o : Oper} {K : T → Bx → Prop} (ho : o.op = .buildSlice t len parts.toArray)
    (h : vBuildRow P (dstN o) t len env parts B K) : ∃ t B', OpG P o env B (dstN o) t B' ∧ Env.fresh (dstN o) env = true ∧ K t B' := by
  have hex : ∀ (a : Act), execOp a.eval o = (do pure (.value (← Instr.buildSlice t len (parts.map fun (i, x) => (i, a.eval x)).toArray))) := by
    intro a; unfold execOp; rw [ho]; simp
  unfold vBuildRow at h
  split at h
  · rename_i e n hbs
    obtain ⟨hu, hsz, ⟨z, hz, hzs⟩, hn0⟩ := bsT_spec hbs
    split at h
    · rename_i rows hr
      obtain ⟨hlen, hbound, hf, hfB, hK⟩ := h
      have hpl := lenIs_spec hlen
      refine ⟨_, _, OpG.of_run fun κ M ν ac w he hs => ?_, hf, hK⟩
      have hops : ∀ p ∈ parts, ∀ u, softO (ev P env e p.2) = some u → u.rep M ν (ac.eval p.2) := by
        intro p hp u hu
        refine softO_rep he ?_ hu
        rw [ho]
        simp only [Op.operands]
        simp
        exact ⟨p.1, by cases p; exact hp⟩
      let zero : Array Value := if len * n = 0 then #[] else z.cells
      let start : List Value := ((Array.range (len * n)).map (zero[· % zero.size]!)).toList
      have hstart : start.length = parts.length * n := by simp [start, hpl]
      obtain ⟨vs, hfl, hrows, hrl⟩ := vRows_sound (a := ac) parts 0 rows [] start hops hr (by simp) hstart
      refine ⟨.slice (some ⟨w.heap.size, 0, none⟩) len len, _, M, ν.set (dstN o) ⟨some w.heap.size, len⟩, exec_v (hex ac) ?_, Mem.ext.refl κ M, Nu.set_other, ?_, hs.new_box (c := vs.toArray) (et := e) hfB ?_⟩
      · have hle : ¬ len * n > 2 ^ 24 := by omega
        have hf' : Instr.fill (fun i => some (i * n, n)) ((Array.range (len * n)).map (zero[· % zero.size]!)) (parts.map fun (i, x) => (i, ac.eval x)) = some vs.toArray := by
          have e1 : ((Array.range (len * n)).map (zero[· % zero.size]!)) = ([] ++ start).toArray := by simp only [start, List.nil_append, Array.toArray_toList]
          rw [e1, hfl]; simp
        unfold Instr.buildSlice
        by_cases h0 : len * n = 0
        · have hz0 : zero = #[] := by simp only [zero, h0, if_true]
          rw [hz0] at hf'
          rw [h0] at hf' hle
          simp only [Sem.run_bind, run_underlying hu, Result.andThen_ok, run_sz hsz, hle, if_false, Sem.run_pure, h0, if_true, hf', newRow, run_newObj]
        · have hz0 : zero = z.cells := by simp only [zero, h0, if_false]
          rw [hz0] at hf'
          simp only [Sem.run_bind, run_underlying hu, Result.andThen_ok, run_sz hsz, hle, if_false, Sem.run_pure, h0, hz, hf', newRow, run_newObj]
      · simp only [T.rep, Cell.rep]
        rw [Nu.set_self]; rfl
      · simp only [Res.ok, Nu.set_self]
        have hlr : rows.length = len := by rw [hrl, hpl]
        refine ⟨Nat.le_of_eq hlr, ?_, .inr ⟨w.heap.size, vs.toArray, e, vs, [], rfl, push_new, by simp, hrows, ?_⟩⟩
        · show len ≤ maxLen
          have h1 : len * 1 ≤ len * n := Nat.mul_le_mul_left len (Nat.pos_of_ne_zero hn0)
          unfold maxLen; omega
        · have hvl := repRows_length hrows
          simp only [List.size_toArray]
          rw [hvl, hlr]
    · exact h.elim
  · exact h.elim
def vBuildOwn (P : Program) (k : Nat) (t : TypeId) (len : Nat) (env : Env) (parts : List (Nat × Operand)) (B : Bx) (K : T → Bx → Prop) : Prop :=
  vBuildArr P k t len env parts B K ∨ vBuildRow P k t len env parts B K
theorem vBuildOwn_sound {t : TypeId} {len : Nat} {parts : List (Nat × Operand)} {env : Env} {B : Bx} {o : Oper} {K : T → Bx → Prop} (ho : o.op = .buildSlice t len parts.toArray)
    (h : vBuildOwn P (dstN o) t len env parts B K) : ∃ t B', OpG P o env B (dstN o) t B' ∧ Env.fresh (dstN o) env = true ∧ K t B' := by
  rcases h with h | h
  · exact vBuildArr_sound ho h
  · exact vBuildRow_sound ho h
theorem C.rep_oneCell {M : Mem} {c : C} {v : Value} (h : c.rep M v) : v.oneCell' = true := by
  cases c <;> simp only [C.rep] at h
  case sl => obtain ⟨_, _, _, e, _⟩ := h; subst e; rfl
  case fnc => obtain ⟨_, e, _⟩ := h; subst e; rfl
  case err b =>
    cases b
    · rw [show v = _ from h]; rfl
    · obtain ⟨_, _, e⟩ := h; subst e; rfl
  all_goals subst h; rfl
theorem Cell.rep_oneCell {M : Mem} {ν : Nu} {c : Cell} {v : Value} (h : c.rep M ν v) : v.oneCell' = true := by
  cases c <;> simp only [Cell.rep] at h
  case dat c => exact C.rep_oneCell h
  case ptr => obtain ⟨_, _, e⟩ := h; subst e; rfl
  case own => subst h; rfl
  case rp => obtain ⟨_, _, e⟩ := h; subst e; rfl
  case arr => obtain ⟨_, _, e⟩ := h; subst e; rfl
  case ref => obtain ⟨_, _, _, e, _⟩ := h; subst e; rfl
  case clo => obtain ⟨_, e, _⟩ := h; subst e; rfl
  case mp => obtain ⟨_, _, e⟩ := h; subst e; rfl
theorem Cell.reps_oneCell {M : Mem} {ν : Nu} : ∀ {cs : List Cell} {vs : List Value}, Cell.reps M ν cs vs → ∀ v ∈ vs, v.oneCell' = true
  | [], vs, h, v, hv => by simp only [Cell.reps] at h; subst h; cases hv
  | c :: cs, vs, h, v, hv => by
    simp only [Cell.reps] at h
    obtain ⟨u, vs', e, h1, h2⟩ := h
    subst e
    rcases List.mem_cons.1 hv with rfl | hv
    · exact Cell.rep_oneCell h1
    · exact Cell.reps_oneCell h2 v hv
theorem run_storeAt (b off : Nat) (et : TypeId) : ∀ (vs : List Value) (i : Nat) (c : Array Value) (w : World) (pre mid post : List Value), w.heap[b]? = some (.cells c et (0, 0)) → c.toList = pre ++ (mid ++ post) → pre.length = off + i → mid.length = vs.length → (∀ v ∈ vs, v.oneCell' = true) →
    (storeCells ⟨b, off, none⟩ vs i).run P w = .ok () (w.setRow b (pre ++ (vs ++ post)).toArray)
  | [], i, c, w, pre, mid, post, hg, hc, h1, h2, _ => by
    have : mid = [] := List.length_eq_zero_iff.1 h2
    subst this
    have hc' : (pre ++ ([] ++ post)).toArray = c := by rw [← hc]
    rw [hc']
    simp only [storeCells]
    show Result.ok () w = _
    congr 1
    have hlt : b < w.heap.size := (Array.getElem?_eq_some_iff.1 hg).1
    have hv : w.heap[b] = .cells c et (0, 0) := (Array.getElem?_eq_some_iff.1 hg).2
    unfold World.setRow
    cases w with
    | mk heap tape drawn os output =>
      congr 1
      apply Array.ext
      · simp
      · intro k h1 h2
        simp only [Array.getElem_modify]
        split
        · rename_i hk; subst hk; simp at hv; simp [hv]
        · rfl
  | v :: rest, i, c, w, pre, mid, post, hg, hc, h1, h2, hone => by
    cases mid with
    | nil => simp at h2
    | cons m mid =>
      have hcell : w.cell? ⟨b, off + i, none⟩ = some m := by
        have : c[off + i]? = some m := by
          rw [← Array.getElem?_toList, hc, ← h1, List.getElem?_append_right (Nat.le_refl _)]; simp
        simp [World.cell?, hg, this]
      have hfro : w.frozen? ⟨b, off + i, none⟩ = false := by simp [World.frozen?, hg]
      have hst : (store ((⟨b, off, none⟩ : Addr).add i) v).run P w = .ok () (w.setRow b (c.setIfInBounds (off + i) v)) := by
        rw [addr_add, run_store P w _ v _ (hone v (by simp)), hcell]
        simp [hfro, setCell_eq_setRow w b (off + i) c et (0, 0) v hg]
      have hc2 : (c.setIfInBounds (off + i) v).toList = (pre ++ [v]) ++ (mid ++ post) := by
        rw [Array.toList_setIfInBounds, hc, ← h1]; simp
      have ih := run_storeAt b off et rest (i + 1) (c.setIfInBounds (off + i) v) (w.setRow b (c.setIfInBounds (off + i) v)) (pre ++ [v]) mid post (setRow_heap w b c _ et _ hg) hc2 (by simp [h1]; omega) (by simpa using h2) (fun x hx => hone x (by simp [hx]))
      simp only [storeCells, Sem.run_bind, hst, Result.andThen_ok, ih, setRow_setRow]
      simp
/-- a box's block is written -/
theorem Sat.write {κ : Kap} {M : Mem} {ν : Nu} {B : Bx} {w : World} {k b : Nat} {r r' : Res} {c' : Array Value} (h : Sat κ M ν B w) (hk : (k, r) ∈ B) (hb : (ν k).blk = some b)
    (hr : r'.ok M ν (w.setRow b c') k) : Sat κ M ν (Bx.put k r' B) (w.setRow b c') where
  os := h.os
  tape := h.tape
  output := h.output
  dr := Nat.zero_le _
  size := by simp; exact h.size
  unch := fun d hd hD => by
    rw [← h.unch d hd hD]
    refine setRow_other w b d c' (fun e => ?_)
    subst e
    rcases (h.away k r d hk hb).2 with h2 | h2
    · omega
    · exact hD h2
  fro := fun d x e => by
    rw [setRow_other w b d c' (fun e2 => ?_)]
    · exact h.fro _ _ e
    · subst e2; rw [(h.away k r d hk hb).1] at e; cases e
  res := fun j q hm => by
    rcases Bx.mem_put h.nodup hm with e | ⟨hm, hj⟩
    · cases e; exact hr
    · refine Res.ok_mono (Mem.le.refl M) (fun d x e hd => ?_) (h.res j q hm)
      rw [setRow_other w b d c' (fun e2 => ?_)]
      · exact e
      · subst e2; exact hj (h.inj j q k r d hm hk hd hb)
  away := fun j q d hm hd => by
    rcases Bx.mem_put h.nodup hm with e | ⟨hm, hj⟩
    · cases e; exact h.away k r d hk hd
    · exact h.away j q d hm hd
  inj := fun j q j' q' d hm hm' hd hd' => by
    have f : ∀ i p, (i, p) ∈ Bx.put k r' B → ∃ p', (i, p') ∈ B := by
      intro i p hp
      rcases Bx.mem_put h.nodup hp with e | ⟨hp, _⟩
      · cases e; exact ⟨r, hk⟩
      · exact ⟨p, hp⟩
    obtain ⟨p, hp⟩ := f j q hm
    obtain ⟨p', hp'⟩ := f j' q' hm'
    exact h.inj j p j' p' d hp hp' hd hd'
  nodup := by rw [Bx.put_keys]; exact h.nodup
def setRowAt (rows : List (List C)) (i : Nat) (r : List C) : List (List C) := rows.set i r
def vStore (P : Program) (t : TypeId) (x y : Option T) (B : Bx) (K : Bx → Prop) : Prop :=
  match szT P t, y with
  | some n, some u => match toCells u with
    | some part => match x with
      | some (.one (.ptr k off)) => match B.lookup k with
        | some (.cells cs) => match cutC off cs with
          | some (pre, z) => match cutC n z with
            | some (_, post) => lenIs n part = true ∧ K (Bx.put k (.cells (pre ++ (part ++ post))) B)
            | none => False
          | none => False
        | _ => False
      | some (.one (.rp k sz i f)) => match B.lookup k with
        | some (.row sz' rows) => sz' = sz ∧ ∃ r, rows[i]? = some r ∧ (match cutC f r with
          | some (pre, z) => match cutC n z with
            | some (_, post) => match pureCs (part.map Cell.soft) with
              | some p => lenIs n part = true ∧ K (Bx.put k (.row sz (rows.set i (pre ++ (p ++ post)))) B)
              | none => False
            | none => False
          | none => False)
        | _ => False
      | _ => False
    | none => False
  | _, _ => False
theorem OpE.of_skip {o : Oper} {env : Env} {B B' : Bx}
    (h : ∀ κ M ν a w, EnvOn M ν a env o → Sat κ M ν B w → ∃ w', (execOp a.eval o).run P w = .ok .skip w' ∧ Sat κ M ν B' w') : OpE P o env B undefT B' := by
  intro κ M ν a w he hs
  obtain ⟨w', hr, hs'⟩ := h κ M ν a w he hs
  unfold Oper.wp
  rw [hr]
  exact ⟨undef, M, rfl, Mem.ext.refl κ M, by simp [undefT, T.rep, Cell.rep, C.rep], hs'⟩
theorem lenIs_map {n : Nat} {l : List Cell} (h : lenIs n l = true) : (l.map Cell.soft).length = n := by rw [List.length_map]; exact lenIs_spec h
theorem vStore_sound {t tx : TypeId} {x y : Operand} {env : Env} {B : Bx} {o : Oper} {K : Bx → Prop} (ho : o.op = .store t x y) (h : vStore P t (ev P env tx x) (ev P env t y) B K) :
    ∃ B', OpE P o env B undefT B' ∧ K B' := by
  have hx : x ∈ o.op.operands := by rw [ho]; simp [Op.operands]
  have hy : y ∈ o.op.operands := by rw [ho]; simp [Op.operands]
  have hex : ∀ (a : Act) (w w' : World), (Instr.storeAt t (a.eval x) (a.eval y)).run P w = .ok () w' → (execOp a.eval o).run P w = .ok .skip w' := by
    intro a w w' h
    unfold execOp; rw [ho]
    simp only [Sem.run_bind, h, Result.andThen_ok, Sem.run_pure]
  unfold vStore at h
  split at h
  · rename_i n u hsz ey
    split at h
    · rename_i part hpart
      split at h
      · rename_i k off ex
        split at h
        · rename_i cs hb
          split at h
          · rename_i pre z hc1
            split at h
            · rename_i old post hc2
              obtain ⟨hl, hK⟩ := h
              obtain ⟨e1, l1⟩ := cutC_spec hc1
              obtain ⟨e2, l2⟩ := cutC_spec hc2
              refine ⟨_, OpE.of_skip fun κ M ν a w he hs => ?_, hK⟩
              have hrep := cells_of hpart (ev_rep he hy ey)
              have hr := ev_rep he hx ex
              simp only [T.rep, Cell.rep] at hr
              obtain ⟨b, hb1, ep⟩ := hr
              have hres := hs.res k _ (lookup_box hb)
              simp only [Res.ok] at hres
              obtain ⟨b', c, et, hb2, hheap, hreps⟩ := hres
              rw [hb1] at hb2; cases hb2
              rw [e1, e2] at hreps
              obtain ⟨w1, w23, ew, hw1, hw23⟩ := Cell.reps_split hreps
              obtain ⟨w2, w3, ew2, hw2, hw3⟩ := Cell.reps_split hw23
              have hvl : (a.eval y).cells.size = n := by rw [← Array.length_toList, Cell.reps_length hrep]; exact lenIs_spec hl
              have hst := run_storeAt (P := P) b off et (a.eval y).cells.toList 0 c w w1 w2 w3 hheap (by rw [ew, ew2]) (by rw [Cell.reps_length hw1, l1]; rfl) (by rw [Cell.reps_length hw2, l2, Array.length_toList, hvl]) (Cell.reps_oneCell hrep)
              refine ⟨w.setRow b (w1 ++ ((a.eval y).cells.toList ++ w3)).toArray, hex a w _ ?_, hs.write (lookup_box hb) hb1 ?_⟩
              · rw [ep]
                simp only [Instr.storeAt, Instr.sureAddr, Sem.run_bind, Sem.run_pure, Result.andThen_ok, storeVar, run_sz hsz, hvl, ne_eq, not_true_eq_false, if_false, hst]
              · simp only [Res.ok]
                refine ⟨b, _, et, hb1, setRow_heap w b c _ et _ hheap, ?_⟩
                simpa using Cell.reps_append hw1 (Cell.reps_append hrep hw3)
            · exact h.elim
          · exact h.elim
        · exact h.elim
      · rename_i k sz i f ex
        split at h
        · rename_i sz' rows hb
          obtain ⟨rfl, r, hi, h⟩ := h
          split at h
          · rename_i pre z hc1
            split at h
            · rename_i old post hc2
              split at h
              · rename_i p hp
                obtain ⟨hl, hK⟩ := h
                obtain ⟨e1, l1⟩ := cutC_spec hc1
                obtain ⟨e2, l2⟩ := cutC_spec hc2
                refine ⟨_, OpE.of_skip fun κ M ν a w he hs => ?_, hK⟩
                have hrep := cells_of hpart (ev_rep he hy ey)
                have hrepS := Cell.reps_soft hrep
                rw [pureCs_spec hp] at hrepS
                have hrow' := Cell.reps_map_c.1 hrepS
                have hr := ev_rep he hx ex
                simp only [T.rep, Cell.rep] at hr
                obtain ⟨b, hb1, ep⟩ := hr
                have hres := hs.res k _ (lookup_box hb)
                simp only [Res.ok] at hres
                obtain ⟨hcap1, hcap2, hres⟩ := hres
                rcases hres with ⟨hnone, _⟩ | ⟨b', c, et, mid, spare, hb2, hheap, htl, hrows, hcs⟩
                · rw [hb1] at hnone; cases hnone
                · rw [hb1] at hb2; cases hb2
                  have hlt := (List.getElem?_eq_some_iff.1 hi).1
                  have hri : rows[i] = r := (List.getElem?_eq_some_iff.1 hi).2
                  have hsplit : rows = rows.take i ++ (r :: rows.drop (i + 1)) := by
                    rw [← hri, ← List.drop_eq_getElem_cons hlt, List.take_append_drop]
                  rw [hsplit] at hrows
                  obtain ⟨u1, u23, eu, hu1, hu23⟩ := repRows_split hrows
                  simp only [repRows] at hu23
                  obtain ⟨u2, u3, eu2, hrl, hrow, hu3⟩ := hu23
                  rw [e1, e2] at hrow
                  obtain ⟨w1, w23, ew, hw1, hw23⟩ := repRow_split hrow
                  obtain ⟨w2, w3, ew2, hw2, hw3⟩ := repRow_split hw23
                  have hvl : (a.eval y).cells.size = n := by rw [← Array.length_toList, Cell.reps_length hrep]; exact lenIs_spec hl
                  have hu1l : u1.length = i * sz' := by rw [repRows_length hu1, List.length_take, Nat.min_eq_left (by omega)]
                  have hst := run_storeAt (P := P) b (i * sz' + f) et (a.eval y).cells.toList 0 c w (u1 ++ w1) w2 (w3 ++ (u3 ++ spare)) hheap (by rw [htl, eu, eu2, ew, ew2]; simp) (by rw [List.length_append, hu1l, repRow_length hw1, l1]; rfl) (by rw [repRow_length hw2, l2, Array.length_toList, hvl]) (Cell.reps_oneCell hrep)
                  have hplen : p.length = n := by rw [← List.length_map (f := Cell.dat), ← pureCs_spec hp]; exact lenIs_map hl
                  have hnewrow : rows.set i (pre ++ (p ++ post)) = rows.take i ++ ((pre ++ (p ++ post)) :: rows.drop (i + 1)) := List.set_eq_take_append_cons_drop .. |>.trans (by rw [if_pos hlt])
                  have hnr : (pre ++ (p ++ post)).length = sz' := by
                    rw [← hrl, e1, e2]
                    simp only [List.length_append, hplen, l2]
                  refine ⟨w.setRow b ((u1 ++ w1) ++ ((a.eval y).cells.toList ++ (w3 ++ (u3 ++ spare)))).toArray, hex a w _ ?_, hs.write (lookup_box hb) hb1 ?_⟩
                  · rw [ep]
                    simp only [Instr.storeAt, Instr.sureAddr, Sem.run_bind, Sem.run_pure, Result.andThen_ok, storeVar, run_sz hsz, hvl, ne_eq, not_true_eq_false, if_false, hst]
                  · simp only [Res.ok]
                    refine ⟨by rw [List.length_set]; exact hcap1, hcap2, .inr ⟨b, _, et, u1 ++ (w1 ++ ((a.eval y).cells.toList ++ w3) ++ u3), spare, hb1, setRow_heap w b c _ et _ hheap, by simp, ?_, ?_⟩⟩
                    · rw [hnewrow]
                      refine repRows_append hu1 ?_
                      simp only [repRows]
                      exact ⟨_, u3, rfl, hnr, repRow_append hw1 (repRow_append hrow' hw3), hu3⟩
                    · rw [← hcs, ← Array.length_toList (xs := c), htl, eu, eu2, ew, ew2]
                      simp only [List.size_toArray, List.length_append, Array.length_toList, hvl, repRow_length hw2, l2]
                      omega
              · exact h.elim
            · exact h.elim
          · exact h.elim
        · exact h.elim
      · exact h.elim
    · exact h.elim
  · exact h.elim
end Go.Sx
set_option linter.unusedVariables false
set_option linter.unusedSimpArgs false
namespace Go.Sx
variable {P : Program} {n : Nat} {σ : AS} {Q : Exit → AS → Prop}
/-- the element type of a slice of numbers -/
def mkT (P : Program) (t : TypeId) : Option (TypeId × IntKind) :=
  match P.underlying t with
  | some (.slice e) => match P.info? e with
    | some i => match i.zero with
      | some (.int k m) => bif decide (m = 0) && (decide (i.size = 1) && decide (i.bytes ≤ 8)) then some (e, k) else none
      | _ => none
    | none => none
  | _ => none
theorem mkT_spec {t : TypeId} {e : TypeId} {k : IntKind} (h : mkT P t = some (e, k)) : P.underlying t = some (.slice e) ∧ ∃ i, P.info? e = some i ∧ i.zero = some (.int k 0) ∧ i.size = 1 ∧ i.bytes ≤ 8 := by
  unfold mkT at h
  split at h
  · rename_i e' hu
    split at h
    · rename_i i hi
      split at h
      · rename_i k' m hz
        cases hc : decide (m = 0) && (decide (i.size = 1) && decide (i.bytes ≤ 8)) with
        | false => rw [hc] at h; cases h
        | true =>
          rw [hc] at h
          simp only [cond_true, Option.some.injEq, Prod.mk.injEq] at h
          obtain ⟨rfl, rfl⟩ := h
          simp only [Bool.and_eq_true, decide_eq_true_eq] at hc
          obtain ⟨rfl, h1, h2⟩ := hc
          exact ⟨hu, i, hi, hz, h1, h2⟩
      · cases h
    · cases h
  · cases h
def vMakeSl (P : Program) (k : Nat) (t : TypeId) (x y : Option T) (env : Env) (B : Bx) (K : T → Bx → Prop) : Prop :=
  match mkT P t, x, y with
  | some (_, ik), some (.one (.dat (.int _ m))), some (.one (.dat (.int _ n))) => m = n ∧ 0 ≤ n ∧ n ≤ 16777216 ∧ Env.fresh k env = true ∧ Bx.fresh k B = true ∧ K (.one (.own k n.toNat)) ((k, .row 1 (List.replicate n.toNat [.int ik 0])) :: B)
  | _, _, _ => False
theorem repRows_zero {M : Mem0} {ik : IntKind} : ∀ n : Nat, repRows M 1 (List.replicate n [C.int ik 0]) (List.replicate n (Value.int ik 0))
  | 0 => by simp [repRows]
  | n + 1 => by
    simp only [List.replicate_succ, repRows]
    exact ⟨[.int ik 0], _, rfl, rfl, by simp only [repRow, C.rep]; exact ⟨_, _, rfl, rfl, rfl⟩, repRows_zero n⟩
theorem made_zero (ik : IntKind) (n : Nat) : (madeCells (Value.int ik 0).cells n).toList = List.replicate n (Value.int ik 0) := by
  unfold madeCells
  have hc : (Value.int ik 0).cells = #[Value.int ik 0] := rfl
  rw [hc, Array.toList_map]
  rw [List.eq_replicate_iff]
  refine ⟨by simp, fun v hv => ?_⟩
  obtain ⟨j, _, rfl⟩ := List.mem_map.1 hv
  simp [Nat.mod_one]
theorem vMakeSl_sound {t : TypeId} {x y : Operand} {tx ty : TypeId} {env : Env} {B : Bx} {o : Oper} {K : T → Bx → Prop} (ho : o.op = .makeSlice t x y)
    (h : vMakeSl P (dstN o) t (ev P env tx x) (ev P env ty y) env B K) : ∃ t B', OpG P o env B (dstN o) t B' ∧ Env.fresh (dstN o) env = true ∧ K t B' := by
  have hx : x ∈ o.op.operands := by rw [ho]; simp [Op.operands]
  have hy : y ∈ o.op.operands := by rw [ho]; simp [Op.operands]
  have hex : ∀ (a : Act), execOp a.eval o = (do pure (.value (← Instr.makeSlice t (a.eval x) (a.eval y)))) := by
    intro a; unfold execOp; rw [ho]
  unfold vMakeSl at h
  split at h
  · rename_i e ik k1 m k2 nn hm ex ey
    obtain ⟨rfl, h0, hle, hf, hfB, hK⟩ := h
    obtain ⟨hu, i, hi, hz, hs1, hb8⟩ := mkT_spec hm
    refine ⟨_, _, OpG.of_run fun κ M ν ac w he hs => ?_, hf, hK⟩
    have e1 := rep_int.1 (ev_rep he hx ex)
    have e2 := rep_int.1 (ev_rep he hy ey)
    refine ⟨.slice (some ⟨w.heap.size, 0, none⟩) m.toNat m.toNat, _, M, ν.set (dstN o) ⟨some w.heap.size, m.toNat⟩, exec_v (hex ac) ?_, Mem.ext.refl κ M, Nu.set_other, ?_, hs.new_box (c := madeCells (Value.int ik 0).cells (m.toNat * i.size)) (et := e) hfB ?_⟩
    · rw [e1, e2]
      have hb : (i.bytes : Int) * m ≤ 281474976710656 := by
        have h1 : (i.bytes : Int) * m ≤ 8 * m := Int.mul_le_mul_of_nonneg_right (by omega) h0
        omega
      exact run_makeSlice w t e i (.int ik 0) hu hi hz k1 k2 m m h0 (Int.le_refl _) (by rw [hs1]; omega) hb (by omega)
    · simp only [T.rep, Cell.rep]
      rw [Nu.set_self]; rfl
    · simp only [Res.ok, Nu.set_self]
      rw [hs1, Nat.mul_one]
      refine ⟨by simp, by unfold maxLen; omega, .inr ⟨w.heap.size, _, e, List.replicate m.toNat (Value.int ik 0), [], rfl, push_new, by simp [made_zero], repRows_zero _, by rw [size_madeCells]⟩⟩
  · exact h.elim
end Go.Sx
set_option linter.unusedVariables false
set_option linter.unusedSimpArgs false
namespace Go.Sx
variable {P : Program}
theorem growBy_le (need : Nat) : ∀ (r c : Nat), c ≤ need → Builtin.growBy need r c ≤ need + (need + 768) / 4
  | 0, c, h => by unfold Builtin.growBy; omega
  | r + 1, c, h => by
    unfold Builtin.growBy
    split
    · omega
    · by_cases hc : c + (c + 768) / 4 ≤ need
      · exact growBy_le need r _ hc
      · have : ∀ r, Builtin.growBy need r (c + (c + 768) / 4) = c + (c + 768) / 4 := by
          intro r
          cases r with
          | zero => rfl
          | succ r => unfold Builtin.growBy; rw [if_pos (by omega)]
        rw [this]; omega
theorem nextcap_le {need cap : Nat} (h : cap < need) : Builtin.nextslicecap need cap ≤ 2 * need + 192 := by
  unfold Builtin.nextslicecap
  split
  · omega
  · split
    · omega
    · have := growBy_le need 4 cap (by omega); omega
def byT (P : Program) (t : TypeId) : Option Nat :=
  match P.underlying t with
  | some (.slice e) => (P.info? e).map (·.bytes)
  | _ => none
theorem byT_spec {t e n : Nat} (h : byT P t = some n) (hu : P.underlying t = some (.slice e)) : ∃ i, P.info? e = some i ∧ i.bytes = n := by
  unfold byT at h
  rw [hu] at h
  simp only [] at h
  cases hi : P.info? e with
  | none => simp [hi] at h
  | some i => exact ⟨i, rfl, by simpa [hi] using h⟩
/-- the rows that a source of an append gives -/
def srcRows (n : Nat) (x : Option T) : Option (List (List C)) :=
  match x with
  | some (.one (.dat (.sl n' ys))) => bif n' == n then some ys else none
  | some (.one (.dat (.str l))) => bif n == 1 then some (l.map fun b => [.int .u8 b.toNat]) else none
  | _ => none
theorem firstCells_at {w : World} {b off : Nat} {vs : List Value} {n m cap : Nat} (h : At (w.heap[b]?) off vs) (hl : vs.length = m * n) {k : Nat} : (Builtin.firstCells n m (.slice (some ⟨b, off, none⟩) k cap)).run P w = .ok vs.toArray w := by
  unfold Builtin.firstCells
  rw [← hl]
  exact h.load
theorem repRows_bytes {M : Mem} : ∀ l : List UInt8, repRows M 1 (l.map fun b => [C.int .u8 b.toNat]) (l.map fun b => Value.int .u8 b.toNat)
  | [] => by simp only [List.map_nil, repRows]
  | b :: l => by
    simp only [List.map_cons, repRows]
    exact ⟨[.int .u8 b.toNat], _, rfl, rfl, by simp only [repRow, C.rep]; exact ⟨_, [], rfl, rfl, rfl⟩, repRows_bytes l⟩
theorem src_run {M : Mem} {ν : Nu} {n : Nat} {x : T} {v : Value} {ys : List (List C)} (h : srcRows n (some x) = some ys) (hr : x.rep M ν v) :
    ∃ new : List Value, repRows M n ys new ∧ ∀ w : World, (∀ b o, M b = some o → w.heap[b]? = some o) → (Builtin.lenOf v).run P w = .ok ys.length w ∧ (Builtin.firstCells n ys.length v).run P w = .ok new.toArray w := by
  unfold srcRows at h
  split at h
  · rename_i n' ys' e
    cases hn : (n' == n) with
    | false => rw [hn] at h; cases h
    | true =>
      have hn' : n' = n := by simpa using hn
      subst hn'
      simp only [hn, cond_true, Option.some.injEq] at h e
      subst h; subst e
      simp only [T.rep, Cell.rep, C.rep] at hr
      obtain ⟨a, cap, mid, ev, hc1, hc2, hrows, hor⟩ := hr
      refine ⟨mid, hrows, fun w hf => ⟨by rw [ev]; rfl, ?_⟩⟩
      rw [ev]
      rcases hor with hnil | ⟨b, off, ea, hat⟩
      · subst hnil
        simp only [repRows] at hrows
        subst hrows
        cases a with
        | none => rfl
        | some a => simp [Builtin.firstCells, loadCells, loadCellsFrom]
      · rw [ea]
        refine firstCells_at ?_ (repRows_length hrows)
        obtain ⟨c, et, fz, pre, post, e, e2, e3⟩ := hat
        exact ⟨c, et, fz, pre, post, hf _ _ e, e2, e3⟩
  · rename_i l e
    cases hn : (n == 1) with
    | false => rw [hn] at h; cases h
    | true =>
      have hn' : n = 1 := by simpa using hn
      subst hn'
      simp only [hn, cond_true, Option.some.injEq] at h e
      subst h; subst e
      have ev := rep_str.1 hr
      refine ⟨l.map fun b => .int .u8 b.toNat, repRows_bytes l, fun w hf => ⟨?_, ?_⟩⟩
      · rw [ev]; simp [Builtin.lenOf, size_mk]
      · rw [ev]
        simp only [Builtin.firstCells, Sem.run_pure, List.length_map]
        congr 1
        have : (ByteArray.mk l.toArray).extract 0 l.length = ByteArray.mk l.toArray := by
          rw [extract_mk]; simp
        rw [this]
        simp
  · cases h
def notInt (P : Program) (t : TypeId) : Bool :=
  match kdT P t with
  | some .other => true
  | some .str => true
  | _ => false
theorem notInt_run {t : TypeId} (h : notInt P t = true) (w : World) : ∃ d, (underlying t).run P w = .ok d w ∧ (d matches .int _) = false := by
  unfold notInt at h
  split at h
  · rename_i hk
    unfold kdT at hk
    split at hk <;> try (cases hk; done)
    rename_i d _ _ _ hu
    refine ⟨d, run_underlying hu w, ?_⟩
    cases d <;> first | rfl | (rename_i hni _ _; exact absurd rfl (hni _))
  · rename_i hk
    exact ⟨_, run_underlying (kdT_str hk) w, rfl⟩
  · cases h
theorem zeroCells_size (z : Array Value) (k : Nat) : (Builtin.zeroCells z k).size = k * z.size := by simp [Builtin.zeroCells]
/-- what append does, the row's own cells known -/
theorem append_run {t1 t2 e n by_ : Nat} {i : TypeInfo} (hu : P.underlying t1 = some (.slice e)) (hsz : szT P e = some n) (hi : P.info? e = some i) (hby : i.bytes = by_) {z : Value} (hz : ∀ w, (zeroValue e).run P w = .ok z w) (hzs : z.cells.size = n)
    (hn2 : notInt P t2 = true) {ty : TypeId} {base : Option Addr} {sLen sCap : Nat} {x : Value} {m : Nat} {new old : List Value} {w : World} (hlen : (Builtin.lenOf x).run P w = .ok m w) (hm : sLen + m ≤ maxLen) (hroom : (2 * (sLen + m) + 192) * by_ ≤ 281474976710656)
    (hnew : ∀ d, (Builtin.firstCells n m x).run P { w with drawn := d } = .ok new.toArray { w with drawn := d }) (hold : ∀ d, (Builtin.firstCells n sLen (.slice base sLen sCap)).run P { w with drawn := d } = .ok old.toArray { w with drawn := d }) (hb0 : 0 < by_) :
    (sLen + m ≤ sCap → (match base with | some a => (storeCells (a.add (sLen * n)) new).run P w | none => .ok () w) = .ok () w → (Builtin.append_ #[t1, t2] ty #[.slice base sLen sCap, x]).run P w = .ok (.slice base (sLen + m) sCap) w) ∧
    (∀ w', sLen + m ≤ sCap → (match base with | some a => (storeCells (a.add (sLen * n)) new).run P w | none => .ok () w) = .ok () w' → (Builtin.append_ #[t1, t2] ty #[.slice base sLen sCap, x]).run P w = .ok (.slice base (sLen + m) sCap) w') ∧
    (¬ sLen + m ≤ sCap → ∃ (cap : Nat) (d : Nat) (rest : Array Value), w.drawn ≤ d ∧ sLen + m ≤ cap ∧ cap ≤ maxLen ∧ rest.size = (cap - (sLen + m)) * n ∧
      (Builtin.append_ #[t1, t2] ty #[.slice base sLen sCap, x]).run P w = .ok (.slice (some ⟨w.heap.size, 0, none⟩) (sLen + m) cap) { w with drawn := d, heap := w.heap.push (.cells ((old ++ new).toArray ++ rest) e) }) := by
  obtain ⟨d2, hd2, hd2i⟩ := notInt_run hn2 w
  have hti : ∀ w, (typeInfo e).run P w = .ok i w := fun w => by simp [typeInfo, hi]
  have hnew0 := hnew w.drawn
  have hold0 := hold w.drawn
  have part2 : ∀ w', sLen + m ≤ sCap → (match base with | some a => (storeCells (a.add (sLen * n)) new).run P w | none => .ok () w) = .ok () w' → (Builtin.append_ #[t1, t2] ty #[.slice base sLen sCap, x]).run P w = .ok (.slice base (sLen + m) sCap) w' := by
    intro w' hle hst
    have hfc : (Builtin.firstCells n m x).run P w = .ok new.toArray w := hnew0
    unfold Builtin.append_
    cases d2 <;> first
      | (cases hd2i; done)
      | (simp only [List.getElem?_toArray, List.getElem?_cons_zero, List.getElem?_cons_succ, Sem.run_bind, run_underlying hu, Result.andThen_ok, run_sz hsz, hd2, Sem.run_pure, Bool.false_eq_true, if_false, hlen, hle, if_true, Bool.not_false, hfc]
         cases base with
         | none =>
           simp only [] at hst
           cases hst
           simp
         | some a =>
           simp only [] at hst
           simp only [Sem.run_bind, hst, Result.andThen_ok, Sem.run_pure])
  refine ⟨fun hle hst => part2 w hle hst, part2, fun hgt => ?_⟩
  have hnc := nextcap_le (need := sLen + m) (cap := sCap) (by omega)
  have hnb : ¬ Builtin.nextslicecap (sLen + m) sCap * by_ > 2 ^ 48 := by
    have := Nat.mul_le_mul_right by_ hnc
    omega
  have hforced : (Question.appendCap (sLen + m) sCap e).forced = false := rfl
  let cap := (Question.appendCap (sLen + m) sCap e).cut (w.tape w.drawn (.appendCap (sLen + m) sCap e))
  have hcap : sLen + m ≤ cap ∧ cap ≤ maxLen := by
    show _ ≤ _ + _ % _ ∧ _ + _ % _ ≤ _
    unfold maxLen at hm ⊢
    have : 0 < 2 ^ 63 - (sLen + m) := by omega
    have := Nat.mod_lt (w.tape w.drawn (.appendCap (sLen + m) sCap e)) this
    omega
  refine ⟨cap, w.drawn + 1, Builtin.zeroCells z.cells (cap - (sLen + m)), Nat.le_succ _, hcap.1, hcap.2, by rw [zeroCells_size, hzs], ?_⟩
  unfold Builtin.append_
  have hnb2 : ¬ Builtin.nextslicecap (sLen + m) sCap * i.bytes > 2 ^ 48 := by rw [hby]; exact hnb
  have hb2 : ¬ i.bytes = 0 := by omega
  have h1 := hold (w.drawn + 1)
  have h2 := hnew (w.drawn + 1)
  cases d2 <;> first
    | (cases hd2i; done)
    | (simp only [List.getElem?_toArray, List.getElem?_cons_zero, List.getElem?_cons_succ, Sem.run_bind, run_underlying hu, Result.andThen_ok, run_sz hsz, hd2, Sem.run_pure, Bool.false_eq_true, if_false, hlen, hgt, Bool.not_false, if_true, hti, hnb2, hb2, or_false, and_false, run_choose, hforced, run_askRoom, h1, h2, hz, newRow, run_newObj]
       congr 4
       simp
       rfl)
/-- the name is the call's own -/
def lowN (k : Nat) : Bool := decide (k < 1000000)
theorem lowN_spec {k : Nat} (h : lowN k = true) : k < pin := by simpa [lowN, pin] using h
def vAppend (P : Program) (j : Nat) (t1 t2 : TypeId) (s x : Option T) (env : Env) (B : Bx) (K : T → Bx → Prop) : Prop :=
  match bsT P t1, byT P t1 with
  | some (_, n), some (by_ + 1) => match srcRows n x with
    | some ys => notInt P t2 = true ∧ Env.fresh j env = true ∧ Bx.fresh j B = true ∧ (match s with
      | some (.one (.dat (.nil _))) => (2 * ys.length + 192) * (by_ + 1) ≤ 281474976710656 ∧ K (.one (.own j ys.length)) ((j, .row n ys) :: B)
      | some (.one (.own k m)) => match B.lookup k with
        | some (.row n' rows) => n' = n ∧ m = rows.length ∧ lowN k = true ∧ (2 * (rows.length + ys.length) + 192) * (by_ + 1) ≤ 281474976710656 ∧ K (.one (.own j (rows ++ ys).length)) ((j, .row n (rows ++ ys)) :: Bx.drop k B)
        | _ => False
      | _ => False)
    | none => False
  | _, _ => False
theorem Sat.drop {κ : Kap} {M : Mem} {ν : Nu} {B B' : Bx} {w : World} (h : Sat κ M ν B w) (hs : ∀ x ∈ B', x ∈ B) (hn : (B'.map (·.1)).Nodup) : Sat κ M ν B' w :=
  ⟨h.os, h.tape, h.output, Nat.zero_le _, h.size, h.unch, h.fro, fun k r hm => h.res k r (hs _ hm), fun k r b hm => h.away k r b (hs _ hm), fun k r k' r' b hm hm' => h.inj k r k' r' b (hs _ hm) (hs _ hm'), hn⟩
theorem Sat.drawn {κ : Kap} {M : Mem} {ν : Nu} {B : Bx} {w : World} (h : Sat κ M ν B w) (d : Nat) (hd : w.drawn ≤ d) : Sat κ M ν B { w with drawn := d } :=
  ⟨h.os, h.tape, h.output, Nat.zero_le _, h.size, h.unch, h.fro, fun k r hm => Res.ok_mono (Mem.le.refl M) (fun b x e _ => e) (h.res k r hm), h.away, h.inj, h.nodup⟩
theorem Bx.fresh_drop {j k : Nat} {B : Bx} (h : Bx.fresh j B = true) : Bx.fresh j (Bx.drop k B) = true := by
  induction B with
  | nil => rfl
  | cons p B ih =>
    simp only [Bx.fresh, Bool.and_eq_true] at h
    unfold Bx.drop
    cases hp : (p.1 == k) with
    | true => exact h.2
    | false => simp only [cond_false, Bx.fresh, Bool.and_eq_true]; exact ⟨h.1, ih h.2⟩
/-- the same block under a new name -/
theorem Sat.rename {κ : Kap} {M : Mem} {ν : Nu} {B : Bx} {w : World} {j k : Nat} {sz : Nat} {rows : List (List C)} (h : Sat κ M ν B w) (hk : (k, .row sz rows) ∈ B) (hf : Bx.fresh j B = true) (hlow : k < pin) :
    Sat κ M (ν.set j (ν k)) ((j, .row sz rows) :: Bx.drop k B) w where
  os := h.os
  tape := h.tape
  output := h.output
  dr := Nat.zero_le _
  size := h.size
  unch := h.unch
  fro := h.fro
  res := fun i q hm => by
    rcases List.mem_cons.1 hm with e | hm
    · cases e
      have := h.res k _ hk
      simp only [Res.ok] at this ⊢
      rw [Nu.set_self]; exact this
    · obtain ⟨hm, _⟩ := Bx.mem_drop h.nodup hm
      obtain ⟨hj, hc⟩ := Bx.fresh_spec hf hm
      exact Res.ok_fresh Nu.set_other hj hc (h.res i q hm)
  away := fun i q b hm hb => by
    rcases List.mem_cons.1 hm with e | hm
    · cases e; rw [Nu.set_self] at hb
      have h1 := h.away k _ b hk hb
      exact h1
    · obtain ⟨hm, _⟩ := Bx.mem_drop h.nodup hm
      obtain ⟨hj, hc⟩ := Bx.fresh_spec hf hm
      rw [Nu.set_other i hj] at hb
      exact h.away i q b hm hb
  inj := fun i q i' q' b hm hm' hb hb' => by
    rcases List.mem_cons.1 hm with e | hm <;> rcases List.mem_cons.1 hm' with e' | hm'
    · cases e; cases e'; rfl
    · cases e
      obtain ⟨hm', hne⟩ := Bx.mem_drop h.nodup hm'
      obtain ⟨hj, hc⟩ := Bx.fresh_spec hf hm'
      rw [Nu.set_self] at hb
      rw [Nu.set_other i' hj] at hb'
      exact absurd (h.inj i' q' k _ b hm' hk hb' hb) hne
    · cases e'
      obtain ⟨hm, hne⟩ := Bx.mem_drop h.nodup hm
      obtain ⟨hj, hc⟩ := Bx.fresh_spec hf hm
      rw [Nu.set_self] at hb'
      rw [Nu.set_other i hj] at hb
      exact absurd (h.inj i q k _ b hm hk hb hb') hne
    · obtain ⟨hm, _⟩ := Bx.mem_drop h.nodup hm
      obtain ⟨hm', _⟩ := Bx.mem_drop h.nodup hm'
      obtain ⟨hj, _⟩ := Bx.fresh_spec hf hm
      obtain ⟨hj', _⟩ := Bx.fresh_spec hf hm'
      rw [Nu.set_other i hj] at hb
      rw [Nu.set_other i' hj'] at hb'
      exact h.inj i q i' q' b hm hm' hb hb'
  nodup := by
    simp only [List.map_cons, List.nodup_cons]
    refine ⟨fun hm => ?_, Bx.drop_nodup k h.nodup⟩
    obtain ⟨x, hx, e⟩ := List.mem_map.1 hm
    obtain ⟨hx, _⟩ := Bx.mem_drop h.nodup hx
    exact (Bx.fresh_spec (j := x.1) (r := x.2) hf hx).1 e
theorem vAppend_sound {t1 t2 ty1 ty2 : TypeId} {s x : Operand} {env : Env} {B : Bx} {o : Oper} {K : T → Bx → Prop} (ho : o.op = .call { callee := .builtin .append, args := #[s, x], argTypes := #[t1, t2] })
    (h : vAppend P (dstN o) t1 t2 (ev P env ty1 s) (softO (ev P env ty2 x)) env B K) :
    ∃ t B', OpG P o env B (dstN o) t B' ∧ Env.fresh (dstN o) env = true ∧ K t B' := by
  have hs : s ∈ o.op.operands := by rw [ho]; simp [Op.operands, Call.operands]
  have hx : x ∈ o.op.operands := by rw [ho]; simp [Op.operands, Call.operands]
  have hex : ∀ (a : Act), execOp a.eval o = (do pure (.value (← Builtin.append_ #[t1, t2] o.type #[a.eval s, a.eval x]))) := by
    intro a; rw [exec_builtin ho]; simp [builtin]
  unfold vAppend at h
  split at h
  · rename_i e n by_ hbs hbyt
    obtain ⟨hu, hsz, ⟨z, hz, hzs⟩, hn0⟩ := bsT_spec hbs
    obtain ⟨i, hi, hib⟩ := byT_spec hbyt hu
    split at h
    · rename_i ys hsrc
      obtain ⟨hn2, hf, hfB, h⟩ := h
      cases hxe : softO (ev P env ty2 x) with
      | none => rw [hxe] at hsrc; cases hsrc
      | some xt =>
      rw [hxe] at hsrc
      split at h
      · rename_i n' es
        obtain ⟨hroom, hK⟩ := h
        refine ⟨_, _, OpG.of_run fun κ M ν a w he hsat => ?_, hf, hK⟩
        obtain ⟨new, hrows, hrun⟩ := src_run (P := P) hsrc (softO_rep he hx hxe)
        have hsv := ev_rep he hs es
        simp only [T.rep, Cell.rep, C.rep] at hsv
        have hyb : ys.length ≤ maxLen := by
          have : 1 ≤ by_ + 1 := by omega
          have := Nat.mul_le_mul_left (2 * ys.length + 192) this
          unfold maxLen; omega
        obtain ⟨_, hin, hout⟩ := append_run (t2 := t2) (ty := o.type) hu hsz hi hib hz hzs hn2 (base := none) (sLen := 0) (sCap := 0) (x := a.eval x) (m := ys.length) (new := new) (old := []) (w := w) (hrun w hsat.fro).1 (by omega) (by simpa using hroom)
          (fun d => (hrun { w with drawn := d } hsat.fro).2) (fun d => rfl) (by omega)
        by_cases h0 : 0 + ys.length ≤ 0
        · have hnil : ys = [] := List.length_eq_zero_iff.1 (by omega)
          subst hnil
          refine ⟨_, w, M, ν.set (dstN o) ⟨none, 0⟩, exec_v (hex a) (by rw [hsv]; exact hin w (by simp) rfl), Mem.ext.refl κ M, Nu.set_other, ?_, ?_⟩
          · simp only [T.rep, Cell.rep, Nu.set_self]
            rfl
          · refine ⟨hsat.os, hsat.tape, hsat.output, Nat.zero_le _, hsat.size, hsat.unch, hsat.fro, ?_, ?_, ?_, ?_⟩
            · intro k r hm
              rcases List.mem_cons.1 hm with e | hm
              · cases e; simp only [Res.ok, Nu.set_self]; exact ⟨Nat.le_refl _, Nat.zero_le _, .inl (by simp)⟩
              · obtain ⟨hj, hc⟩ := Bx.fresh_spec hfB hm
                exact Res.ok_fresh Nu.set_other hj hc (hsat.res k r hm)
            · intro k r b hm hb
              rcases List.mem_cons.1 hm with e | hm
              · cases e; rw [Nu.set_self] at hb; cases hb
              · obtain ⟨hj, hc⟩ := Bx.fresh_spec hfB hm
                rw [Nu.set_other k hj] at hb
                exact hsat.away k r b hm hb
            · intro k r k' r' b hm hm' hb hb'
              rcases List.mem_cons.1 hm with e | hm <;> rcases List.mem_cons.1 hm' with e' | hm'
              · cases e; cases e'; rfl
              · cases e; rw [Nu.set_self] at hb; cases hb
              · cases e'; rw [Nu.set_self] at hb'; cases hb'
              · obtain ⟨hj, _⟩ := Bx.fresh_spec hfB hm
                obtain ⟨hj', _⟩ := Bx.fresh_spec hfB hm'
                rw [Nu.set_other k hj] at hb
                rw [Nu.set_other k' hj'] at hb'
                exact hsat.inj k r k' r' b hm hm' hb hb'
            · simp only [List.map_cons, List.nodup_cons]
              refine ⟨fun hm => ?_, hsat.nodup⟩
              obtain ⟨x, hx, e⟩ := List.mem_map.1 hm
              exact (Bx.fresh_spec (j := x.1) (r := x.2) hfB hx).1 e
        · obtain ⟨cap, d, rest, hdr, hc1, hc2, hrs, hr⟩ := hout h0
          refine ⟨_, _, M, ν.set (dstN o) ⟨some w.heap.size, cap⟩, exec_v (hex a) (by rw [hsv]; exact hr), Mem.ext.refl κ M, Nu.set_other, ?_, ?_⟩
          · simp only [T.rep, Cell.rep, Nu.set_self, Nat.zero_add]
            rfl
          · refine Sat.new_box (w := { w with drawn := d }) (hsat.drawn d hdr) hfB ?_
            simp only [Res.ok, Nu.set_self]
            refine ⟨by omega, hc2, .inr ⟨w.heap.size, _, e, new, rest.toList, rfl, push_new, by simp, hrows, ?_⟩⟩
            have := repRows_length hrows
            simp only [List.nil_append, Array.size_append, List.size_toArray, this, hrs, Nat.zero_add]
            rw [← Nat.add_mul]
            congr 1
            omega
      · rename_i k m es
        split at h
        · rename_i n' rows hb
          obtain ⟨rfl, rfl, hlow, hroom, hK⟩ := h
          refine ⟨_, _, OpG.of_run fun κ M ν a w he hsat => ?_, hf, hK⟩
          obtain ⟨new, hrows, hrun⟩ := src_run (P := P) hsrc (softO_rep he hx hxe)
          have hsv := ev_rep he hs es
          simp only [T.rep, Cell.rep] at hsv
          have hyb : rows.length + ys.length ≤ maxLen := by
            have : 1 ≤ by_ + 1 := by omega
            have := Nat.mul_le_mul_left (2 * (rows.length + ys.length) + 192) this
            unfold maxLen; omega
          have hmem := lookup_box hb
          have hres := hsat.res k _ hmem
          simp only [Res.ok] at hres
          obtain ⟨hcap1, hcap2, hres⟩ := hres
          have hlenapp : (rows ++ ys).length = rows.length + ys.length := List.length_append
          rcases hres with ⟨hnone, hc0⟩ | ⟨b, c, et, mid, spare, hb1, hheap, htl, hrows0, hcs⟩
          · -- an empty row without a block
            have hr0 : rows = [] := List.length_eq_zero_iff.1 (by omega)
            subst hr0
            have hsv' : a.eval s = .slice none 0 0 := by rw [hsv, hnone, hc0]; rfl
            obtain ⟨_, hin, hout⟩ := append_run (t2 := t2) (ty := o.type) hu hsz hi hib hz hzs hn2 (base := none) (sLen := 0) (sCap := 0) (x := a.eval x) (m := ys.length) (new := new) (old := []) (w := w) (hrun w hsat.fro).1 (by simpa using hyb) (by simpa using hroom)
              (fun d => (hrun { w with drawn := d } hsat.fro).2) (fun d => rfl) (by omega)
            by_cases h0 : 0 + ys.length ≤ 0
            · have hnil : ys = [] := List.length_eq_zero_iff.1 (by omega)
              subst hnil
              refine ⟨_, w, M, ν.set (dstN o) (ν k), exec_v (hex a) (by rw [hsv']; exact hin w (by simp) rfl), Mem.ext.refl κ M, Nu.set_other, ?_, by simpa using hsat.rename hmem hfB (lowN_spec hlow)⟩
              simp only [T.rep, Cell.rep, Nu.set_self, hnone, hc0]
              rfl
            · obtain ⟨cap, d, rest, hdr, hc1, hc2, hrs, hr⟩ := hout h0
              refine ⟨_, _, M, ν.set (dstN o) ⟨some w.heap.size, cap⟩, exec_v (hex a) (by rw [hsv']; exact hr), Mem.ext.refl κ M, Nu.set_other, ?_, ?_⟩
              · simp only [T.rep, Cell.rep, Nu.set_self, Nat.zero_add, List.nil_append]
                rfl
              · refine Sat.new_box (w := { w with drawn := d }) ((hsat.drop (fun x hx => (Bx.mem_drop hsat.nodup hx).1) (Bx.drop_nodup k hsat.nodup)).drawn d hdr) (Bx.fresh_drop hfB) ?_
                simp only [Res.ok, Nu.set_self, List.nil_append]
                refine ⟨by omega, hc2, .inr ⟨w.heap.size, _, e, new, rest.toList, rfl, push_new, by simp, hrows, ?_⟩⟩
                have := repRows_length hrows
                simp only [List.nil_append, Array.size_append, List.size_toArray, this, hrs, Nat.zero_add]
                rw [← Nat.add_mul]
                congr 1
                omega
          · have hsv' : a.eval s = .slice (some ⟨b, 0, none⟩) rows.length (ν k).cap := by rw [hsv, hb1]; rfl
            have hat : At (w.heap[b]?) 0 mid := ⟨c, et, (0, 0), [], spare, hheap, by simpa using htl, rfl⟩
            obtain ⟨_, hin, hout⟩ := append_run (t2 := t2) (ty := o.type) hu hsz hi hib hz hzs hn2 (base := some ⟨b, 0, none⟩) (sLen := rows.length) (sCap := (ν k).cap) (x := a.eval x) (m := ys.length) (new := new) (old := mid) (w := w) (hrun w hsat.fro).1 hyb hroom
              (fun d => (hrun { w with drawn := d } hsat.fro).2) (fun d => firstCells_at (w := { w with drawn := d }) hat (repRows_length hrows0)) (by omega)
            by_cases h0 : rows.length + ys.length ≤ (ν k).cap
            · -- in place
              have hnl := repRows_length hrows
              have hml := repRows_length hrows0
              have hcl : mid.length + spare.length = (ν k).cap * n' := by rw [← hcs, ← Array.length_toList (xs := c), htl, List.length_append]
              have hsp : new.length ≤ spare.length := by
                have h3 : (rows.length + ys.length) * n' ≤ (ν k).cap * n' := Nat.mul_le_mul_right n' h0
                rw [Nat.add_mul] at h3
                omega
              have hst := run_storeAt (P := P) b (rows.length * n') et new 0 c w mid (spare.take new.length) (spare.drop new.length) hheap (by rw [List.take_append_drop]; exact htl) (by rw [hml]; rfl) (by rw [List.length_take]; omega)
                (fun v hv => by
                  have : ∀ {rs : List (List C)} {vs : List Value}, repRows M n' rs vs → ∀ v ∈ vs, v.oneCell' = true := by
                    intro rs
                    induction rs with
                    | nil => intro vs h v hv; simp only [repRows] at h; subst h; cases hv
                    | cons r rs ih =>
                      intro vs h v hv
                      simp only [repRows] at h
                      obtain ⟨v1, v2, e, _, h1, h2⟩ := h
                      subst e
                      rcases List.mem_append.1 hv with hv | hv
                      · exact Cell.reps_oneCell (ν := ν) (Cell.reps_map_c.2 h1) v hv
                      · exact ih h2 v hv
                  exact this hrows v hv)
              have hsat1 := hsat.rename (j := dstN o) hmem hfB (lowN_spec hlow)
              refine ⟨_, _, M, ν.set (dstN o) (ν k), exec_v (hex a) (by rw [hsv']; exact hin _ h0 (by simp only [addr_add, Nat.zero_add]; exact hst)), Mem.ext.refl κ M, Nu.set_other, ?_, ?_⟩
              · simp only [T.rep, Cell.rep, Nu.set_self, hb1, hlenapp]
                rfl
              · have hw := hsat1.write (k := dstN o) (b := b) (r := .row n' rows) (r' := .row n' (rows ++ ys)) (c' := (mid ++ (new ++ spare.drop new.length)).toArray) (List.mem_cons_self ..) (by rw [Nu.set_self]; exact hb1) (by
                  simp only [Res.ok, Nu.set_self]
                  refine ⟨by rw [hlenapp]; exact h0, hcap2, .inr ⟨b, _, et, mid ++ new, spare.drop new.length, hb1, setRow_heap w b c _ et _ hheap, by simp, repRows_append hrows0 hrows, ?_⟩⟩
                  simp only [List.size_toArray, List.length_append, List.length_drop]
                  omega)
                simpa [Bx.put] using hw
            · obtain ⟨cap, d, rest, hdr, hc1, hc2, hrs, hr⟩ := hout h0
              refine ⟨_, _, M, ν.set (dstN o) ⟨some w.heap.size, cap⟩, exec_v (hex a) (by rw [hsv']; exact hr), Mem.ext.refl κ M, Nu.set_other, ?_, ?_⟩
              · simp only [T.rep, Cell.rep, Nu.set_self, hlenapp]
                rfl
              · refine Sat.new_box (w := { w with drawn := d }) ((hsat.drop (fun x hx => (Bx.mem_drop hsat.nodup hx).1) (Bx.drop_nodup k hsat.nodup)).drawn d hdr) (Bx.fresh_drop hfB) ?_
                simp only [Res.ok, Nu.set_self]
                refine ⟨by rw [hlenapp]; omega, hc2, .inr ⟨w.heap.size, _, e, mid ++ new, rest.toList, rfl, push_new, by simp, repRows_append hrows0 hrows, ?_⟩⟩
                have h1 := repRows_length hrows
                have h2 := repRows_length hrows0
                simp only [Array.size_append, List.size_toArray, List.length_append, h1, h2, hrs]
                rw [← Nat.add_mul, ← Nat.add_mul]
                congr 1
                omega
        · exact h.elim
      · exact h.elim
    · exact h.elim
  · exact h.elim
mutual
/-- the row k, that has len elements, is spoken of at its full length -/
def Cell.frOk (k len : Nat) : Cell → Prop
  | .own j m => (j == k) = true → m = len
  | .clo _ caps => Cell.frOks k len caps
  | _ => True
def Cell.frOks (k len : Nat) : List Cell → Prop
  | [] => True
  | c :: cs => Cell.frOk k len c ∧ Cell.frOks k len cs
end
mutual
def Cell.fr (k sz : Nat) (rows : List (List C)) : Cell → Cell
  | .own j m => bif j == k then .dat (.sl sz rows) else .own j m
  | .clo f caps => .clo f (Cell.frs k sz rows caps)
  | .dat c => .dat c
  | .ptr j o => .ptr j o
  | .rp j s i f => .rp j s i f
  | .arr j n => .arr j n
  | .ref r => .ref r
  | .mp j => .mp j
def Cell.frs (k sz : Nat) (rows : List (List C)) : List Cell → List Cell
  | [] => []
  | c :: cs => Cell.fr k sz rows c :: Cell.frs k sz rows cs
end
mutual
def T.frOk (k len : Nat) : T → Prop
  | .one c => c.frOk k len
  | .agg cs => Cell.frOks k len cs
  | .tup ts => T.frOks k len ts
  | _ => True
def T.frOks (k len : Nat) : List T → Prop
  | [] => True
  | t :: ts => T.frOk k len t ∧ T.frOks k len ts
end
mutual
def T.fr (k sz : Nat) (rows : List (List C)) : T → T
  | .one c => .one (c.fr k sz rows)
  | .agg cs => mkAgg (Cell.frs k sz rows cs)
  | .tup ts => .tup (T.frs k sz rows ts)
  | .st r => .st r
  | .un => .un
def T.frs (k sz : Nat) (rows : List (List C)) : List T → List T
  | [] => []
  | t :: ts => T.fr k sz rows t :: T.frs k sz rows ts
end
/-- what is known of a frozen row -/
def FrRow (M M' : Mem) (ν : Nu) (k sz : Nat) (rows : List (List C)) : Prop :=
  M.le M' ∧ (C.sl sz rows).rep M' (.slice ((ν k).blk.map fun b => ⟨b, 0, none⟩) rows.length (ν k).cap)
mutual
theorem Cell.rep_fr {M M' : Mem} {ν : Nu} {k sz : Nat} {rows : List (List C)} (hF : FrRow M M' ν k sz rows) : ∀ (c : Cell) (v : Value), c.frOk k rows.length → c.rep M ν v → (c.fr k sz rows).rep M' ν v
  | .own j m, v, hok, h => by
    simp only [Cell.frOk] at hok
    simp only [Cell.fr]
    cases hj : (j == k) with
    | false => simp only [cond_false]; simpa only [Cell.rep] using h
    | true =>
      have hjk : j = k := by simpa using hj
      have hm := hok hj
      subst hm; subst hjk
      simp only [Cell.rep] at h
      simp only [cond_true, Cell.rep]
      rw [h]; exact hF.2
  | .clo f caps, v, hok, h => by
    simp only [Cell.frOk] at hok
    simp only [Cell.rep] at h
    simp only [Cell.fr, Cell.rep]
    obtain ⟨vs, e, h⟩ := h
    exact ⟨vs, e, Cell.reps_fr hF caps vs hok h⟩
  | .dat c, v, _, h => by simp only [Cell.fr]; exact Cell.rep_mono hF.1 _ _ h
  | .ptr j o, v, _, h => by simp only [Cell.fr]; exact Cell.rep_mono hF.1 _ _ h
  | .rp j s i f, v, _, h => by simp only [Cell.fr]; exact Cell.rep_mono hF.1 _ _ h
  | .arr j n, v, _, h => by simp only [Cell.fr]; exact Cell.rep_mono hF.1 _ _ h
  | .ref r, v, _, h => by simp only [Cell.fr]; exact Cell.rep_mono hF.1 _ _ h
  | .mp j, v, _, h => by simp only [Cell.fr]; exact Cell.rep_mono hF.1 _ _ h
theorem Cell.reps_fr {M M' : Mem} {ν : Nu} {k sz : Nat} {rows : List (List C)} (hF : FrRow M M' ν k sz rows) : ∀ (cs : List Cell) (vs : List Value), Cell.frOks k rows.length cs → Cell.reps M ν cs vs → Cell.reps M' ν (Cell.frs k sz rows cs) vs
  | [], vs, _, h => by simpa only [Cell.frs, Cell.reps] using h
  | c :: cs, vs, hok, h => by
    simp only [Cell.frOks] at hok
    simp only [Cell.reps] at h
    simp only [Cell.frs, Cell.reps]
    obtain ⟨v, vs', e, h1, h2⟩ := h
    exact ⟨v, vs', e, Cell.rep_fr hF c v hok.1 h1, Cell.reps_fr hF cs vs' hok.2 h2⟩
end
mutual
theorem T.rep_fr {M M' : Mem} {ν : Nu} {k sz : Nat} {rows : List (List C)} (hF : FrRow M M' ν k sz rows) : ∀ (t : T) (v : Value), t.frOk k rows.length → t.rep M ν v → (t.fr k sz rows).rep M' ν v
  | .one c, v, hok, h => by simp only [T.frOk] at hok; simp only [T.fr, T.rep] at h ⊢; exact Cell.rep_fr hF c v hok h
  | .agg cs, v, hok, h => by
    simp only [T.frOk] at hok
    simp only [T.rep] at h
    obtain ⟨a, e, h⟩ := h
    subst e
    simp only [T.fr]
    exact mkAgg_rep (Cell.reps_fr hF cs _ hok h)
  | .tup ts, v, hok, h => by
    simp only [T.frOk] at hok
    simp only [T.rep] at h
    obtain ⟨a, e, h⟩ := h
    simp only [T.fr, T.rep]
    exact ⟨a, e, T.reps_fr hF ts a hok h⟩
  | .st r, v, _, h => by simp only [T.fr]; exact T.rep_mono hF.1 _ _ h
  | .un, v, _, h => by simp only [T.fr]; exact T.rep_mono hF.1 _ _ h
theorem T.reps_fr {M M' : Mem} {ν : Nu} {k sz : Nat} {rows : List (List C)} (hF : FrRow M M' ν k sz rows) : ∀ (ts : List T) (vs : List Value), T.frOks k rows.length ts → T.reps M ν ts vs → T.reps M' ν (T.frs k sz rows ts) vs
  | [], vs, _, h => by simpa only [T.frs, T.reps] using h
  | t :: ts, vs, hok, h => by
    simp only [T.frOks] at hok
    simp only [T.reps] at h
    simp only [T.frs, T.reps]
    obtain ⟨v, vs', e, h1, h2⟩ := h
    exact ⟨v, vs', e, T.rep_fr hF t v hok.1 h1, T.reps_fr hF ts vs' hok.2 h2⟩
end
theorem Sat.freeze {κ : Kap} {M : Mem} {ν : Nu} {B : Bx} {w : World} {k sz : Nat} {rows : List (List C)} (h : Sat κ M ν B w) (hk : (k, .row sz rows) ∈ B) (hlow : k < pin) :
    ∃ M', M.ext κ M' ∧ Sat κ M' ν (Bx.drop k B) w ∧ FrRow M M' ν k sz rows := by
  have hr := h.res k _ hk
  simp only [Res.ok] at hr
  obtain ⟨hc1, hc2, hr⟩ := hr
  have hd := h.drop (B' := Bx.drop k B) (fun x hx => (Bx.mem_drop h.nodup hx).1) (Bx.drop_nodup k h.nodup)
  rcases hr with ⟨hn, hc0⟩ | ⟨b, c, et, mid, post, hb, hheap, htl, hrows, hsz⟩
  · have hr0 : rows = [] := List.length_eq_zero_iff.1 (by omega)
    subst hr0
    refine ⟨M, Mem.ext.refl κ M, hd, Mem.le.refl M, ?_⟩
    simp only [C.rep]
    exact ⟨_, (ν k).cap, [], rfl, by simp, hc2, by simp only [repRows], .inl trivial⟩
  · obtain ⟨ha1, ha2⟩ := h.away k _ b hk hb
    have hb2 : κ.w.heap.size ≤ b ∨ κ.D b := ha2
    have hle : M.le (M.add b (.cells c et (0, 0))) := by
      intro i x e
      rw [Mem.add_at ha1]
      split
      · rename_i hi; subst hi; rw [ha1] at e; cases e
      · exact e
    refine ⟨M.add b (.cells c et (0, 0)), ⟨hle, fun i x e => ?_⟩, ?_, hle, ?_⟩
    · rw [Mem.add_at ha1] at e
      split at e
      · rename_i hi; subst hi; exact .inr hb2
      · exact .inl e
    · refine ⟨hd.os, hd.tape, hd.output, Nat.zero_le _, hd.size, hd.unch, ?_, fun j r hm => Res.ok_mono hle (fun b x e _ => e) (hd.res j r hm), ?_, hd.inj, hd.nodup⟩
      · intro i x e
        rw [Mem.add_at ha1] at e
        split at e
        · rename_i hi; subst hi; cases e; exact hheap
        · exact h.fro _ _ e
      · intro j r b' hm hb'
        obtain ⟨hm', hne⟩ := Bx.mem_drop h.nodup hm
        obtain ⟨h1, h2⟩ := h.away j r b' hm' hb'
        refine ⟨?_, h2⟩
        rw [Mem.add_at ha1]
        rw [if_neg]
        · exact h1
        · intro e; subst e
          exact hne (h.inj j r k _ b' hm' hk hb' hb)
    · simp only [C.rep]
      refine ⟨_, (ν k).cap, mid, rfl, hc1, hc2, repRows_mono hle sz rows mid hrows, .inr ⟨b, 0, by rw [hb]; rfl, ?_⟩⟩
      refine ⟨c, et, (0, 0), [], post, ?_, by simpa using htl, rfl⟩
      rw [Mem.add_at ha1, if_pos rfl]
def ownCell : List Cell → Option Nat
  | [] => none
  | .own k _ :: _ => some k
  | _ :: cs => ownCell cs
def ownIn : List T → Option Nat
  | [] => none
  | .one (.own k _) :: _ => some k
  | .agg cs :: ts => match ownCell cs with
    | some k => some k
    | none => ownIn ts
  | _ :: ts => ownIn ts
def vCallZ0 (P : Program) (g : FuncId) (us : List T) (B : Bx) (K : T → Bx → Prop) : Prop := ∃ r, PC P g us r ∧ K r B
def vFr (us : List T) (B : Bx) (N : List T → Bx → Prop) : Prop :=
  match ownIn us with
  | none => N us B
  | some k => match B.lookup k with
    | some (.row sz rows) => lowN k = true ∧ T.frOks k rows.length us ∧ N (T.frs k sz rows us) (Bx.drop k B)
    | _ => False
/-- up to three rows -/
def vCallZ (P : Program) (g : FuncId) (us : List T) (B : Bx) (K : T → Bx → Prop) : Prop :=
  vFr us B fun us B => vFr us B fun us B => vFr us B fun us B => vCallZ0 P g us B K
theorem vFr_sound {us : List T} {B : Bx} {N : List T → Bx → Prop} (h : vFr us B N) :
    ∃ us' B', N us' B' ∧ ∀ κ M ν w vs, Sat κ M ν B w → T.reps M ν us vs → ∃ M', M.ext κ M' ∧ Sat κ M' ν B' w ∧ T.reps M' ν us' vs := by
  unfold vFr at h
  split at h
  · exact ⟨us, B, h, fun κ M ν w vs hs hr => ⟨M, Mem.ext.refl κ M, hs, hr⟩⟩
  · rename_i k hk
    split at h
    · rename_i sz rows hb
      obtain ⟨hlow, hok, hN⟩ := h
      refine ⟨_, _, hN, fun κ M ν w vs hs hr => ?_⟩
      obtain ⟨M', h1, h2, h3⟩ := hs.freeze (lookup_box hb) (lowN_spec hlow)
      exact ⟨M', h1, h2, T.reps_fr h3 us vs hok hr⟩
    · exact h.elim
theorem vCallZ_sound {ty : TypeId} {f : Operand} {args : List Operand} {ts : Array TypeId} {env : Env} {B : Bx} {o : Oper} {K : T → Bx → Prop} {g : FuncId} {caps us : List T} (ho : o.op = .call { callee := .value f, args := args.toArray, argTypes := ts })
    (hf : calleeT (ev P env ty f) = some (g, caps)) (hu : evs P env args ts.toList = some us) (h : vCallZ P g (us ++ caps) B K) : ∃ u B', OpE P o env B u B' ∧ K u B' := by
  obtain ⟨us1, B1, h, h1⟩ := vFr_sound h
  obtain ⟨us2, B2, h, h2⟩ := vFr_sound h
  obtain ⟨us3, B3, h, h3⟩ := vFr_sound h
  obtain ⟨r, hpc, hK⟩ := h
  refine ⟨r, B3, ?_, hK⟩
  intro κ M ν a w he hs
  obtain ⟨vs, hrun, hreps⟩ := exec_call ho he hf hu hpc.1 w
  obtain ⟨M1, e1, s1, r1⟩ := h1 κ M ν w vs hs hreps
  obtain ⟨M2, e2, s2, r2⟩ := h2 κ M1 ν w vs s1 r1
  obtain ⟨M3, e3, s3, r3⟩ := h3 κ M2 ν w vs s2 r2
  unfold Oper.wp
  rw [hrun]
  simp only [Oper.upon]
  refine Calls.mono (hpc.2 M3 ν w vs (s3.nil _ _) r3) ?_
  rintro e w' ⟨v, M', rfl, hext, hr, hs'⟩
  obtain ⟨k1, k2⟩ := s3.call (B1 := []) (B1' := []) (B' := B3) (fun x hx => by cases hx) hs' rfl (fun b h => h) (fun _ _ h => by cases h) hext (fun _ _ _ h => by cases h) (fun x hx => .inr ⟨hx, by simp⟩) (fun x hx => List.mem_map.2 ⟨x, hx, rfl⟩) s3.nodup
  exact ⟨v, M', rfl, ((e1.trans e2).trans e3).trans k2, hr, k1⟩
def eqFs (P : Program) (E : TypeId → List C → List C → Option Bool) : Nat → List Field → List C → List C → Option Bool
  | _, [], [], [] => some true
  | _, [], _, _ => none
  | off, f :: fs, r, s => match szT P f.type, aggT P f.type with
    | some n, some _ => match cutC n r, cutC n s with
      | some (r1, r2), some (s1, s2) => bif f.offset == off && f.name != "_" then (match E f.type r1 s1, eqFs P E (off + n) fs r2 s2 with
        | some x, some y => some (x && y)
        | _, _ => none) else none
      | _, _ => none
    | _, _ => none
def eqStT (P : Program) : Nat → TypeId → List C → List C → Option Bool
  | 0, _, _, _ => none
  | d + 1, t, r, s => match P.underlying t with
    | some (.int _) => match r, s with
      | [.int k a], [.int k' b] => if k = k' then some (decide (a = b)) else none
      | _, _ => none
    | some .bool => match r, s with
      | [.bool a], [.bool b] => some (a == b)
      | _, _ => none
    | some .string => match r, s with
      | [.str a], [.str b] => some (decide (a = b))
      | _, _ => none
    | some (.struct fs) => bif P.stoodInHeld t then none else eqFs P (eqStT P d) 0 fs.toList r s
    | some (.array n e) => match P.underlying e, aggT P e, szT P e, P.info? e, r, s with
      | some (.int _), some false, some 1, some _, [.int k a, .int k2 b], [.int k' a', .int k2' b'] => bif decide (n = 2) && (decide (k = k') && decide (k2 = k2')) && decide (P.cellsOf e = 1) then (match d with | 0 => none | _ + 1 => some (decide (a = a') && decide (b = b'))) else none
      | _, _, _, _, _, _ => none
    | _ => none
def shapeOf (P : Program) (t : TypeId) (vs : List Value) (x : Value) : Prop :=
  (aggT P t = some true ∧ x = .agg vs.toArray) ∨ (aggT P t = some false ∧ vs = [x])
theorem part_run {t n : Nat} {b : Bool} (hn : szT P t = some n) (ha : aggT P t = some b) {xs : Array Value} {pre v1 v2 : List Value} (hx : xs.toList = pre ++ (v1 ++ v2)) (h1 : v1.length = n) (hone : b = false → n = 1) (w : World) :
    ∃ x, (part t xs pre.length).run P w = .ok x w ∧ shapeOf P t v1 x := by
  have hsz := run_sz (P := P) hn w
  have hag := run_agg (P := P) ha w
  cases b with
  | true =>
    refine ⟨.agg v1.toArray, ?_, .inl ⟨ha, rfl⟩⟩
    unfold part
    simp only [Sem.run_bind, hag, Result.andThen_ok, if_true, hsz, Sem.run_pure]
    congr 2
    apply Array.toList_inj.1
    simp [Array.toList_extract, hx, List.extract, h1]
  | false =>
    have := hone rfl
    subst this
    match v1, h1 with
    | [v], _ =>
      refine ⟨v, ?_, .inr ⟨ha, rfl⟩⟩
      unfold part
      have hc : xs[pre.length]? = some v := by
        rw [← Array.getElem?_toList, hx, List.getElem?_append_right (Nat.le_refl _)]; simp
      simp only [Sem.run_bind, hag, Result.andThen_ok, Bool.false_eq_true, if_false, hc, Sem.run_pure]
theorem aggT_of {t : Nat} {d : TypeDesc} (h : P.underlying t = some d) : aggT P t = some (isAggD d) := by simp [aggT, h]
theorem eqStT_one {d t : Nat} {r s : List C} {b : Bool} (h : eqStT P d t r s = some b) (ha : aggT P t = some false) : r.length = 1 := by
  cases d with
  | zero => cases h
  | succ d =>
    unfold eqStT at h
    split at h
    · split at h
      · rfl
      · cases h
    · split at h
      · rfl
      · cases h
    · split at h
      · rfl
      · cases h
    · rename_i fs hu
      rw [aggT_of hu] at ha; cases ha
    · rename_i n e hu
      rw [aggT_of hu] at ha; cases ha
    · cases h
theorem eqStT_run : ∀ (d D t : Nat) (r s : List C) (b : Bool), d ≤ D → eqStT P d t r s = some b → ∀ (M M' : Mem) (vs us : List Value) (x y : Value), repRow M r vs → repRow M' s us → shapeOf P t vs x → shapeOf P t us y → ∀ w : World, (Op.equalIn D t x y).run P w = .ok b w
  | 0, _, _, _, _, _, _, h => by cases h
  | d + 1, 0, _, _, _, _, hd, h => by omega
  | d + 1, D + 1, t, r, s, b, hd, h => by
    intro M M' vs us x y hr hs hx hy w
    unfold eqStT at h
    split at h
    · rename_i k0 hu
      split at h
      · rename_i k a k' b'
        by_cases hk : k = k'
        · subst hk
          rw [if_pos rfl] at h
          simp only [Option.some.injEq] at h
          subst h
          simp only [repRow, C.rep] at hr hs
          obtain ⟨v, vs', e, e1, e2⟩ := hr
          obtain ⟨v', vs'', f, f1, f2⟩ := hs
          subst e2 f2 e f e1 f1
          rcases hx with ⟨hx, _⟩ | ⟨_, hx⟩
          · rw [aggT_of hu] at hx; cases hx
          rcases hy with ⟨hy, _⟩ | ⟨_, hy⟩
          · rw [aggT_of hu] at hy; cases hy
          simp only [List.cons.injEq, and_true] at hx hy
          subst hx hy
          simp only [Op.equalIn, Sem.run_bind, run_underlying hu, Result.andThen_ok, if_true, Sem.run_pure]
          rfl
        · rw [if_neg hk] at h; cases h
      · cases h
    · rename_i hu
      split at h
      · rename_i a b'
        simp only [Option.some.injEq] at h
        subst h
        simp only [repRow, C.rep] at hr hs
        obtain ⟨v, vs', e, e1, e2⟩ := hr
        obtain ⟨v', vs'', f, f1, f2⟩ := hs
        subst e2 f2 e f e1 f1
        rcases hx with ⟨hx, _⟩ | ⟨_, hx⟩
        · rw [aggT_of hu] at hx; cases hx
        rcases hy with ⟨hy, _⟩ | ⟨_, hy⟩
        · rw [aggT_of hu] at hy; cases hy
        simp only [List.cons.injEq, and_true] at hx hy
        subst hx hy
        exact Sx.run_equalIn_bool D hu a b' w
      · cases h
    · rename_i hu
      split at h
      · rename_i a b'
        simp only [Option.some.injEq] at h
        subst h
        simp only [repRow, C.rep] at hr hs
        obtain ⟨v, vs', e, e1, e2⟩ := hr
        obtain ⟨v', vs'', f, f1, f2⟩ := hs
        subst e2 f2 e f e1 f1
        rcases hx with ⟨hx, _⟩ | ⟨_, hx⟩
        · rw [aggT_of hu] at hx; cases hx
        rcases hy with ⟨hy, _⟩ | ⟨_, hy⟩
        · rw [aggT_of hu] at hy; cases hy
        simp only [List.cons.injEq, and_true] at hx hy
        subst hx hy
        exact run_equalIn_str D hu a b' w
      · cases h
    · rename_i fs hu
      cases hst : P.stoodInHeld t with
      | true => rw [hst] at h; cases h
      | false =>
        rw [hst] at h
        simp only [cond_false] at h
        rcases hx with ⟨_, hx⟩ | ⟨hx, _⟩
        · rcases hy with ⟨_, hy⟩ | ⟨hy, _⟩
          · subst hx hy
            have hf : P.fieldsOf t = fs := by unfold Program.fieldsOf; rw [hu]
            rw [run_equalIn_struct w D t _ _ (by rw [hf]; exact hu) hst, hf]
            have key : ∀ (fs : List Field) (off : Nat) (r s : List C) (b : Bool), eqFs P (eqStT P d) off fs r s = some b → ∀ (pre pre' v1 u1 : List Value), pre.length = off → pre'.length = off → vs = pre ++ v1 → us = pre' ++ u1 → repRow M r v1 → repRow M' s u1 → ∀ w : World,
                (Op.eqFields D vs.toArray us.toArray fs).run P w = .ok b w := by
              intro fs
              induction fs with
              | nil =>
                intro off r s b h pre pre' v1 u1 _ _ _ _ _ _ w
                unfold eqFs at h
                split at h
                · simp only [Option.some.injEq] at h; subst h; rfl
                · cases h
                · rename_i heq _ _ _ _; cases heq
              | cons f fs ih =>
                intro off r s b h pre pre' v1 u1 hp hp' hv hu' hr1 hs1 w
                unfold eqFs at h
                split at h
                · rename_i n ag hn hag
                  split at h
                  · rename_i r1 r2 s1 s2 hc1 hc2
                    cases hcond : (f.offset == off && f.name != "_") with
                    | false => rw [hcond] at h; cases h
                    | true =>
                      rw [hcond] at h
                      simp only [cond_true] at h
                      simp only [Bool.and_eq_true, beq_iff_eq, bne_iff_ne] at hcond
                      split at h
                      · rename_i bx by_ hbx hby
                        simp only [Option.some.injEq] at h
                        subst h
                        obtain ⟨e1, l1⟩ := cutC_spec hc1
                        obtain ⟨e2, l2⟩ := cutC_spec hc2
                        subst e1 e2
                        obtain ⟨a1, a2, ev, ha1, ha2⟩ := repRow_split hr1
                        obtain ⟨c1, c2, eu, hc1', hc2'⟩ := repRow_split hs1
                        subst ev eu
                        have hone : ag = false → n = 1 := by
                          intro e; subst e
                          rw [← l1]; exact eqStT_one hbx hag
                        obtain ⟨x, hx, hxs⟩ := part_run (P := P) hn hag (xs := vs.toArray) (pre := pre) (v1 := a1) (v2 := a2) (by simpa using hv) (by rw [repRow_length ha1, l1]) hone w
                        obtain ⟨y, hy, hys⟩ := part_run (P := P) hn hag (xs := us.toArray) (pre := pre') (v1 := c1) (v2 := c2) (by simpa using hu') (by
                          rw [repRow_length hc1', l2]) hone w
                        have heq := eqStT_run d D f.type r1 s1 bx (by omega) hbx M M' a1 c1 x y ha1 hc1' hxs hys w
                        rw [hp] at hx
                        rw [hp'] at hy
                        have hrest := ih (off + n) r2 s2 by_ hby (pre ++ a1) (pre' ++ c1) a2 c2 (by rw [List.length_append, repRow_length ha1, l1, hp]) (by rw [List.length_append, repRow_length hc1', l2, hp']) (by rw [hv, List.append_assoc]) (by rw [hu', List.append_assoc]) ha2 hc2' w
                        simp only [Op.eqFields, hcond.2, ne_eq, not_false_eq_true, if_true, hcond.1, Sem.run_bind, hx, hy, heq, Result.andThen_ok, Sem.run_ite]
                        cases bx
                        · simp
                        · simpa using hrest
                      · cases h
                  · cases h
                · cases h
            exact key fs.toList 0 r s b h [] [] vs us rfl rfl rfl rfl hr hs w
          · rw [aggT_of hu] at hy; cases hy
        · rw [aggT_of hu] at hx; cases hx
    · rename_i n e hu
      split at h
      · rename_i k0 i0 k a k2 b k' a' k2' b' heu hag hsz hinf
        cases hc : (decide (n = 2) && (decide (k = k') && decide (k2 = k2')) && decide (P.cellsOf e = 1)) with
        | false => rw [hc] at h; cases h
        | true =>
          rw [hc] at h
          simp only [Bool.and_eq_true, decide_eq_true_eq] at hc
          obtain ⟨⟨hn, hk1, hk2⟩, hcell⟩ := hc
          subst hn hk1 hk2
          simp only [cond_true] at h
          cases d with
          | zero => cases h
          | succ d =>
            simp only [Option.some.injEq] at h
            subst h
            rcases hx with ⟨_, hx⟩ | ⟨hx, _⟩
            · rcases hy with ⟨_, hy⟩ | ⟨hy, _⟩
              · subst hx hy
                simp only [repRow, C.rep] at hr hs
                obtain ⟨v1, t1, e1, e2, v2, t2, e3, e4, e5⟩ := hr
                obtain ⟨u1, t3, f1, f2, u2, t4, f3, f4, f5⟩ := hs
                subst e5 e3 e1 f5 f3 f1 e2 e4 f2 f4
                obtain ⟨D', rfl⟩ : ∃ D', D = D' + 1 := ⟨D - 1, by omega⟩
                rw [run_equalIn_array w (D' + 1) _ _ hu hinf, hcell]
                obtain ⟨x1, p1, q1⟩ := part_run (P := P) hsz hag (xs := ([Value.int k a, .int k2 b] : List Value).toArray) (pre := []) (v1 := [.int k a]) (v2 := [.int k2 b]) rfl rfl (fun _ => rfl) w
                obtain ⟨x2, p2, q2⟩ := part_run (P := P) hsz hag (xs := ([Value.int k a, .int k2 b] : List Value).toArray) (pre := [.int k a]) (v1 := [.int k2 b]) (v2 := []) rfl rfl (fun _ => rfl) w
                obtain ⟨y1, r1, s1⟩ := part_run (P := P) hsz hag (xs := ([Value.int k a', .int k2 b'] : List Value).toArray) (pre := []) (v1 := [.int k a']) (v2 := [.int k2 b']) rfl rfl (fun _ => rfl) w
                obtain ⟨y2, r2, s2⟩ := part_run (P := P) hsz hag (xs := ([Value.int k a', .int k2 b'] : List Value).toArray) (pre := [.int k a']) (v1 := [.int k2 b']) (v2 := []) rfl rfl (fun _ => rfl) w
                have one : ∀ (x : Value) (v : Value), shapeOf P e [v] x → x = v := by
                  intro x v h
                  rcases h with ⟨h, _⟩ | ⟨_, h⟩
                  · rw [hag] at h; cases h
                  · simpa using h.symm
                rw [one _ _ q1] at p1
                rw [one _ _ q2] at p2
                rw [one _ _ s1] at r1
                rw [one _ _ s2] at r2
                have eq : ∀ (q : IntKind) (m n : Int), (Op.equalIn (D' + 1) e (.int q m) (.int q n)).run P w = .ok (decide (m = n)) w := by
                  intro q m n
                  simp only [Op.equalIn, Sem.run_bind, run_underlying heu, Result.andThen_ok, if_true, Sem.run_pure]
                  rfl
                simp only [List.length_nil, List.length_singleton] at p1 p2 r1 r2
                simp only [List.range_succ, List.range_zero, List.nil_append, List.cons_append, Op.eqItems, Nat.zero_mul, Nat.one_mul, Sem.run_bind, p1, p2, r1, r2, eq, Result.andThen_ok, Sem.run_ite, Sem.run_pure]
                cases decide (a = a') <;> cases decide (b = b') <;> rfl
              · rw [aggT_of hu] at hy; cases hy
            · rw [aggT_of hu] at hx; cases hx
      · cases h
    · cases h
def vBinE (P : Program) (op : BinOp) (ty : TypeId) (x y : Option T) (K : T → Prop) : Prop :=
  match x, y with
  | some (.st r), some (.st s) => match eqStT P 6 ty r s with
    | some b => P.eqGuardType P.depth ty = false ∧ aggT P ty = some true ∧ (match op with
      | .eql => K (Bo b)
      | .neq => K (Bo (!b))
      | _ => False)
    | none => False
  | x, y => vBin P op ty x y K
theorem vBinE_sound {op : BinOp} {ty : TypeId} {x y : Operand} {yt : TypeId} {env : Env} {B : Bx} {o : Oper} {K : T → Prop} (ho : o.op = .binOp op ty x y yt)
    (h : vBinE P op ty (ev P env ty x) (ev P env yt y) K) : ∃ t, OpP P o env B t ∧ K t := by
  unfold vBinE at h
  split at h
  · rename_i r s ex ey
    split at h
    · rename_i b hb
      obtain ⟨hg, hag, h⟩ := h
      have hx : x ∈ o.op.operands := by rw [ho]; simp [Op.operands]
      have hy : y ∈ o.op.operands := by rw [ho]; simp [Op.operands]
      have hrun : ∀ (a : Act) (w : World), (execOp a.eval o).run P w = ((eqGuard op ty x y (a.eval x) (a.eval y)).run P w).andThen fun _ w => ((binOp op ty (a.eval x) (a.eval y)).run P w).andThen fun v w => .ok (.value v) w := by
        intro a w
        unfold execOp
        rw [ho]
        simp only [Sem.run_bind, Sem.run_pure]
        cases (eqGuard op ty x y (a.eval x) (a.eval y)).run P w <;> rfl
      cases op <;> simp only [] at h <;> try exact h.elim
      all_goals
        refine ⟨_, OpP.of_val fun κ M ν ac w B' hB he hs => ⟨_, ?_, rep_bool.2 rfl⟩, h⟩
        have e1 := ev_rep he hx ex
        have e2 := ev_rep he hy ey
        simp only [T.rep] at e1 e2
        obtain ⟨xs, e1, hr⟩ := e1
        obtain ⟨ys, e2, hs'⟩ := e2
        have hE := eqStT_run 6 10000 ty r s b (by omega) hb M M xs.toList ys.toList (.agg xs) (.agg ys) hr hs' (.inl ⟨hag, by simp⟩) (.inl ⟨hag, by simp⟩) w
        rw [hrun, e1, e2, run_eqGuard_agg w _ ty x y xs ys hg]
        simp only [Result.andThen_ok, run_eql_struct, run_neq_struct, hE]
    · exact h.elim
  · exact vBin_sound ho h
end Go.Sx
