/- A part of the proof: lemmas about the walk of the program and about plain integers and lists. No conditions beyond those that each lemma states. -/
import Derived.Test.YtmpfdejckbceiaaOp6
/-! Operations that make or turn boxes: new variables, stores, append, calls with boxes. -/
set_option linter.unusedVariables false
set_option linter.unusedSimpArgs false
namespace Go.Sx
variable {P : Program}

/-! ### boxes by name -/
def Bx.put (k : Nat) (r : Res) : Bx → Bx
  | [] => []
  | p :: B => bif p.1 == k then (k, r) :: B else p :: Bx.put k r B
def Bx.drop (k : Nat) : Bx → Bx
  | [] => []
  | p :: B => bif p.1 == k then B else p :: Bx.drop k B

theorem Bx.put_keys (k : Nat) (r : Res) : ∀ B : Bx, (Bx.put k r B).map (·.1) = B.map (·.1)
  | [] => rfl
  | p :: B => by
    unfold Bx.put
    cases h : (p.1 == k) with
    | true => have : p.1 = k := by simpa using h
              simp [this]
    | false => simp [Bx.put_keys k r B]
theorem Bx.mem_put {k : Nat} {r : Res} : ∀ {B : Bx} {x : Nat × Res}, (B.map (·.1)).Nodup → x ∈ Bx.put k r B → x = (k, r) ∨ (x ∈ B ∧ x.1 ≠ k)
  | [], x, _, h => by cases h
  | p :: B, x, hn, h => by
    simp only [List.map_cons, List.nodup_cons] at hn
    unfold Bx.put at h
    cases hp : (p.1 == k) with
    | true =>
      have hpk : p.1 = k := by simpa using hp
      rw [hp] at h
      simp only [cond_true] at h
      rcases List.mem_cons.1 h with h | h
      · exact .inl h
      · refine .inr ⟨List.mem_cons_of_mem _ h, fun e => hn.1 ?_⟩
        rw [hpk, ← e]; exact List.mem_map.2 ⟨x, h, rfl⟩
    | false =>
      have hpk : p.1 ≠ k := by simpa using hp
      rw [hp] at h
      simp only [cond_false] at h
      rcases List.mem_cons.1 h with h | h
      · subst h; exact .inr ⟨by simp, hpk⟩
      · rcases Bx.mem_put hn.2 h with h | ⟨h1, h2⟩
        · exact .inl h
        · exact .inr ⟨List.mem_cons_of_mem _ h1, h2⟩
theorem Bx.mem_drop {k : Nat} : ∀ {B : Bx} {x : Nat × Res}, (B.map (·.1)).Nodup → x ∈ Bx.drop k B → x ∈ B ∧ x.1 ≠ k
  | [], x, _, h => by cases h
  | p :: B, x, hn, h => by
    simp only [List.map_cons, List.nodup_cons] at hn
    unfold Bx.drop at h
    cases hp : (p.1 == k) with
    | true =>
      have hpk : p.1 = k := by simpa using hp
      rw [hp] at h
      simp only [cond_true] at h
      refine ⟨List.mem_cons_of_mem _ h, fun e => hn.1 ?_⟩
      rw [hpk, ← e]; exact List.mem_map.2 ⟨x, h, rfl⟩
    | false =>
      have hpk : p.1 ≠ k := by simpa using hp
      rw [hp] at h
      simp only [cond_false] at h
      rcases List.mem_cons.1 h with h | h
      · subst h; exact ⟨by simp, hpk⟩
      · obtain ⟨h1, h2⟩ := Bx.mem_drop hn.2 h
        exact ⟨List.mem_cons_of_mem _ h1, h2⟩
theorem Bx.drop_nodup (k : Nat) : ∀ {B : Bx}, (B.map (·.1)).Nodup → ((Bx.drop k B).map (·.1)).Nodup
  | [], _ => by simp [Bx.drop]
  | p :: B, hn => by
    have hn' := hn
    simp only [List.map_cons, List.nodup_cons] at hn'
    unfold Bx.drop
    cases hp : (p.1 == k) with
    | true => exact hn'.2
    | false =>
      simp only [cond_false, List.map_cons, List.nodup_cons]
      refine ⟨fun h => ?_, Bx.drop_nodup k hn'.2⟩
      obtain ⟨x, hx, e⟩ := List.mem_map.1 h
      exact hn'.1 (List.mem_map.2 ⟨x, (Bx.mem_drop hn'.2 hx).1, e⟩)

theorem Bx.fresh_spec {k : Nat} : ∀ {B : Bx} {j : Nat} {r : Res}, Bx.fresh k B = true → (j, r) ∈ B → j ≠ k ∧ ∀ cs, r = .cells cs → Cell.freshs k cs = true
  | p :: B, j, r, h, hm => by
    simp only [Bx.fresh, Bool.and_eq_true, bne_iff_ne] at h
    rcases List.mem_cons.1 hm with rfl | hm
    · refine ⟨h.1.1, fun cs e => ?_⟩
      subst e
      exact h.1.2
    · exact Bx.fresh_spec h.2 hm

theorem Res.ok_fresh {M : Mem} {ν ν' : Nu} {w : World} {j k : Nat} (hν : ∀ i, i ≠ k → ν' i = ν i) (hj : j ≠ k) : ∀ {r : Res}, (∀ cs, r = .cells cs → Cell.freshs k cs = true) → r.ok M ν w j → r.ok M ν' w j
  | .cells cs, hf, h => by
    simp only [Res.ok] at h ⊢
    rw [hν j hj]
    obtain ⟨b, c, et, e1, e2, e3⟩ := h
    exact ⟨b, c, et, e1, e2, Cell.reps_fresh hν cs _ (hf cs rfl) e3⟩
  | .row sz rows, hf, h => by
    simp only [Res.ok] at h ⊢
    rw [hν j hj]; exact h

def Nu.set (ν : Nu) (k : Nat) (m : Nm) : Nu := fun j => if j = k then m else ν j
theorem Nu.set_other {ν : Nu} {k : Nat} {m : Nm} : ∀ j, j ≠ k → ν.set k m j = ν j := fun j h => by simp [Nu.set, h]
theorem Nu.set_self {ν : Nu} {k : Nat} {m : Nm} : ν.set k m k = m := by simp [Nu.set]

/-- a new block, that the name k holds from now on -/
theorem Sat.new_box {κ : Kap} {M : Mem} {ν : Nu} {B : Bx} {w : World} {k : Nat} {c : Array Value} {et : TypeId} {cap : Nat} {r : Res} (h : Sat κ M ν B w) (hf : Bx.fresh k B = true)
    (hr : r.ok M (ν.set k ⟨some w.heap.size, cap⟩) { w with heap := w.heap.push (.cells c et) } k) :
    Sat κ M (ν.set k ⟨some w.heap.size, cap⟩) ((k, r) :: B) { w with heap := w.heap.push (.cells c et) } where
  os := h.os
  tape := h.tape
  output := h.output
  dr := h.dr
  size := by simp; have := h.size; omega
  unch := fun b hb hD => by
    rw [← h.unch b hb hD]
    exact push_old (Nat.lt_of_lt_of_le hb h.size)
  fro := fun b x e => push_get (h.fro _ _ e)
  res := fun j q hm => by
    rcases List.mem_cons.1 hm with e | hm
    · cases e; exact hr
    · obtain ⟨hj, hc⟩ := Bx.fresh_spec hf hm
      exact Res.ok_fresh Nu.set_other hj hc (Res.ok_mono (Mem.le.refl M) (fun b x e _ => push_get e) (h.res j q hm))
  away := fun j q b hm hb => by
    rcases List.mem_cons.1 hm with e | hm
    · cases e
      rw [Nu.set_self] at hb
      simp only [Option.some.injEq] at hb
      subst hb
      refine ⟨?_, .inl h.size⟩
      cases hM : M w.heap.size with
      | none => rfl
      | some o => have := h.fro _ _ hM; simp at this
    · obtain ⟨hj, _⟩ := Bx.fresh_spec hf hm
      rw [Nu.set_other j hj] at hb
      exact h.away j q b hm hb
  inj := fun j q j' q' b hm hm' hb hb' => by
    rcases List.mem_cons.1 hm with e | hm <;> rcases List.mem_cons.1 hm' with e' | hm'
    · cases e; cases e'; rfl
    · cases e
      obtain ⟨hj, _⟩ := Bx.fresh_spec hf hm'
      rw [Nu.set_self] at hb
      rw [Nu.set_other j' hj] at hb'
      simp only [Option.some.injEq] at hb
      have := Res.blk_lt (h.res j' q' hm') hb'
      omega
    · cases e'
      obtain ⟨hj, _⟩ := Bx.fresh_spec hf hm
      rw [Nu.set_self] at hb'
      rw [Nu.set_other j hj] at hb
      simp only [Option.some.injEq] at hb'
      have := Res.blk_lt (h.res j q hm) hb
      omega
    · obtain ⟨hj, _⟩ := Bx.fresh_spec hf hm
      obtain ⟨hj', _⟩ := Bx.fresh_spec hf hm'
      rw [Nu.set_other j hj] at hb
      rw [Nu.set_other j' hj'] at hb'
      exact h.inj j q j' q' b hm hm' hb hb'
  nodup := by
    simp only [List.map_cons, List.nodup_cons]
    refine ⟨fun hm => ?_, h.nodup⟩
    obtain ⟨x, hx, e⟩ := List.mem_map.1 hm
    exact (Bx.fresh_spec (j := x.1) (r := x.2) hf hx).1 e

theorem ev_fresh {env : Env} {k : Nat} {ty : TypeId} {x : Operand} {t : T} (hf : Env.fresh k env = true) (h : ev P env ty x = some t) : t.fresh k = true := by
  cases x with
  | tmp d => exact Env.fresh_spec hf (lookup_mem h)
  | const v =>
    simp only [ev, constT] at h
    split at h <;> try (cases h; done)
    · cases h; rfl
    · cases h; rfl
    · cases h; rfl
    · split at h
      · cases h; rfl
      · cases h
  | func f => simp only [ev, Option.some.injEq] at h; subst h; rfl
  | global g => cases h
theorem freshs_map (k : Nat) : ∀ r : List C, Cell.freshs k (r.map .dat) = true
  | [] => rfl
  | c :: r => by simp only [List.map_cons, Cell.freshs, Cell.fresh, Bool.true_and, freshs_map k r]
theorem toCells_fresh {k : Nat} {t : T} {cs : List Cell} (hf : t.fresh k = true) (h : toCells t = some cs) : Cell.freshs k cs = true := by
  cases t with
  | one c => simp only [toCells, Option.some.injEq] at h; subst h; simp only [T.fresh] at hf; simp [Cell.freshs, hf]
  | st r => simp only [toCells, Option.some.injEq] at h; subst h; exact freshs_map k r
  | agg cs' => simp only [toCells, Option.some.injEq] at h; subst h; exact hf
  | tup ts => cases h
  | un => cases h

theorem OpG.of_run {o : Oper} {env : Env} {B B' : Bx} {k : Nat} {t : T}
    (h : ∀ κ M ν a w, EnvOn M ν a env o → Sat κ M ν B w →
      ∃ v w' M' ν', (execOp a.eval o).run P w = .ok (.value v) w' ∧ M.ext κ M' ∧ (∀ j, j ≠ k → ν' j = ν j) ∧ t.rep M' ν' v ∧ Sat κ M' ν' B' w') : OpG P o env B k t B' := by
  intro κ M ν a w he hs
  obtain ⟨v, w', M', ν', hr, hle, hν, ht, hs'⟩ := h κ M ν a w he hs
  unfold Oper.wp
  rw [hr]
  exact ⟨v, M', ν', rfl, hle, hν, ht, hs'⟩

def dstN (o : Oper) : Nat := o.dst.getD 0

/-! ### new variables -/
def vAlloc (P : Program) (k : Nat) (e : TypeId) (env : Env) (B : Bx) (K : T → Bx → Prop) : Prop :=
  match zeroT P e with
  | some zs => Env.fresh k env = true ∧ Bx.fresh k B = true ∧ K (.one (.ptr k 0)) ((k, .cells (zs.map .dat)) :: B)
  | none => False
theorem vAlloc_sound {e : TypeId} {env : Env} {B : Bx} {o : Oper} {K : T → Bx → Prop} (ho : o.op = .alloc e) (h : vAlloc P (dstN o) e env B K) :
    ∃ t B', OpG P o env B (dstN o) t B' ∧ Env.fresh (dstN o) env = true ∧ K t B' := by
  unfold vAlloc at h
  split at h
  · rename_i zs hz
    obtain ⟨hf, hfB, hK⟩ := h
    obtain ⟨z, hzr, hzm⟩ := zeroT_spec hz
    refine ⟨_, _, OpG.of_run fun κ M ν a w he hs => ?_, hf, hK⟩
    refine ⟨.pointer (some ⟨w.heap.size, 0, none⟩), _, M, ν.set (dstN o) ⟨some w.heap.size, 0⟩, exec_v (s := Instr.alloc e true (.tuple #[])) (by unfold execOp; rw [ho]) ?_, Mem.ext.refl κ M, Nu.set_other, ?_, Sat.new_box (c := z.cells) (et := e) hs hfB ?_⟩
    · simp only [Instr.alloc, Sem.run_bind, hzr, Result.andThen_ok, newVar, newRow, run_newObj, Sem.run_pure]
    · simp only [T.rep, Cell.rep]
      exact ⟨w.heap.size, by rw [Nu.set_self], rfl⟩
    · simp only [Res.ok]
      exact ⟨w.heap.size, z.cells, e, by rw [Nu.set_self], push_new, Cell.reps_map_c.2 (zmatch_spec hzm)⟩
  · exact h.elim

def vBox (P : Program) (k : Nat) (e : TypeId) (x : Option T) (env : Env) (B : Bx) (K : T → Bx → Prop) : Prop :=
  match x with
  | some t => match toCells t with
    | some cs => Env.fresh k env = true ∧ Bx.fresh k B = true ∧ K (.one (.ptr k 0)) ((k, .cells cs) :: B)
    | none => False
  | none => False
theorem vBox_sound {e ty : TypeId} {x : Operand} {env : Env} {B : Bx} {o : Oper} {K : T → Bx → Prop} (ho : o.op = .box e x) (h : vBox P (dstN o) e (ev P env ty x) env B K) :
    ∃ t B', OpG P o env B (dstN o) t B' ∧ Env.fresh (dstN o) env = true ∧ K t B' := by
  have hx : x ∈ o.op.operands := by rw [ho]; simp [Op.operands]
  unfold vBox at h
  split at h
  · rename_i t ex
    split at h
    · rename_i cs hcs
      obtain ⟨hf, hfB, hK⟩ := h
      refine ⟨_, _, OpG.of_run fun κ M ν a w he hs => ?_, hf, hK⟩
      have hrep := cells_of hcs (ev_rep he hx ex)
      refine ⟨.pointer (some ⟨w.heap.size, 0, none⟩), _, M, ν.set (dstN o) ⟨some w.heap.size, 0⟩, exec_v (s := Instr.box e (a.eval x)) (by unfold execOp; rw [ho]) ?_, Mem.ext.refl κ M, Nu.set_other, ?_, Sat.new_box (c := (a.eval x).cells) (et := e) hs hfB ?_⟩
      · simp only [Instr.box, Sem.run_bind, newVar, newRow, run_newObj, Sem.run_pure, Result.andThen_ok]
      · simp only [T.rep, Cell.rep]
        exact ⟨w.heap.size, by rw [Nu.set_self], rfl⟩
      · simp only [Res.ok]
        exact ⟨w.heap.size, _, e, by rw [Nu.set_self], push_new, Cell.reps_fresh Nu.set_other cs _ (toCells_fresh (ev_fresh hf ex) hcs) hrep⟩
    · exact h.elim
  · exact h.elim

/-- the rows of a literal, as they stand -/
def vRowsH (P : Program) (e n : Nat) (env : Env) : Nat → List (Nat × Operand) → Option (List (List C))
  | _, [] => some []
  | k, (i, x) :: rest => bif i == k then (match ev P env e x with
    | some u => match toCells u with
      | some cs => match pureCs cs with
        | some r => bif lenIs n r then (match vRowsH P e n env (k + 1) rest with
          | some rs => some (r :: rs)
          | none => none) else none
        | none => none
      | none => none
    | none => none) else none
theorem vRowsH_sound {e n : Nat} {env : Env} {M : Mem} {ν : Nu} {a : Act} :
    ∀ (parts : List (Nat × Operand)) (k : Nat) (rows : List (List C)) (pre post : List Value), (∀ p ∈ parts, ∀ u, ev P env e p.2 = some u → u.rep M ν (a.eval p.2)) → vRowsH P e n env k parts = some rows →
      pre.length = k * n → post.length = parts.length * n →
      ∃ vs, Instr.fill (fun i => some (i * n, n)) (pre ++ post).toArray (parts.map fun (i, x) => (i, a.eval x)) = some (pre ++ vs).toArray ∧ repRows M n rows vs ∧ rows.length = parts.length
  | [], k, rows, pre, post, _, h, h1, h2 => by
    simp only [vRowsH, Option.some.injEq] at h
    subst h
    have : post = [] := List.length_eq_zero_iff.1 (by simpa using h2)
    subst this
    exact ⟨[], rfl, by simp only [repRows], rfl⟩
  | (i, x) :: rest, k, rows, pre, post, he, h, h1, h2 => by
    simp only [vRowsH] at h
    cases hik : (i == k) with
    | false => rw [hik] at h; cases h
    | true =>
      rw [hik] at h
      simp only [cond_true] at h
      have hik' : i = k := by simpa using hik
      subst hik'
      split at h
      · rename_i u hu
        split at h
        · rename_i cs hcs
          split at h
          · rename_i r hr
            cases hl : lenIs n r with
            | false => rw [hl] at h; cases h
            | true =>
              rw [hl] at h
              simp only [cond_true] at h
              split at h
              · rename_i rs hrs
                simp only [Option.some.injEq] at h
                subst h
                have hrep := cells_of hcs (he (i, x) (by simp) u hu)
                rw [pureCs_spec hr] at hrep
                have hrow := Cell.reps_map_c.1 hrep
                have hrl := lenIs_spec hl
                have hvl : (a.eval x).cells.size = n := by rw [← Array.length_toList, repRow_length hrow]; exact hrl
                have hpl : post.length = n + rest.length * n := by rw [h2, List.length_cons, Nat.add_mul, Nat.one_mul]; omega
                have hpost : post = post.take n ++ post.drop n := (List.take_append_drop n post).symm
                have step := fill_step (place := fun i => some (i * n, n)) (cells := (pre ++ post).toArray) (i := i) (off := i * n) (n := n) (v := a.eval x) (rest := rest.map fun (i, x) => (i, a.eval x)) (pre := pre) (mid := post.take n) (post := post.drop n)
                  rfl hvl (by rw [← hpost]) h1 (by rw [List.length_take]; omega)
                obtain ⟨vs, hf, hrs', hlen⟩ := vRowsH_sound rest (i + 1) rs (pre ++ (a.eval x).cells.toList) (post.drop n) (fun p hp => he p (List.mem_cons_of_mem _ hp)) hrs
                  (by rw [List.length_append, h1, Array.length_toList, hvl, Nat.add_mul, Nat.one_mul]) (by rw [List.length_drop, hpl]; omega)
                refine ⟨(a.eval x).cells.toList ++ vs, ?_, ?_, by simp [hlen]⟩
                · rw [List.map_cons, step, ← List.append_assoc, hf, List.append_assoc]
                · simp only [repRows]
                  exact ⟨_, vs, rfl, hrl, hrow, hrs'⟩
              · cases h
          · cases h
        · cases h
      · cases h

/-- the literal of a slice, whose cells may be turned from then on -/
def vBuildArr (P : Program) (k : Nat) (t : TypeId) (len : Nat) (env : Env) (parts : List (Nat × Operand)) (B : Bx) (K : T → Bx → Prop) : Prop :=
  match bsT P t with
  | some (e, n) => match vRowsH P e n env 0 parts with
    | some rows => lenIs len parts = true ∧ len * n ≤ 16777216 ∧ Env.fresh k env = true ∧ Bx.fresh k B = true ∧ K (.one (.arr k len)) ((k, .cells (rows.flatten.map .dat)) :: B)
    | none => False
  | none => False
theorem repRows_flat_row {M : Mem} {sz : Nat} : ∀ {rows : List (List C)} {vs : List Value}, repRows M sz rows vs → repRow M rows.flatten vs
  | [], vs, h => by simp only [repRows] at h; simp only [List.flatten_nil, repRow]; exact h
  | r :: rows, vs, h => by
    simp only [repRows] at h
    obtain ⟨v1, v2, e, _, h1, h2⟩ := h
    rw [e, List.flatten_cons]
    exact repRow_append h1 (repRows_flat_row h2)
theorem vBuildArr_sound {t : TypeId} {len : Nat} {parts : List (Nat × Operand)} {env : Env} {B : Bx} {o : Oper} {K : T → Bx → Prop} (ho : o.op = .buildSlice t len parts.toArray)
    (h : vBuildArr P (dstN o) t len env parts B K) : ∃ t B', OpG P o env B (dstN o) t B' ∧ Env.fresh (dstN o) env = true ∧ K t B' := by
  have hex : ∀ (a : Act), execOp a.eval o = (do pure (.value (← Instr.buildSlice t len (parts.map fun (i, x) => (i, a.eval x)).toArray))) := by
    intro a; unfold execOp; rw [ho]; simp
  unfold vBuildArr at h
  split at h
  · rename_i e n hbs
    obtain ⟨hu, hsz, ⟨z, hz, hzs⟩, hn0⟩ := bsT_spec hbs
    split at h
    · rename_i rows hr
      obtain ⟨hlen, hbound, hf, hfB, hK⟩ := h
      have hpl := lenIs_spec hlen
      refine ⟨_, _, OpG.of_run fun κ M ν ac w he hs => ?_, hf, hK⟩
      have hops : ∀ p ∈ parts, ∀ u, ev P env e p.2 = some u → u.rep M ν (ac.eval p.2) := by
        intro p hp u hu
        refine ev_rep he ?_ hu
        rw [ho]
        simp only [Op.operands]
        simp
        exact ⟨p.1, by cases p; exact hp⟩
      let zero : Array Value := if len * n = 0 then #[] else z.cells
      let start : List Value := ((Array.range (len * n)).map (zero[· % zero.size]!)).toList
      have hstart : start.length = parts.length * n := by simp [start, hpl]
      obtain ⟨vs, hfl, hrows, hrl⟩ := vRowsH_sound (a := ac) parts 0 rows [] start hops hr (by simp) hstart
      refine ⟨.slice (some ⟨w.heap.size, 0, none⟩) len len, _, M, ν.set (dstN o) ⟨some w.heap.size, 0⟩, exec_v (hex ac) ?_, Mem.ext.refl κ M, Nu.set_other, ?_, hs.new_box (c := vs.toArray) (et := e) hfB ?_⟩
      · have hle : ¬ len * n > 2 ^ 24 := by omega
        have hf' : Instr.fill (fun i => some (i * n, n)) ((Array.range (len * n)).map (zero[· % zero.size]!)) (parts.map fun (i, x) => (i, ac.eval x)) = some vs.toArray := by
          have e1 : ((Array.range (len * n)).map (zero[· % zero.size]!)) = ([] ++ start).toArray := by simp only [start, List.nil_append, Array.toArray_toList]
          rw [e1, hfl]; simp
        unfold Instr.buildSlice
        by_cases h0 : len * n = 0
        · have hz0 : zero = #[] := by simp only [zero, h0, if_true]
          rw [hz0] at hf'
          rw [h0] at hf' hle
          simp only [Sem.run_bind, run_underlying hu, Result.andThen_ok, run_sz hsz, hle, if_false, Sem.run_pure, h0, if_true, hf', newRow, run_newObj]
        · have hz0 : zero = z.cells := by simp only [zero, h0, if_false]
          rw [hz0] at hf'
          simp only [Sem.run_bind, run_underlying hu, Result.andThen_ok, run_sz hsz, hle, if_false, Sem.run_pure, h0, hz, hf', newRow, run_newObj]
      · simp only [T.rep, Cell.rep]
        exact ⟨w.heap.size, by rw [Nu.set_self], rfl⟩
      · simp only [Res.ok]
        exact ⟨w.heap.size, vs.toArray, e, by rw [Nu.set_self], push_new, Cell.reps_map_c.2 (by simpa using repRows_flat_row hrows)⟩
    · exact h.elim
  · exact h.elim

/-- the literal of a slice, that may be appended to from then on -/
def vBuildRow (P : Program) (k : Nat) (t : TypeId) (len : Nat) (env : Env) (parts : List (Nat × Operand)) (B : Bx) (K : T → Bx → Prop) : Prop :=
  match bsT P t with
  | some (e, n) => match vRows P e n env 0 parts with
    | some rows => lenIs len parts = true ∧ len * n ≤ 16777216 ∧ Env.fresh k env = true ∧ Bx.fresh k B = true ∧ K (.one (.own k len)) ((k, .row n rows) :: B)
    | none => False
  | none => False
theorem vBuildRow_sound {t : TypeId} {len : Nat} {parts : List (Nat × Operand)} {env : Env} {B : Bx} {o : Oper} {K : T → Bx → Prop} (ho : o.op = .buildSlice t len parts.toArray)
    (h : vBuildRow P (dstN o) t len env parts B K) : ∃ t B', OpG P o env B (dstN o) t B' ∧ Env.fresh (dstN o) env = true ∧ K t B' := by
  have hex : ∀ (a : Act), execOp a.eval o = (do pure (.value (← Instr.buildSlice t len (parts.map fun (i, x) => (i, a.eval x)).toArray))) := by
    intro a; unfold execOp; rw [ho]; simp
  unfold vBuildRow at h
  split at h
  · rename_i e n hbs
    obtain ⟨hu, hsz, ⟨z, hz, hzs⟩, hn0⟩ := bsT_spec hbs
    split at h
    · rename_i rows hr
      obtain ⟨hlen, hbound, hf, hfB, hK⟩ := h
      have hpl := lenIs_spec hlen
      refine ⟨_, _, OpG.of_run fun κ M ν ac w he hs => ?_, hf, hK⟩
      have hops : ∀ p ∈ parts, ∀ u, softO (ev P env e p.2) = some u → u.rep M ν (ac.eval p.2) := by
        intro p hp u hu
        refine softO_rep he ?_ hu
        rw [ho]
        simp only [Op.operands]
        simp
        exact ⟨p.1, by cases p; exact hp⟩
      let zero : Array Value := if len * n = 0 then #[] else z.cells
      let start : List Value := ((Array.range (len * n)).map (zero[· % zero.size]!)).toList
      have hstart : start.length = parts.length * n := by simp [start, hpl]
      obtain ⟨vs, hfl, hrows, hrl⟩ := vRows_sound (a := ac) parts 0 rows [] start hops hr (by simp) hstart
      refine ⟨.slice (some ⟨w.heap.size, 0, none⟩) len len, _, M, ν.set (dstN o) ⟨some w.heap.size, len⟩, exec_v (hex ac) ?_, Mem.ext.refl κ M, Nu.set_other, ?_, hs.new_box (c := vs.toArray) (et := e) hfB ?_⟩
      · have hle : ¬ len * n > 2 ^ 24 := by omega
        have hf' : Instr.fill (fun i => some (i * n, n)) ((Array.range (len * n)).map (zero[· % zero.size]!)) (parts.map fun (i, x) => (i, ac.eval x)) = some vs.toArray := by
          have e1 : ((Array.range (len * n)).map (zero[· % zero.size]!)) = ([] ++ start).toArray := by simp only [start, List.nil_append, Array.toArray_toList]
          rw [e1, hfl]; simp
        unfold Instr.buildSlice
        by_cases h0 : len * n = 0
        · have hz0 : zero = #[] := by simp only [zero, h0, if_true]
          rw [hz0] at hf'
          rw [h0] at hf' hle
          simp only [Sem.run_bind, run_underlying hu, Result.andThen_ok, run_sz hsz, hle, if_false, Sem.run_pure, h0, if_true, hf', newRow, run_newObj]
        · have hz0 : zero = z.cells := by simp only [zero, h0, if_false]
          rw [hz0] at hf'
          simp only [Sem.run_bind, run_underlying hu, Result.andThen_ok, run_sz hsz, hle, if_false, Sem.run_pure, h0, hz, hf', newRow, run_newObj]
      · simp only [T.rep, Cell.rep]
        rw [Nu.set_self]; rfl
      · simp only [Res.ok, Nu.set_self]
        have hlr : rows.length = len := by rw [hrl, hpl]
        refine ⟨Nat.le_of_eq hlr, ?_, .inr ⟨w.heap.size, vs.toArray, e, vs, [], rfl, push_new, by simp, hrows, ?_⟩⟩
        · show len ≤ maxLen
          have h1 : len * 1 ≤ len * n := Nat.mul_le_mul_left len (Nat.pos_of_ne_zero hn0)
          unfold maxLen; omega
        · have hvl := repRows_length hrows
          simp only [List.size_toArray]
          rw [hvl, hlr]
    · exact h.elim
  · exact h.elim

def vBuildOwn (P : Program) (k : Nat) (t : TypeId) (len : Nat) (env : Env) (parts : List (Nat × Operand)) (B : Bx) (K : T → Bx → Prop) : Prop :=
  vBuildArr P k t len env parts B K ∨ vBuildRow P k t len env parts B K
theorem vBuildOwn_sound {t : TypeId} {len : Nat} {parts : List (Nat × Operand)} {env : Env} {B : Bx} {o : Oper} {K : T → Bx → Prop} (ho : o.op = .buildSlice t len parts.toArray)
    (h : vBuildOwn P (dstN o) t len env parts B K) : ∃ t B', OpG P o env B (dstN o) t B' ∧ Env.fresh (dstN o) env = true ∧ K t B' := by
  rcases h with h | h
  · exact vBuildArr_sound ho h
  · exact vBuildRow_sound ho h

/-! ### stores -/
theorem C.rep_oneCell {M : Mem} {c : C} {v : Value} (h : c.rep M v) : v.oneCell' = true := by
  cases c <;> simp only [C.rep] at h
  case sl => obtain ⟨_, _, _, e, _⟩ := h; subst e; rfl
  all_goals subst h; rfl
theorem Cell.rep_oneCell {M : Mem} {ν : Nu} {c : Cell} {v : Value} (h : c.rep M ν v) : v.oneCell' = true := by
  cases c <;> simp only [Cell.rep] at h
  case dat c => exact C.rep_oneCell h
  case ptr => obtain ⟨_, _, e⟩ := h; subst e; rfl
  case own => subst h; rfl
  case rp => obtain ⟨_, _, e⟩ := h; subst e; rfl
  case arr => obtain ⟨_, _, e⟩ := h; subst e; rfl
  case ref => obtain ⟨_, _, _, e, _⟩ := h; subst e; rfl
  case clo => obtain ⟨_, e, _⟩ := h; subst e; rfl
theorem Cell.reps_oneCell {M : Mem} {ν : Nu} : ∀ {cs : List Cell} {vs : List Value}, Cell.reps M ν cs vs → ∀ v ∈ vs, v.oneCell' = true
  | [], vs, h, v, hv => by simp only [Cell.reps] at h; subst h; cases hv
  | c :: cs, vs, h, v, hv => by
    simp only [Cell.reps] at h
    obtain ⟨u, vs', e, h1, h2⟩ := h
    subst e
    rcases List.mem_cons.1 hv with rfl | hv
    · exact Cell.rep_oneCell h1
    · exact Cell.reps_oneCell h2 v hv

theorem run_storeAt (b off : Nat) (et : TypeId) : ∀ (vs : List Value) (i : Nat) (c : Array Value) (w : World) (pre mid post : List Value), w.heap[b]? = some (.cells c et (0, 0)) → c.toList = pre ++ (mid ++ post) → pre.length = off + i → mid.length = vs.length → (∀ v ∈ vs, v.oneCell' = true) →
    (storeCells ⟨b, off, none⟩ vs i).run P w = .ok () (w.setRow b (pre ++ (vs ++ post)).toArray)
  | [], i, c, w, pre, mid, post, hg, hc, h1, h2, _ => by
    have : mid = [] := List.length_eq_zero_iff.1 h2
    subst this
    have hc' : (pre ++ ([] ++ post)).toArray = c := by rw [← hc]
    rw [hc']
    simp only [storeCells]
    show Result.ok () w = _
    congr 1
    have hlt : b < w.heap.size := (Array.getElem?_eq_some_iff.1 hg).1
    have hv : w.heap[b] = .cells c et (0, 0) := (Array.getElem?_eq_some_iff.1 hg).2
    unfold World.setRow
    cases w with
    | mk heap tape drawn os output =>
      congr 1
      apply Array.ext
      · simp
      · intro k h1 h2
        simp only [Array.getElem_modify]
        split
        · rename_i hk; subst hk; simp at hv; simp [hv]
        · rfl
  | v :: rest, i, c, w, pre, mid, post, hg, hc, h1, h2, hone => by
    cases mid with
    | nil => simp at h2
    | cons m mid =>
      have hcell : w.cell? ⟨b, off + i, none⟩ = some m := by
        have : c[off + i]? = some m := by
          rw [← Array.getElem?_toList, hc, ← h1, List.getElem?_append_right (Nat.le_refl _)]; simp
        simp [World.cell?, hg, this]
      have hfro : w.frozen? ⟨b, off + i, none⟩ = false := by simp [World.frozen?, hg]
      have hst : (store ((⟨b, off, none⟩ : Addr).add i) v).run P w = .ok () (w.setRow b (c.setIfInBounds (off + i) v)) := by
        rw [addr_add, run_store P w _ v _ (hone v (by simp)), hcell]
        simp [hfro, setCell_eq_setRow w b (off + i) c et (0, 0) v hg]
      have hc2 : (c.setIfInBounds (off + i) v).toList = (pre ++ [v]) ++ (mid ++ post) := by
        rw [Array.toList_setIfInBounds, hc, ← h1]; simp
      have ih := run_storeAt b off et rest (i + 1) (c.setIfInBounds (off + i) v) (w.setRow b (c.setIfInBounds (off + i) v)) (pre ++ [v]) mid post (setRow_heap w b c _ et _ hg) hc2 (by simp [h1]; omega) (by simpa using h2) (fun x hx => hone x (by simp [hx]))
      simp only [storeCells, Sem.run_bind, hst, Result.andThen_ok, ih, setRow_setRow]
      simp

theorem frozen_setRow (w : World) (b : Nat) (c' : Array Value) (a : Addr) : (w.setRow b c').frozen? a = w.frozen? a := by
  unfold World.frozen? World.setRow
  simp only [Array.getElem?_modify]
  by_cases h : b = a.block
  · subst h
    cases hw : w.heap[a.block]? with
    | none => simp
    | some o => cases o <;> simp
  · simp [h]

/-- a box's block is written -/
theorem Sat.write {κ : Kap} {M : Mem} {ν : Nu} {B : Bx} {w : World} {k b : Nat} {r r' : Res} {c' : Array Value} (h : Sat κ M ν B w) (hk : (k, r) ∈ B) (hb : (ν k).blk = some b)
    (hr : r'.ok M ν (w.setRow b c') k) : Sat κ M ν (Bx.put k r' B) (w.setRow b c') where
  os := h.os
  tape := h.tape
  output := h.output
  dr := h.dr
  size := by simp; exact h.size
  unch := fun d hd hD => by
    rw [← h.unch d hd hD]
    refine setRow_other w b d c' (fun e => ?_)
    subst e
    rcases (h.away k r d hk hb).2 with h2 | h2
    · omega
    · exact hD h2.2
  fro := fun d x e => by
    rw [setRow_other w b d c' (fun e2 => ?_)]
    · exact h.fro _ _ e
    · subst e2; rw [(h.away k r d hk hb).1] at e; cases e
  res := fun j q hm => by
    rcases Bx.mem_put h.nodup hm with e | ⟨hm, hj⟩
    · cases e; exact hr
    · refine Res.ok_mono (Mem.le.refl M) (fun d x e hd => ?_) (h.res j q hm)
      rw [setRow_other w b d c' (fun e2 => ?_)]
      · exact e
      · subst e2; exact hj (h.inj j q k r d hm hk hd hb)
  away := fun j q d hm hd => by
    rcases Bx.mem_put h.nodup hm with e | ⟨hm, hj⟩
    · cases e; exact h.away k r d hk hd
    · exact h.away j q d hm hd
  inj := fun j q j' q' d hm hm' hd hd' => by
    have f : ∀ i p, (i, p) ∈ Bx.put k r' B → ∃ p', (i, p') ∈ B := by
      intro i p hp
      rcases Bx.mem_put h.nodup hp with e | ⟨hp, _⟩
      · cases e; exact ⟨r, hk⟩
      · exact ⟨p, hp⟩
    obtain ⟨p, hp⟩ := f j q hm
    obtain ⟨p', hp'⟩ := f j' q' hm'
    exact h.inj j p j' p' d hp hp' hd hd'
  nodup := by rw [Bx.put_keys]; exact h.nodup

def setRowAt (rows : List (List C)) (i : Nat) (r : List C) : List (List C) := rows.set i r

def vStore (P : Program) (t : TypeId) (x y : Option T) (B : Bx) (K : Bx → Prop) : Prop :=
  match szT P t, y with
  | some n, some u => match toCells u with
    | some part => match x with
      | some (.one (.ptr k off)) => match B.lookup k with
        | some (.cells cs) => match cutC off cs with
          | some (pre, z) => match cutC n z with
            | some (_, post) => lenIs n part = true ∧ K (Bx.put k (.cells (pre ++ (part ++ post))) B)
            | none => False
          | none => False
        | _ => False
      | some (.one (.rp k sz i f)) => match B.lookup k with
        | some (.row sz' rows) => sz' = sz ∧ ∃ r, rows[i]? = some r ∧ (match cutC f r with
          | some (pre, z) => match cutC n z with
            | some (_, post) => match pureCs (part.map Cell.soft) with
              | some p => lenIs n part = true ∧ K (Bx.put k (.row sz (rows.set i (pre ++ (p ++ post)))) B)
              | none => False
            | none => False
          | none => False)
        | _ => False
      | _ => False
    | none => False
  | _, _ => False

theorem OpE.of_skip {o : Oper} {env : Env} {B B' : Bx}
    (h : ∀ κ M ν a w, EnvOn M ν a env o → Sat κ M ν B w → ∃ w', (execOp a.eval o).run P w = .ok .skip w' ∧ Sat κ M ν B' w') : OpE P o env B undefT B' := by
  intro κ M ν a w he hs
  obtain ⟨w', hr, hs'⟩ := h κ M ν a w he hs
  unfold Oper.wp
  rw [hr]
  exact ⟨undef, M, rfl, Mem.ext.refl κ M, by simp [undefT, T.rep, Cell.rep, C.rep], hs'⟩

theorem lenIs_map {n : Nat} {l : List Cell} (h : lenIs n l = true) : (l.map Cell.soft).length = n := by rw [List.length_map]; exact lenIs_spec h

theorem vStore_sound {t tx : TypeId} {x y : Operand} {env : Env} {B : Bx} {o : Oper} {K : Bx → Prop} (ho : o.op = .store t x y) (h : vStore P t (ev P env tx x) (ev P env t y) B K) :
    ∃ B', OpE P o env B undefT B' ∧ K B' := by
  have hx : x ∈ o.op.operands := by rw [ho]; simp [Op.operands]
  have hy : y ∈ o.op.operands := by rw [ho]; simp [Op.operands]
  have hex : ∀ (a : Act) (w w' : World), (Instr.storeAt t (a.eval x) (a.eval y)).run P w = .ok () w' → (execOp a.eval o).run P w = .ok .skip w' := by
    intro a w w' h
    unfold execOp; rw [ho]
    simp only [Sem.run_bind, h, Result.andThen_ok, Sem.run_pure]
  unfold vStore at h
  split at h
  · rename_i n u hsz ey
    split at h
    · rename_i part hpart
      split at h
      · rename_i k off ex
        split at h
        · rename_i cs hb
          split at h
          · rename_i pre z hc1
            split at h
            · rename_i old post hc2
              obtain ⟨hl, hK⟩ := h
              obtain ⟨e1, l1⟩ := cutC_spec hc1
              obtain ⟨e2, l2⟩ := cutC_spec hc2
              refine ⟨_, OpE.of_skip fun κ M ν a w he hs => ?_, hK⟩
              have hrep := cells_of hpart (ev_rep he hy ey)
              have hr := ev_rep he hx ex
              simp only [T.rep, Cell.rep] at hr
              obtain ⟨b, hb1, ep⟩ := hr
              have hres := hs.res k _ (lookup_box hb)
              simp only [Res.ok] at hres
              obtain ⟨b', c, et, hb2, hheap, hreps⟩ := hres
              rw [hb1] at hb2; cases hb2
              rw [e1, e2] at hreps
              obtain ⟨w1, w23, ew, hw1, hw23⟩ := Cell.reps_split hreps
              obtain ⟨w2, w3, ew2, hw2, hw3⟩ := Cell.reps_split hw23
              have hvl : (a.eval y).cells.size = n := by rw [← Array.length_toList, Cell.reps_length hrep]; exact lenIs_spec hl
              have hst := run_storeAt (P := P) b off et (a.eval y).cells.toList 0 c w w1 w2 w3 hheap (by rw [ew, ew2]) (by rw [Cell.reps_length hw1, l1]; rfl) (by rw [Cell.reps_length hw2, l2, Array.length_toList, hvl]) (Cell.reps_oneCell hrep)
              refine ⟨w.setRow b (w1 ++ ((a.eval y).cells.toList ++ w3)).toArray, hex a w _ ?_, hs.write (lookup_box hb) hb1 ?_⟩
              · rw [ep]
                simp only [Instr.storeAt, Instr.sureAddr, Sem.run_bind, Sem.run_pure, Result.andThen_ok, storeVar, run_sz hsz, hvl, ne_eq, not_true_eq_false, if_false, hst]
              · simp only [Res.ok]
                refine ⟨b, _, et, hb1, setRow_heap w b c _ et _ hheap, ?_⟩
                simpa using Cell.reps_append hw1 (Cell.reps_append hrep hw3)
            · exact h.elim
          · exact h.elim
        · exact h.elim
      · rename_i k sz i f ex
        split at h
        · rename_i sz' rows hb
          obtain ⟨rfl, r, hi, h⟩ := h
          split at h
          · rename_i pre z hc1
            split at h
            · rename_i old post hc2
              split at h
              · rename_i p hp
                obtain ⟨hl, hK⟩ := h
                obtain ⟨e1, l1⟩ := cutC_spec hc1
                obtain ⟨e2, l2⟩ := cutC_spec hc2
                refine ⟨_, OpE.of_skip fun κ M ν a w he hs => ?_, hK⟩
                have hrep := cells_of hpart (ev_rep he hy ey)
                have hrepS := Cell.reps_soft hrep
                rw [pureCs_spec hp] at hrepS
                have hrow' := Cell.reps_map_c.1 hrepS
                have hr := ev_rep he hx ex
                simp only [T.rep, Cell.rep] at hr
                obtain ⟨b, hb1, ep⟩ := hr
                have hres := hs.res k _ (lookup_box hb)
                simp only [Res.ok] at hres
                obtain ⟨hcap1, hcap2, hres⟩ := hres
                rcases hres with ⟨hnone, _⟩ | ⟨b', c, et, mid, spare, hb2, hheap, htl, hrows, hcs⟩
                · rw [hb1] at hnone; cases hnone
                · rw [hb1] at hb2; cases hb2
                  have hlt := (List.getElem?_eq_some_iff.1 hi).1
                  have hri : rows[i] = r := (List.getElem?_eq_some_iff.1 hi).2
                  have hsplit : rows = rows.take i ++ (r :: rows.drop (i + 1)) := by
                    rw [← hri, ← List.drop_eq_getElem_cons hlt, List.take_append_drop]
                  rw [hsplit] at hrows
                  obtain ⟨u1, u23, eu, hu1, hu23⟩ := repRows_split hrows
                  simp only [repRows] at hu23
                  obtain ⟨u2, u3, eu2, hrl, hrow, hu3⟩ := hu23
                  rw [e1, e2] at hrow
                  obtain ⟨w1, w23, ew, hw1, hw23⟩ := repRow_split hrow
                  obtain ⟨w2, w3, ew2, hw2, hw3⟩ := repRow_split hw23
                  have hvl : (a.eval y).cells.size = n := by rw [← Array.length_toList, Cell.reps_length hrep]; exact lenIs_spec hl
                  have hu1l : u1.length = i * sz' := by rw [repRows_length hu1, List.length_take, Nat.min_eq_left (by omega)]
                  have hst := run_storeAt (P := P) b (i * sz' + f) et (a.eval y).cells.toList 0 c w (u1 ++ w1) w2 (w3 ++ (u3 ++ spare)) hheap (by rw [htl, eu, eu2, ew, ew2]; simp) (by rw [List.length_append, hu1l, repRow_length hw1, l1]; rfl) (by rw [repRow_length hw2, l2, Array.length_toList, hvl]) (Cell.reps_oneCell hrep)
                  have hplen : p.length = n := by rw [← List.length_map (f := Cell.dat), ← pureCs_spec hp]; exact lenIs_map hl
                  have hnewrow : rows.set i (pre ++ (p ++ post)) = rows.take i ++ ((pre ++ (p ++ post)) :: rows.drop (i + 1)) := List.set_eq_take_append_cons_drop .. |>.trans (by rw [if_pos hlt])
                  have hnr : (pre ++ (p ++ post)).length = sz' := by
                    rw [← hrl, e1, e2]
                    simp only [List.length_append, hplen, l2]
                  refine ⟨w.setRow b ((u1 ++ w1) ++ ((a.eval y).cells.toList ++ (w3 ++ (u3 ++ spare)))).toArray, hex a w _ ?_, hs.write (lookup_box hb) hb1 ?_⟩
                  · rw [ep]
                    simp only [Instr.storeAt, Instr.sureAddr, Sem.run_bind, Sem.run_pure, Result.andThen_ok, storeVar, run_sz hsz, hvl, ne_eq, not_true_eq_false, if_false, hst]
                  · simp only [Res.ok]
                    refine ⟨by rw [List.length_set]; exact hcap1, hcap2, .inr ⟨b, _, et, u1 ++ (w1 ++ ((a.eval y).cells.toList ++ w3) ++ u3), spare, hb1, setRow_heap w b c _ et _ hheap, by simp, ?_, ?_⟩⟩
                    · rw [hnewrow]
                      refine repRows_append hu1 ?_
                      simp only [repRows]
                      exact ⟨_, u3, rfl, hnr, repRow_append hw1 (repRow_append hrow' hw3), hu3⟩
                    · rw [← hcs, ← Array.length_toList (xs := c), htl, eu, eu2, ew, ew2]
                      simp only [List.size_toArray, List.length_append, Array.length_toList, hvl, repRow_length hw2, l2]
                      omega
              · exact h.elim
            · exact h.elim
          · exact h.elim
        · exact h.elim
      · exact h.elim
    · exact h.elim
  · exact h.elim

end Go.Sx
