/- A part of the proof: lemmas about the walk of the program and about plain integers and lists. No conditions beyond those that each lemma states. -/
import Derived.Test.YtmpfdejckbceiaaOp5
/-! Nil and empty slices; slices' literals; builtins; contracts and calls. -/
set_option linter.unusedVariables false
set_option linter.unusedSimpArgs false
namespace Go.Sx
variable {P : Program}

def C.soft : C → C
  | .nil n => .sl n []
  | .int k n => .int k n
  | .bool b => .bool b
  | .str l => .str l
  | .sl n r => .sl n r
  | .fn f => .fn f
def Cell.soft : Cell → Cell
  | .dat c => .dat c.soft
  | .ptr k o => .ptr k o
  | .own k m => .own k m
  | .rp k sz i f => .rp k sz i f
  | .arr k n => .arr k n
  | .ref r => .ref r
  | .clo f caps => .clo f caps
mutual
def T.soft : T → T
  | .one c => .one c.soft
  | .st r => .st (r.map C.soft)
  | .agg cs => .agg (cs.map Cell.soft)
  | .tup ts => .tup (T.softs ts)
  | .un => .un
def T.softs : List T → List T
  | [] => []
  | t :: ts => t.soft :: T.softs ts
end
theorem C.rep_soft {M : Mem} {c : C} {v : Value} (h : c.rep M v) : c.soft.rep M v := by
  cases c <;> simp only [C.soft] <;> try exact h
  simp only [C.rep] at h ⊢
  subst h
  exact ⟨none, 0, [], rfl, Nat.le_refl _, Nat.zero_le _, by simp only [repRows], .inl trivial⟩
theorem Cell.rep_soft {M : Mem} {ν : Nu} {c : Cell} {v : Value} (h : c.rep M ν v) : c.soft.rep M ν v := by
  cases c <;> simp only [Cell.soft] <;> try exact h
  simp only [Cell.rep] at h ⊢
  exact C.rep_soft h
theorem repRow_soft {M : Mem} : ∀ {r : List C} {vs : List Value}, repRow M r vs → repRow M (r.map C.soft) vs
  | [], vs, h => by simpa only [List.map_nil] using h
  | c :: r, vs, h => by
    simp only [repRow] at h
    simp only [List.map_cons, repRow]
    obtain ⟨v, vs', e, h1, h2⟩ := h
    exact ⟨v, vs', e, C.rep_soft h1, repRow_soft h2⟩
theorem Cell.reps_soft {M : Mem} {ν : Nu} : ∀ {r : List Cell} {vs : List Value}, Cell.reps M ν r vs → Cell.reps M ν (r.map Cell.soft) vs
  | [], vs, h => by simpa only [List.map_nil] using h
  | c :: r, vs, h => by
    simp only [Cell.reps] at h
    simp only [List.map_cons, Cell.reps]
    obtain ⟨v, vs', e, h1, h2⟩ := h
    exact ⟨v, vs', e, Cell.rep_soft h1, Cell.reps_soft h2⟩
mutual
theorem T.rep_soft {M : Mem} {ν : Nu} : ∀ {t : T} {v : Value}, t.rep M ν v → t.soft.rep M ν v
  | .one c, v, h => by simp only [T.soft, T.rep] at h ⊢; exact Cell.rep_soft h
  | .st r, v, h => by simp only [T.soft, T.rep] at h ⊢; obtain ⟨a, e, h⟩ := h; exact ⟨a, e, repRow_soft h⟩
  | .agg cs, v, h => by simp only [T.soft, T.rep] at h ⊢; obtain ⟨a, e, h⟩ := h; exact ⟨a, e, Cell.reps_soft h⟩
  | .tup ts, v, h => by simp only [T.soft, T.rep] at h ⊢; obtain ⟨a, e, h⟩ := h; exact ⟨a, e, T.reps_soft h⟩
  | .un, v, h => by simpa only [T.soft, T.rep] using h
theorem T.reps_soft {M : Mem} {ν : Nu} : ∀ {ts : List T} {vs : List Value}, T.reps M ν ts vs → T.reps M ν (T.softs ts) vs
  | [], vs, h => by simpa only [T.softs] using h
  | t :: ts, vs, h => by
    simp only [T.reps] at h
    simp only [T.softs, T.reps]
    obtain ⟨v, vs', e, h1, h2⟩ := h
    exact ⟨v, vs', e, T.rep_soft h1, T.reps_soft h2⟩
end

def softO (t : Option T) : Option T :=
  match t with
  | some t => some t.soft
  | none => none
theorem softO_rep {M : Mem} {ν : Nu} {a : Act} {env : Env} {o : Oper} {ty : TypeId} {x : Operand} {t : T} (he : EnvOn M ν a env o) (hx : x ∈ o.op.operands) (h : softO (ev P env ty x) = some t) :
    t.rep M ν (a.eval x) := by
  unfold softO at h
  split at h
  · rename_i u e
    simp only [Option.some.injEq] at h
    subst h
    exact T.rep_soft (ev_rep he hx e)
  · cases h

/-! ### literals of slices -/
/-- the element type of a slice type, with its size, where its zero value is known -/
def bsT (P : Program) (t : TypeId) : Option (TypeId × Nat) :=
  match P.underlying t with
  | some (.slice e) => match szT P e, (P.info? e).bind (·.zero) with
    | some (n + 1), some z => bif z.cells.size == n + 1 then some (e, n + 1) else none
    | _, _ => none
  | _ => none
theorem bsT_spec {t e n : Nat} (h : bsT P t = some (e, n)) : P.underlying t = some (.slice e) ∧ szT P e = some n ∧ (∃ z : Value, (∀ w, (zeroValue e).run P w = .ok z w) ∧ z.cells.size = n) ∧ n ≠ 0 := by
  unfold bsT at h
  split at h
  · rename_i e' hu
    split at h
    · rename_i m z h1 h2
      cases hz : (z.cells.size == m + 1) with
      | false => rw [hz] at h; cases h
      | true =>
        rw [hz] at h
        simp only [cond_true, Option.some.injEq, Prod.mk.injEq] at h
        obtain ⟨rfl, rfl⟩ := h
        obtain ⟨i, hi, hz2⟩ := Option.bind_eq_some_iff.1 h2
        exact ⟨hu, h1, ⟨z, fun w => by simp [zeroValue, typeInfo, hi, hz2], by simpa using hz⟩, by omega⟩
    · cases h
  · cases h

def vRows (P : Program) (e n : Nat) (env : Env) : Nat → List (Nat × Operand) → Option (List (List C))
  | _, [] => some []
  | k, (i, x) :: rest => bif i == k then (match softO (ev P env e x) with
    | some u => match toCells u with
      | some cs => match pureCs cs with
        | some r => bif lenIs n r then (match vRows P e n env (k + 1) rest with
          | some rs => some (r :: rs)
          | none => none) else none
        | none => none
      | none => none
    | none => none) else none
def vBuildSlice (P : Program) (t : TypeId) (len : Nat) (env : Env) (parts : List (Nat × Operand)) (K : T → Prop) : Prop :=
  match bsT P t with
  | some (e, n) => match vRows P e n env 0 parts with
    | some rows => lenIs len parts = true ∧ len * n ≤ 16777216 ∧ K (.one (.dat (.sl n rows)))
    | none => False
  | none => False

theorem vRows_sound {e n : Nat} {env : Env} {M : Mem} {ν : Nu} {a : Act} :
    ∀ (parts : List (Nat × Operand)) (k : Nat) (rows : List (List C)) (pre post : List Value), (∀ p ∈ parts, ∀ u, softO (ev P env e p.2) = some u → u.rep M ν (a.eval p.2)) → vRows P e n env k parts = some rows →
      pre.length = k * n → post.length = parts.length * n →
      ∃ vs, Instr.fill (fun i => some (i * n, n)) (pre ++ post).toArray (parts.map fun (i, x) => (i, a.eval x)) = some (pre ++ vs).toArray ∧ repRows M n rows vs ∧ rows.length = parts.length
  | [], k, rows, pre, post, _, h, h1, h2 => by
    simp only [vRows, Option.some.injEq] at h
    subst h
    have : post = [] := List.length_eq_zero_iff.1 (by simpa using h2)
    subst this
    exact ⟨[], rfl, by simp only [repRows], rfl⟩
  | (i, x) :: rest, k, rows, pre, post, he, h, h1, h2 => by
    simp only [vRows] at h
    cases hik : (i == k) with
    | false => rw [hik] at h; cases h
    | true =>
      rw [hik] at h
      simp only [cond_true] at h
      have hik' : i = k := by simpa using hik
      subst hik'
      split at h
      · rename_i u hu
        split at h
        · rename_i cs hcs
          split at h
          · rename_i r hr
            cases hl : lenIs n r with
            | false => rw [hl] at h; cases h
            | true =>
              rw [hl] at h
              simp only [cond_true] at h
              split at h
              · rename_i rs hrs
                simp only [Option.some.injEq] at h
                subst h
                have hrep := cells_of hcs (he (i, x) (by simp) u hu)
                rw [pureCs_spec hr] at hrep
                have hrow := Cell.reps_map_c.1 hrep
                have hrl := lenIs_spec hl
                have hvl : (a.eval x).cells.size = n := by rw [← Array.length_toList, repRow_length hrow]; exact hrl
                have hpl : post.length = n + rest.length * n := by rw [h2, List.length_cons, Nat.add_mul, Nat.one_mul]; omega
                have hpost : post = post.take n ++ post.drop n := (List.take_append_drop n post).symm
                have step := fill_step (place := fun i => some (i * n, n)) (cells := (pre ++ post).toArray) (i := i) (off := i * n) (n := n) (v := a.eval x) (rest := rest.map fun (i, x) => (i, a.eval x)) (pre := pre) (mid := post.take n) (post := post.drop n)
                  rfl hvl (by rw [← hpost]) h1 (by rw [List.length_take]; omega)
                obtain ⟨vs, hf, hrs', hlen⟩ := vRows_sound rest (i + 1) rs (pre ++ (a.eval x).cells.toList) (post.drop n) (fun p hp => he p (List.mem_cons_of_mem _ hp)) hrs
                  (by rw [List.length_append, h1, Array.length_toList, hvl, Nat.add_mul, Nat.one_mul]) (by rw [List.length_drop, hpl]; omega)
                refine ⟨(a.eval x).cells.toList ++ vs, ?_, ?_, by simp [hlen]⟩
                · rw [List.map_cons, step, ← List.append_assoc, hf, List.append_assoc]
                · simp only [repRows]
                  exact ⟨_, vs, rfl, hrl, hrow, hrs'⟩
              · cases h
          · cases h
        · cases h
      · cases h

theorem vBuildSlice_sound {t : TypeId} {len : Nat} {parts : List (Nat × Operand)} {env : Env} {B : Bx} {o : Oper} {K : T → Prop} (ho : o.op = .buildSlice t len parts.toArray)
    (h : vBuildSlice P t len env parts K) : ∃ u, OpP P o env B u ∧ K u := by
  have hex : ∀ (a : Act), execOp a.eval o = (do pure (.value (← Instr.buildSlice t len (parts.map fun (i, x) => (i, a.eval x)).toArray))) := by
    intro a; unfold execOp; rw [ho]; simp
  unfold vBuildSlice at h
  split at h
  · rename_i e n hbs
    obtain ⟨hu, hsz, ⟨z, hz, hzs⟩, hn0⟩ := bsT_spec hbs
    split at h
    · rename_i rows hr
      obtain ⟨hlen, hbound, hK⟩ := h
      have hpl := lenIs_spec hlen
      refine ⟨_, OpP.of_run fun κ M ν ac w B' hB he hs => ?_, hK⟩
      have hops : ∀ p ∈ parts, ∀ u, softO (ev P env e p.2) = some u → u.rep M ν (ac.eval p.2) := by
        intro p hp u hu
        refine softO_rep he ?_ hu
        rw [ho]
        simp only [Op.operands]
        simp
        exact ⟨p.1, by cases p; exact hp⟩
      let zero : Array Value := if len * n = 0 then #[] else z.cells
      let start : List Value := ((Array.range (len * n)).map (zero[· % zero.size]!)).toList
      have hstart : start.length = parts.length * n := by simp [start, hpl]
      obtain ⟨vs, hf, hrows, hrl⟩ := vRows_sound (a := ac) parts 0 rows [] start hops hr (by simp) hstart
      obtain ⟨hext, hsat⟩ := hs.freeze_new (.cells vs.toArray e) ⟨_, _, rfl⟩
      refine ⟨.slice (some ⟨w.heap.size, 0, none⟩) len len, _, _, exec_v (hex ac) ?_, hext, ?_, hsat⟩
      · have hle : ¬ len * n > 2 ^ 24 := by omega
        have hf' : Instr.fill (fun i => some (i * n, n)) ((Array.range (len * n)).map (zero[· % zero.size]!)) (parts.map fun (i, x) => (i, ac.eval x)) = some vs.toArray := by
          have e1 : ((Array.range (len * n)).map (zero[· % zero.size]!)) = ([] ++ start).toArray := by simp only [start, List.nil_append, Array.toArray_toList]
          rw [e1, hf]; simp
        unfold Instr.buildSlice
        by_cases h0 : len * n = 0
        · have hz0 : zero = #[] := by simp only [zero, h0, if_true]
          rw [hz0] at hf'
          rw [h0] at hf' hle
          simp only [Sem.run_bind, run_underlying hu, Result.andThen_ok, run_sz hsz, hle, if_false, Sem.run_pure, h0, if_true, hf', newRow, run_newObj]
        · have hz0 : zero = z.cells := by simp only [zero, h0, if_false]
          rw [hz0] at hf'
          simp only [Sem.run_bind, run_underlying hu, Result.andThen_ok, run_sz hsz, hle, if_false, Sem.run_pure, h0, hz, hf', newRow, run_newObj]
      · have hpn : parts.length = rows.length := hrl.symm
        simp only [T.rep, Cell.rep, C.rep]
        refine ⟨some ⟨w.heap.size, 0, none⟩, len, vs, by rw [hrl, hpl], by omega, ?_, ?_, ?_⟩
        · have : len ≤ len * n := Nat.le_mul_of_pos_right _ (Nat.pos_of_ne_zero hn0)
          unfold maxLen; omega
        · exact repRows_mono hext.1 n rows vs hrows
        · right
          refine ⟨w.heap.size, 0, rfl, vs.toArray, e, (0, 0), [], [], ?_, by simp, rfl⟩
          simp [Mem.add]
    · exact h.elim
  · exact h.elim

/-! ### builtins that only look -/
theorem exec_builtin {o : Oper} {b : Builtin} {args : Array Operand} {ts : Array TypeId} (ho : o.op = .call { callee := .builtin b, args := args, argTypes := ts }) (a : Act) :
    execOp a.eval o = builtin b ts o.type (args.map fun | .const _ => true | _ => false) (args.map a.eval) := by
  unfold execOp
  rw [ho]
  rfl

def vLen (P : Program) (t : TypeId) (x : Option T) (K : T → Prop) : Prop :=
  match x with
  | some (.one (.dat (.str l))) => kdT P t = some .str ∧ K (I .i64 l.length)
  | some (.one (.dat (.sl _ rows))) => match elT P t with
    | some _ => K (I .i64 rows.length)
    | none => False
  | some (.one (.own _ m)) => match elT P t with
    | some _ => K (I .i64 m)
    | none => False
  | some (.one (.arr _ m)) => match elT P t with
    | some _ => K (I .i64 m)
    | none => False
  | _ => False
theorem vLen_sound {t : TypeId} {x : Operand} {ty : TypeId} {env : Env} {B : Bx} {o : Oper} {K : T → Prop} (ho : o.op = .call { callee := .builtin .len, args := #[x], argTypes := #[t] })
    (h : vLen P t (softO (ev P env ty x)) K) : ∃ u, OpP P o env B u ∧ K u := by
  have hx : x ∈ o.op.operands := by rw [ho]; simp [Op.operands, Call.operands]
  have hex : ∀ (a : Act), execOp a.eval o = (do pure (.value (← Builtin.len_ #[t] o.type #[a.eval x]))) := by
    intro a; rw [exec_builtin ho]; simp [builtin]
  unfold vLen at h
  split at h
  · rename_i l ex
    refine ⟨_, OpP.of_val fun κ M ν ac w B' hB he hs => ⟨_, exec_v (hex ac) ?_, rep_int.2 rfl⟩, h.2⟩
    have e1 := rep_str.1 (softO_rep he hx ex)
    rw [e1]
    simp [Builtin.len_, run_underlying (kdT_str h.1), goInt, size_mk]
  · rename_i n rows ex
    split at h
    · rename_i p hel
      obtain ⟨e, hu, _⟩ := elT_spec (n := p.1) (b := p.2) hel
      refine ⟨_, OpP.of_val fun κ M ν ac w B' hB he hs => ⟨_, exec_v (hex ac) ?_, rep_int.2 rfl⟩, h⟩
      have hr := softO_rep he hx ex
      simp only [T.rep, Cell.rep, C.rep] at hr
      obtain ⟨a, cap, mid, ev, _⟩ := hr
      rw [ev]
      simp [Builtin.len_, run_underlying hu, goInt]
    · exact h.elim
  · rename_i k m ex
    split at h
    · rename_i p hel
      obtain ⟨e, hu, _⟩ := elT_spec (n := p.1) (b := p.2) hel
      refine ⟨_, OpP.of_val fun κ M ν ac w B' hB he hs => ⟨_, exec_v (hex ac) ?_, rep_int.2 rfl⟩, h⟩
      have hr := softO_rep he hx ex
      simp only [T.rep, Cell.rep] at hr
      rw [hr]
      simp [Builtin.len_, run_underlying hu, goInt]
    · exact h.elim
  · rename_i k m ex
    split at h
    · rename_i p hel
      obtain ⟨e, hu, _⟩ := elT_spec (n := p.1) (b := p.2) hel
      refine ⟨_, OpP.of_val fun κ M ν ac w B' hB he hs => ⟨_, exec_v (hex ac) ?_, rep_int.2 rfl⟩, h⟩
      have hr := softO_rep he hx ex
      simp only [T.rep, Cell.rep] at hr
      obtain ⟨b, hb, ev⟩ := hr
      rw [ev]
      simp [Builtin.len_, run_underlying hu, goInt]
    · exact h.elim
  · exact h.elim

def vMinMax (isMax : Bool) (x y : Option T) (K : T → Prop) : Prop :=
  match x, y with
  | some (.one (.dat (.int k a))), some (.one (.dat (.int k' b))) => K (I k (bif isMax then (if b > a then b else a) else (if b < a then b else a)))
  | _, _ => False
theorem vMinMax_sound {isMax : Bool} {t1 t2 : TypeId} {ts : Array TypeId} {x y : Operand} {env : Env} {B : Bx} {o : Oper} {K : T → Prop} (ho : o.op = .call { callee := .builtin (if isMax then .max else .min), args := #[x, y], argTypes := ts })
    (h : vMinMax isMax (ev P env t1 x) (ev P env t2 y) K) : ∃ u, OpP P o env B u ∧ K u := by
  have hx : x ∈ o.op.operands := by rw [ho]; simp [Op.operands, Call.operands]
  have hy : y ∈ o.op.operands := by rw [ho]; simp [Op.operands, Call.operands]
  unfold vMinMax at h
  split at h
  · rename_i k a k' b ex ey
    refine ⟨_, OpP.of_val fun κ M ν ac w B' hB he hs => ⟨_, ?_, rep_int.2 rfl⟩, h⟩
    have e1 := rep_int.1 (ev_rep he hx ex)
    have e2 := rep_int.1 (ev_rep he hy ey)
    rw [exec_builtin ho]
    cases isMax
    · simp [builtin, Builtin.min_, Builtin.min2, e1, e2]
    · simp [builtin, Builtin.max_, Builtin.max2, e1, e2]
  · exact h.elim

/-! ### contracts -/
def Ent (P : Program) (f : FuncId) : Prop := ∃ fn, P.funcs[f]? = some fn ∧ (fn.name == "runtime.NumGoroutine") = false ∧ fn.body.isNone = false
def boxBlocks (B : Bx) (ν : Nu) (b : Nat) : Prop := ∃ k r, (k, r) ∈ B ∧ (ν k).blk = some b

/-- called with the arguments, in whatever world that holds the boxes B, the function gives r and leaves the boxes as B' -/
def PCB (P : Program) (f : FuncId) (args : List T) (B : Bx) (r : T) (B' : Bx) : Prop :=
  Ent P f ∧ ∀ M ν w vs, Sat ⟨w, boxBlocks B ν, ν⟩ M ν B w → T.reps M ν args vs →
    Calls P f vs.toArray w (fun e w' => ∃ v M', e = .returned v ∧ Mem.ext ⟨w, boxBlocks B ν, ν⟩ M M' ∧ r.rep M' ν v ∧ Sat ⟨w, boxBlocks B ν, ν⟩ M' ν B' w')
def PC (P : Program) (f : FuncId) (args : List T) (r : T) : Prop := PCB P f args [] r []

theorem Sat.nil {κ : Kap} {M : Mem} {ν : Nu} {B : Bx} {w : World} (h : Sat κ M ν B w) (D : Nat → Prop) (ν' : Nu) : Sat ⟨w, D, ν'⟩ M ν [] w :=
  ⟨rfl, rfl, rfl, Nat.le_refl _, Nat.le_refl _, fun _ _ _ => rfl, h.fro, fun _ _ h => (by cases h), fun _ _ _ h => (by cases h), fun _ _ _ _ _ h => (by cases h), by simp⟩

/-- the caller's state behind a call that turned only the boxes B1 -/
theorem Sat.call {κ κ1 : Kap} {M M' : Mem} {ν ν1 : Nu} {B B1 B1' B' B1x : Bx} {w w' : World} (h : Sat κ M ν B w) (hsub : ∀ x ∈ B1, x ∈ B) (h1 : Sat κ1 M' ν1 B1x w') (hκ : κ1.w = w) (hD1 : ∀ b, κ1.D b → boxBlocks B1 ν b)
    (hres1 : ∀ k r, (k, r) ∈ B1' → r.ok M' ν w' k) (hext : Mem.ext κ1 M M')
    (hB : ∀ x ∈ B', x ∈ B1' ∨ (x ∈ B ∧ x.1 ∉ B1.map (·.1))) (hk : ∀ x ∈ B', x.1 ∈ B.map (·.1)) (hnd : (B'.map (·.1)).Nodup) : Sat κ M' ν B' w' ∧ Mem.ext κ M M' := by
  subst hκ
  have hsz : κ1.w.heap.size ≤ w'.heap.size := h1.size
  have kept : ∀ k r b, (k, r) ∈ B → k ∉ B1.map (·.1) → (ν k).blk = some b → ¬ boxBlocks B1 ν b := by
    rintro k r b hm hn hb ⟨k', r', hm', hb'⟩
    have := h.inj k r k' r' b hm (hsub _ hm') hb hb'
    subst this
    exact hn (List.mem_map.2 ⟨(k, r'), hm', rfl⟩)
  refine ⟨⟨h1.os.trans h.os, h1.tape.trans h.tape, h1.output.trans h.output, Nat.le_trans h.dr h1.dr, Nat.le_trans h.size hsz, ?_, h1.fro, ?_, ?_, ?_, hnd⟩, hext.1, fun b o e => (hext.2 b o e).elim .inl fun hb => .inr (Nat.le_trans h.size hb)⟩
  · intro b hb hD
    rw [← h.unch b hb hD]
    refine h1.unch b (Nat.lt_of_lt_of_le hb h.size) fun hd1 => ?_
    obtain ⟨k, r, hm, hbk⟩ := hD1 b hd1
    rcases (h.away k r b (hsub _ hm) hbk).2 with h2 | h2
    · omega
    · exact hD h2.2
  · intro k r hm
    rcases hB (k, r) hm with hm1 | ⟨hm2, hn⟩
    · exact hres1 k r hm1
    · refine Res.ok_mono hext.1 (fun b x e hb => ?_) (h.res k r hm2)
      rw [← e]
      exact h1.unch b (Array.getElem?_eq_some_iff.1 e).1 (fun hd => kept k r b hm2 hn hb (hD1 b hd))
  · intro k r b hm hb
    obtain ⟨⟨k0, r0⟩, hm0, hk0⟩ := List.mem_map.1 (hk (k, r) hm)
    simp only at hk0
    subst hk0
    obtain ⟨ha, hc⟩ := h.away k0 r0 b hm0 hb
    refine ⟨?_, hc⟩
    cases hMb : M' b with
    | none => rfl
    | some o =>
      rcases hext.2 b o hMb with h2 | h2
      · rw [ha] at h2; cases h2
      · have := Res.blk_lt (h.res k0 r0 hm0) hb
        have h2' : κ1.w.heap.size ≤ b := h2
        omega
  · intro k r k' r' b hm hm' hb hb'
    obtain ⟨⟨k0, r0⟩, hm0, hk0⟩ := List.mem_map.1 (hk (k, r) hm)
    obtain ⟨⟨k1, r1⟩, hm1, hk1⟩ := List.mem_map.1 (hk (k', r') hm')
    simp only at hk0 hk1
    subst hk0; subst hk1
    exact h.inj _ _ _ _ b hm0 hm1 hb hb'

/-- the function and the captured cells behind a callee's operand -/
def calleeT (t : Option T) : Option (FuncId × List T) :=
  match t with
  | some (.one (.dat (.fn f))) => some (f, [])
  | some (.one (.clo f caps)) => some (f, caps.map .one)
  | _ => none

def evs (P : Program) (env : Env) : List Operand → List TypeId → Option (List T)
  | [], _ => some []
  | x :: xs, ts => match softO (ev P env (ts.headD 0) x) with
    | some t => match evs P env xs ts.tail with
      | some us => some (t :: us)
      | none => none
    | none => none
theorem evs_rep {M : Mem} {ν : Nu} {a : Act} {env : Env} {o : Oper} (he : EnvOn M ν a env o) : ∀ (xs : List Operand) (ts : List TypeId) (us : List T), (∀ x ∈ xs, x ∈ o.op.operands) → evs P env xs ts = some us → T.reps M ν us (xs.map a.eval)
  | [], ts, us, _, h => by simp only [evs, Option.some.injEq] at h; subst h; simp only [T.reps, List.map_nil]
  | x :: xs, ts, us, hx, h => by
    simp only [evs] at h
    split at h
    · rename_i t ht
      split at h
      · rename_i us' hus
        simp only [Option.some.injEq] at h
        subst h
        simp only [T.reps, List.map_cons]
        exact ⟨_, _, rfl, softO_rep he (hx x (by simp)) ht, evs_rep he xs ts.tail us' (fun y hy => hx y (by simp [hy])) hus⟩
      · cases h
    · cases h
theorem T.reps_append {M : Mem} {ν : Nu} : ∀ {ts us : List T} {vs ws : List Value}, T.reps M ν ts vs → T.reps M ν us ws → T.reps M ν (ts ++ us) (vs ++ ws)
  | [], us, vs, ws, h, k => by simp only [T.reps] at h; subst h; simpa using k
  | t :: ts, us, vs, ws, h, k => by
    simp only [T.reps] at h
    obtain ⟨v, vs', e, h1, h2⟩ := h
    subst e
    simp only [List.cons_append, T.reps]
    exact ⟨v, _, rfl, h1, T.reps_append h2 k⟩
theorem reps_ones {M : Mem} {ν : Nu} : ∀ {cs : List Cell} {vs : List Value}, Cell.reps M ν cs vs → T.reps M ν (cs.map .one) vs
  | [], vs, h => by simp only [Cell.reps] at h; simp only [List.map_nil, T.reps]; exact h
  | c :: cs, vs, h => by
    simp only [Cell.reps] at h
    simp only [List.map_cons, T.reps, T.rep]
    obtain ⟨v, vs', e, h1, h2⟩ := h
    exact ⟨v, vs', e, h1, reps_ones h2⟩

theorem exec_call {o : Oper} {f : Operand} {args : List Operand} {ts : Array TypeId} (ho : o.op = .call { callee := .value f, args := args.toArray, argTypes := ts }) {a : Act} {M : Mem} {ν : Nu} {env : Env} (he : EnvOn M ν a env o) {ty : TypeId}
    {g : FuncId} {caps us : List T} (hf : calleeT (ev P env ty f) = some (g, caps)) (hu : evs P env args ts.toList = some us) (hent : Ent P g) (w : World) :
    ∃ vs : List Value, (execOp a.eval o).run P w = .ok (.enter g vs.toArray) w ∧ T.reps M ν (us ++ caps) vs := by
  have hfm : f ∈ o.op.operands := by rw [ho]; simp [Op.operands, Call.operands]
  have ham : ∀ x ∈ args, x ∈ o.op.operands := by intro x hx; rw [ho]; simp [Op.operands, Call.operands, hx]
  have hargs := evs_rep he args ts.toList us ham hu
  obtain ⟨fn, hfn, hname, hbody⟩ := hent
  have hcf : ∀ vs : Array Value, (callFunc g vs).run P w = .ok (.enter g vs) w := by
    intro vs
    unfold callFunc
    simp only [Sem.run_bind, run_program, Result.andThen_ok, hfn, hname, Bool.false_eq_true, if_false, hbody]
    rfl
  unfold calleeT at hf
  split at hf
  · rename_i f' ef
    simp only [Option.some.injEq, Prod.mk.injEq] at hf
    obtain ⟨rfl, rfl⟩ := hf
    have hr := ev_rep he hfm ef
    simp only [T.rep, Cell.rep, C.rep] at hr
    refine ⟨args.map a.eval, ?_, by simpa using hargs⟩
    unfold execOp
    rw [ho]
    simp only [resolve, Sem.run_bind, hr, Deferred.ofValue, Sem.run_pure, Result.andThen_ok, invoke]
    simp [hcf]
  · rename_i f' caps' ef
    simp only [Option.some.injEq, Prod.mk.injEq] at hf
    obtain ⟨rfl, rfl⟩ := hf
    have hr := ev_rep he hfm ef
    simp only [T.rep, Cell.rep] at hr
    obtain ⟨cv, e, hcv⟩ := hr
    refine ⟨args.map a.eval ++ cv, ?_, T.reps_append hargs (reps_ones hcv)⟩
    unfold execOp
    rw [ho]
    simp only [resolve, Sem.run_bind, e, Deferred.ofValue, Sem.run_pure, Result.andThen_ok, invoke]
    simp [hcf]
  · cases hf

def vCall (P : Program) (ty : TypeId) (f : Operand) (args : List Operand) (ts : List TypeId) (env : Env) (K : T → Prop) : Prop :=
  match calleeT (ev P env ty f), evs P env args ts with
  | some (g, caps), some us => ∃ r, PC P g (us ++ caps) r ∧ K r
  | _, _ => False
theorem vCall_sound {ty : TypeId} {f : Operand} {args : List Operand} {ts : Array TypeId} {env : Env} {B : Bx} {o : Oper} {K : T → Prop} (ho : o.op = .call { callee := .value f, args := args.toArray, argTypes := ts })
    (h : vCall P ty f args ts.toList env K) : ∃ u, OpP P o env B u ∧ K u := by
  unfold vCall at h
  split at h
  · rename_i g caps us hf hu
    obtain ⟨r, hpc, hK⟩ := h
    refine ⟨r, ?_, hK⟩
    intro κ M ν a w B' hB he hs
    obtain ⟨vs, hrun, hreps⟩ := exec_call ho he hf hu hpc.1 w
    unfold Oper.wp
    rw [hrun]
    simp only [Oper.upon]
    refine Calls.mono (hpc.2 M ν w vs (hs.nil _ _) hreps) ?_
    rintro e w' ⟨v, M', rfl, hext, hr, hs'⟩
    obtain ⟨h1, h2⟩ := hs.call (B1 := []) (B1' := []) (B' := B') (fun x hx => by cases hx) hs' rfl (fun b h => h) (fun _ _ h => by cases h) hext (fun x hx => .inr ⟨hx, by simp⟩) (fun x hx => List.mem_map.2 ⟨x, hx, rfl⟩) hs.nodup
    exact ⟨v, M', rfl, h2, hr, h1⟩
  · exact h.elim

end Go.Sx
