/- A part of the proof: lemmas about the walk of the program and about plain integers and lists. No conditions beyond those that each lemma states. -/
import Derived.Test.YtmpfdejckbceiaaOp3
/-! Loads, addresses, parts, slices, literals. -/
set_option linter.unusedVariables false
set_option linter.unusedSimpArgs false
namespace Go.Sx
variable {P : Program}

/-- the first n of a list, and the rest -/
def cutC {α : Type} : Nat → List α → Option (List α × List α)
  | 0, l => some ([], l)
  | n + 1, a :: l => match cutC n l with
    | some (x, y) => some (a :: x, y)
    | none => none
  | _ + 1, [] => none
theorem cutC_spec {α : Type} : ∀ {n : Nat} {l x y : List α}, cutC n l = some (x, y) → l = x ++ y ∧ x.length = n
  | 0, l, x, y, h => by simp only [cutC, Option.some.injEq, Prod.mk.injEq] at h; obtain ⟨rfl, rfl⟩ := h; exact ⟨rfl, rfl⟩
  | n + 1, [], x, y, h => by simp [cutC] at h
  | n + 1, a :: l, x, y, h => by
    simp only [cutC] at h
    split at h
    · rename_i x' y' hc
      simp only [Option.some.injEq, Prod.mk.injEq] at h
      obtain ⟨rfl, rfl⟩ := h
      obtain ⟨e, hl⟩ := cutC_spec hc
      exact ⟨by rw [e]; rfl, by simp [hl]⟩
    · cases h

def pureCs : List Cell → Option (List C)
  | [] => some []
  | .dat c :: cs => match pureCs cs with
    | some r => some (c :: r)
    | none => none
  | _ :: _ => none
theorem pureCs_spec : ∀ {cs : List Cell} {r : List C}, pureCs cs = some r → cs = r.map .dat
  | [], r, h => by simp only [pureCs, Option.some.injEq] at h; subst h; rfl
  | c :: cs, r, h => by
    cases c <;> simp only [pureCs] at h <;> try (cases h; done)
    split at h
    · rename_i r' hr
      simp only [Option.some.injEq] at h
      subst h
      rw [pureCs_spec hr]; rfl
    · cases h
def mkAgg (cs : List Cell) : T :=
  match pureCs cs with
  | some r => .st r
  | none => .agg cs
theorem mkAgg_rep {M : Mem} {ν : Nu} {cs : List Cell} {a : Array Value} (h : Cell.reps M ν cs a.toList) : (mkAgg cs).rep M ν (.agg a) := by
  unfold mkAgg
  split
  · rename_i r hr
    rw [pureCs_spec hr] at h
    simp only [T.rep]
    exact ⟨a, rfl, Cell.reps_map_c.1 h⟩
  · simp only [T.rep]
    exact ⟨a, rfl, h⟩

/-! ### where values lie -/
theorem At.sub {o : Option Obj} {off : Nat} {v1 v2 v3 : List Value} (h : At o off (v1 ++ (v2 ++ v3))) : At o (off + v1.length) v2 := by
  obtain ⟨c, et, fz, pre, post, e, e2, e3⟩ := h
  exact ⟨c, et, fz, pre ++ v1, v3 ++ post, e, by rw [e2]; simp, by simp [e3]⟩
theorem At.cell {w : World} {b off : Nat} {vs : List Value} (h : At (w.heap[b]?) off vs) {j : Nat} {v : Value} (hv : vs[j]? = some v) : w.cell? ((⟨b, off, none⟩ : Addr).add j) = some v := by
  obtain ⟨c, et, fz, pre, post, e, e2, e3⟩ := h
  have hc : c[off + j]? = some v := by
    rw [← Array.getElem?_toList, e2, ← e3, List.getElem?_append_right (by omega), List.getElem?_append_left (by
      have := (List.getElem?_eq_some_iff.1 hv).1; omega)]
    simpa using hv
  unfold Addr.add
  split
  · rename_i h0; subst h0; simpa [World.cell?, e] using hc
  · simpa [World.cell?, e] using hc
theorem At.load {w : World} {b off : Nat} {vs : List Value} (h : At (w.heap[b]?) off vs) : (loadCells ⟨b, off, none⟩ vs.length).run P w = .ok vs.toArray w :=
  run_loadCells_list w _ vs fun j v hv => h.cell hv
theorem At.one {w : World} {b off : Nat} {v : Value} {vs : List Value} (h : At (w.heap[b]?) off (v :: vs)) : (Go.load ⟨b, off, none⟩).run P w = .ok v w := by
  have := h.cell (j := 0) (v := v) (by simp)
  have : w.cell? ⟨b, off, none⟩ = some v := by simpa [Addr.add] using this
  simp [this]

theorem At.of_fro {κ : Kap} {M : Mem} {ν : Nu} {B : Bx} {w : World} (hs : Sat κ M ν B w) {b off : Nat} {vs : List Value} (h : At (M b) off vs) : At (w.heap[b]?) off vs := by
  obtain ⟨c, et, fz, pre, post, e, e2, e3⟩ := h
  exact ⟨c, et, fz, pre, post, hs.fro _ _ e, e2, e3⟩

theorem At.whole {o : Option Obj} {c : Array Value} {et : TypeId} {fz : Nat × Nat} (h : o = some (.cells c et fz)) : At o 0 c.toList :=
  ⟨c, et, fz, [], [], h, by simp, rfl⟩

/-! ### load -/
/-- what a load of a type of this form and size gives of these cells -/
def takeT (agg : Bool) (n : Nat) (cs : List Cell) (K : T → Prop) : Prop :=
  bif agg then (match cutC n cs with
    | some (x, _) => K (mkAgg x)
    | none => False)
  else (match cs with
    | c :: _ => K (.one c)
    | [] => False)
def takeP (agg : Bool) (n : Nat) (r : List C) (K : T → Prop) : Prop :=
  bif agg then (match cutC n r with
    | some (x, _) => K (.st x)
    | none => False)
  else (match r with
    | c :: _ => K (.one (.dat c))
    | [] => False)

def vLoad (P : Program) (t : TypeId) (B : Bx) (x : Option T) (K : T → Prop) : Prop :=
  match szT P t, aggT P t with
  | some n, some agg => match x with
    | some (.one (.ref r)) => takeP agg n r K
    | some (.one (.ptr k off)) => match B.lookup k with
      | some (.cells cs) => match cutC off cs with
        | some (_, y) => takeT agg n y K
        | none => False
      | _ => False
    | some (.one (.rp k sz i f)) => match B.lookup k with
      | some (.row sz' rows) => sz' = sz ∧ ∃ r, rows[i]? = some r ∧ (match cutC f r with
        | some (_, y) => takeP agg n y K
        | none => False)
      | _ => False
    | _ => False
  | _, _ => False

theorem run_loadVar_agg {t n : Nat} {w : World} {b off : Nat} {vs : List Value} (ha : aggT P t = some true) (hn : szT P t = some n) (hl : vs.length = n) (h : At (w.heap[b]?) off vs) :
    (loadVar t ⟨b, off, none⟩).run P w = .ok (.agg vs.toArray) w := by
  subst hl
  simp only [loadVar, Sem.run_bind, run_agg ha, Result.andThen_ok, if_true, run_sz hn, h.load, Sem.run_pure]
theorem run_loadVar_one {t : Nat} {w : World} {b off : Nat} {v : Value} {vs : List Value} (ha : aggT P t = some false) (h : At (w.heap[b]?) off (v :: vs)) :
    (loadVar t ⟨b, off, none⟩).run P w = .ok v w := by
  simp only [loadVar, Sem.run_bind, run_agg ha, Result.andThen_ok, Bool.false_eq_true, if_false, h.one]

theorem takeT_sound {agg : Bool} {n : Nat} {cs : List Cell} {K : T → Prop} (h : takeT agg n cs K) :
    ∃ t, K t ∧ ∀ (ty : TypeId) (M : Mem) (ν : Nu) (w : World) (b off : Nat) (vs : List Value), aggT P ty = some agg → szT P ty = some n → Cell.reps M ν cs vs → At (w.heap[b]?) off vs →
      ∃ v, (loadVar ty ⟨b, off, none⟩).run P w = .ok v w ∧ t.rep M ν v := by
  unfold takeT at h
  cases agg with
  | true =>
    simp only [cond_true] at h
    split at h
    · rename_i x y hc
      obtain ⟨e, hl⟩ := cutC_spec hc
      refine ⟨_, h, fun ty M ν w b off vs ha hn hr hat => ?_⟩
      rw [e] at hr
      obtain ⟨v1, v2, e2, h1, h2⟩ := Cell.reps_split hr
      subst e2
      have hat' : At (w.heap[b]?) off v1 := by
        have := At.sub (v1 := []) (v2 := v1) (v3 := v2) (by simpa using hat)
        simpa using this
      exact ⟨_, run_loadVar_agg ha hn (by rw [Cell.reps_length h1, hl]) hat', mkAgg_rep (by simpa using h1)⟩
    · exact h.elim
  | false =>
    simp only [cond_false] at h
    split at h
    · rename_i c cs'
      refine ⟨_, h, fun ty M ν w b off vs ha hn hr hat => ?_⟩
      simp only [Cell.reps] at hr
      obtain ⟨v, vs', e, h1, h2⟩ := hr
      subst e
      exact ⟨v, run_loadVar_one ha hat, by simpa only [T.rep] using h1⟩
    · exact h.elim
theorem takeP_sound {agg : Bool} {n : Nat} {r : List C} {K : T → Prop} (h : takeP agg n r K) :
    ∃ t, K t ∧ ∀ (ty : TypeId) (M : Mem) (ν : Nu) (w : World) (b off : Nat) (vs : List Value), aggT P ty = some agg → szT P ty = some n → repRow M r vs → At (w.heap[b]?) off vs →
      ∃ v, (loadVar ty ⟨b, off, none⟩).run P w = .ok v w ∧ t.rep M ν v := by
  unfold takeP at h
  cases agg with
  | true =>
    simp only [cond_true] at h
    split at h
    · rename_i x y hc
      obtain ⟨e, hl⟩ := cutC_spec hc
      refine ⟨_, h, fun ty M ν w b off vs ha hn hr hat => ?_⟩
      rw [e] at hr
      obtain ⟨v1, v2, e2, h1, h2⟩ := repRow_split hr
      subst e2
      have hat' : At (w.heap[b]?) off v1 := by
        have := At.sub (v1 := []) (v2 := v1) (v3 := v2) (by simpa using hat)
        simpa using this
      refine ⟨_, run_loadVar_agg ha hn (by rw [repRow_length h1, hl]) hat', ?_⟩
      simp only [T.rep]
      exact ⟨_, rfl, by simpa using h1⟩
    · exact h.elim
  | false =>
    simp only [cond_false] at h
    split at h
    · rename_i c cs'
      refine ⟨_, h, fun ty M ν w b off vs ha hn hr hat => ?_⟩
      simp only [repRow] at hr
      obtain ⟨v, vs', e, h1, h2⟩ := hr
      subst e
      exact ⟨v, run_loadVar_one ha hat, by simpa only [T.rep, Cell.rep] using h1⟩
    · exact h.elim

theorem lookup_box {B : Bx} {k : Nat} {r : Res} (h : B.lookup k = some r) : (k, r) ∈ B := by
  induction B with
  | nil => simp at h
  | cons p B ih =>
    obtain ⟨e, u⟩ := p
    simp only [List.lookup_cons] at h
    by_cases he : k = e
    · subst he; simp at h; subst h; simp
    · have : (k == e) = false := by simpa using he
      rw [this] at h
      exact List.mem_cons_of_mem _ (ih h)

/-- the i-th row -/
theorem repRows_at {M : Mem} {sz : Nat} {rows : List (List C)} {vs : List Value} {i : Nat} {r : List C} (h : repRows M sz rows vs) (hi : rows[i]? = some r) :
    ∃ v1 v2 v3, vs = v1 ++ (v2 ++ v3) ∧ v1.length = i * sz ∧ repRow M r v2 ∧ r.length = sz := by
  have hlt := (List.getElem?_eq_some_iff.1 hi).1
  have hsplit : rows = rows.take i ++ (r :: rows.drop (i + 1)) := by
    have hr : rows[i] = r := (List.getElem?_eq_some_iff.1 hi).2
    rw [← hr, ← List.drop_eq_getElem_cons hlt, List.take_append_drop]
  rw [hsplit] at h
  obtain ⟨v1, v23, e, h1, h2⟩ := repRows_split h
  simp only [repRows] at h2
  obtain ⟨v2, v3, e2, hl, h3, h4⟩ := h2
  refine ⟨v1, v2, v3, by rw [e, e2], ?_, h3, hl⟩
  rw [repRows_length h1, List.length_take, Nat.min_eq_left (by omega)]

theorem vLoad_val {t : TypeId} {x : T} {B : Bx} {K : T → Prop} (h : vLoad P t B (some x) K) :
    ∃ u, K u ∧ ∀ κ M ν w B' v, (∀ x ∈ B, x ∈ B') → Sat κ M ν B' w → x.rep M ν v → ∃ a r, v = .pointer (some a) ∧ (loadVar t a).run P w = .ok r w ∧ u.rep M ν r := by
  unfold vLoad at h
  split at h
  · rename_i n agg hn ha
    split at h
    · rename_i r ex
      simp only [Option.some.injEq] at ex; subst ex
      obtain ⟨u, hk, hu⟩ := takeP_sound (P := P) h
      refine ⟨u, hk, fun κ M ν w B' val hB hs hr => ?_⟩
      simp only [T.rep, Cell.rep] at hr
      obtain ⟨b, off, vs, e, hat, hrow⟩ := hr
      obtain ⟨v, hl, hrep⟩ := hu t M ν w b off vs ha hn hrow (hat.of_fro hs)
      exact ⟨_, v, e, hl, hrep⟩
    · rename_i k off ex
      simp only [Option.some.injEq] at ex; subst ex
      split at h
      · rename_i cs hb
        split at h
        · rename_i pre y hc
          obtain ⟨ec, hlen⟩ := cutC_spec hc
          obtain ⟨u, hk, hu⟩ := takeT_sound (P := P) h
          refine ⟨u, hk, fun κ M ν w B' val hB hs hr => ?_⟩
          simp only [T.rep, Cell.rep] at hr
          obtain ⟨b, hb1, e⟩ := hr
          have hres := hs.res k _ (hB _ (lookup_box hb))
          simp only [Res.ok] at hres
          obtain ⟨b', c, et, hb2, hheap, hreps⟩ := hres
          rw [hb1] at hb2; cases hb2
          rw [ec] at hreps
          obtain ⟨v1, v2, e2, h1, h2⟩ := Cell.reps_split hreps
          have hat : At (w.heap[b]?) off v2 := by
            have := At.whole hheap
            rw [e2] at this
            have := At.sub (v1 := v1) (v2 := v2) (v3 := []) (by simpa using this)
            simpa [Cell.reps_length h1, hlen] using this
          obtain ⟨v, hl, hrep⟩ := hu t M ν w b off v2 ha hn h2 hat
          exact ⟨_, v, e, hl, hrep⟩
        · exact h.elim
      · exact h.elim
    · rename_i k sz i f ex
      simp only [Option.some.injEq] at ex; subst ex
      split at h
      · rename_i sz' rows hb
        obtain ⟨rfl, r, hi, h⟩ := h
        split at h
        · rename_i pre y hc
          obtain ⟨ec, hlen⟩ := cutC_spec hc
          obtain ⟨u, hk, hu⟩ := takeP_sound (P := P) h
          refine ⟨u, hk, fun κ M ν w B' val hB hs hr => ?_⟩
          simp only [T.rep, Cell.rep] at hr
          obtain ⟨b, hb1, e⟩ := hr
          have hres := hs.res k _ (hB _ (lookup_box hb))
          simp only [Res.ok] at hres
          obtain ⟨_, _, hres⟩ := hres
          rcases hres with ⟨hnone, _⟩ | ⟨b', c, et, mid, post, hb2, hheap, htl, hrows, _⟩
          · rw [hb1] at hnone; cases hnone
          · rw [hb1] at hb2; cases hb2
            obtain ⟨v1, v2, v3, e3, hl3, hrow, hrl⟩ := repRows_at hrows hi
            rw [ec] at hrow
            obtain ⟨x1, x2, e4, h41, h42⟩ := repRow_split hrow
            have hat : At (w.heap[b]?) (i * sz' + f) x2 := by
              have h0 := At.whole hheap
              rw [htl, e3, e4] at h0
              have := At.sub (v1 := v1 ++ x1) (v2 := x2) (v3 := v3 ++ post) (by simpa using h0)
              simpa [hl3, repRow_length h41, hlen] using this
            obtain ⟨v, hl, hrep⟩ := hu t M ν w b _ x2 ha hn h42 hat
            exact ⟨_, v, e, hl, hrep⟩
        · exact h.elim
      · exact h.elim
    · exact h.elim
  · exact h.elim

theorem vLoad_sound {t : TypeId} {x : Operand} {ty : TypeId} {env : Env} {B : Bx} {o : Oper} {K : T → Prop} (ho : o.op = .load t x)
    (h : vLoad P t B (ev P env ty x) K) : ∃ u, OpP P o env B u ∧ K u := by
  have hx : x ∈ o.op.operands := by rw [ho]; simp [Op.operands]
  cases hxe : ev P env ty x with
  | none =>
    rw [hxe] at h
    unfold vLoad at h
    split at h
    · exact h.elim
    · exact h.elim
  | some xt =>
    rw [hxe] at h
    obtain ⟨u, hk, hu⟩ := vLoad_val h
    refine ⟨u, OpP.of_val fun κ M ν ac w B' hB he hs => ?_, hk⟩
    obtain ⟨a, r, e, hl, hr⟩ := hu κ M ν w B' _ hB hs (ev_rep he hx hxe)
    refine ⟨r, ?_, hr⟩
    unfold execOp
    rw [ho]
    simp only [Sem.run_bind, Instr.loadAt, e, Instr.sureAddr, Sem.run_pure, Result.andThen_ok, hl]

/-! ### addresses -/
def vFieldAddr (P : Program) (s f : Nat) (x : Option T) (K : T → Prop) : Prop :=
  match fldT P s f with
  | some (off, _, _) => match x with
    | some (.one (.ref r)) => match cutC off r with
      | some (_, y) => K (.one (.ref y))
      | none => False
    | some (.one (.ptr k o)) => K (.one (.ptr k (o + off)))
    | some (.one (.rp k sz i g)) => K (.one (.rp k sz i (g + off)))
    | _ => False
  | none => False

theorem addr_add (b off n : Nat) : (⟨b, off, none⟩ : Addr).add n = ⟨b, off + n, none⟩ := by
  unfold Addr.add
  split
  · rename_i h; subst h; rfl
  · rfl

theorem vFieldAddr_sound {s f : Nat} {x : Operand} {ty : TypeId} {env : Env} {B : Bx} {o : Oper} {K : T → Prop} (ho : o.op = .fieldAddr s x f)
    (h : vFieldAddr P s f (ev P env ty x) K) : ∃ u, OpP P o env B u ∧ K u := by
  have hx : x ∈ o.op.operands := by rw [ho]; simp [Op.operands]
  unfold vFieldAddr at h
  split at h
  · rename_i off n agg hf
    obtain ⟨fs, fd, hu, hfd, hoff, hsz, _, hn⟩ := fldT_spec hf
    have hrun : ∀ (a : Act) (w : World) (b o' : Nat), a.eval x = .pointer (some ⟨b, o', none⟩) → (execOp a.eval o).run P w = .ok (.value (.pointer (some ⟨b, o' + off, none⟩))) w := by
      intro a w b o' e
      unfold execOp
      rw [ho]
      simp only [Sem.run_bind, Instr.fieldAt, e, Instr.sureAddr, Sem.run_pure, Result.andThen_ok, run_underlying hu, hfd, fieldPlace, run_sz hsz, hn, if_false, hoff, addr_add]
    split at h
    · rename_i r ex
      split at h
      · rename_i pre y hc
        obtain ⟨ec, hlen⟩ := cutC_spec hc
        refine ⟨_, OpP.of_val fun κ M ν ac w B' hB he hs => ?_, h⟩
        have hr := ev_rep he hx ex
        simp only [T.rep, Cell.rep] at hr
        obtain ⟨b, o', vs, e, hat, hrow⟩ := hr
        refine ⟨_, hrun _ _ _ _ e, ?_⟩
        rw [ec] at hrow
        obtain ⟨v1, v2, e2, h1, h2⟩ := repRow_split hrow
        simp only [T.rep, Cell.rep]
        refine ⟨b, o' + off, v2, rfl, ?_, h2⟩
        have := At.sub (v1 := v1) (v2 := v2) (v3 := []) (by simpa [e2] using hat)
        simpa [repRow_length h1, hlen] using this
      · exact h.elim
    · rename_i k o' ex
      refine ⟨_, OpP.of_val fun κ M ν ac w B' hB he hs => ?_, h⟩
      have hr := ev_rep he hx ex
      simp only [T.rep, Cell.rep] at hr
      obtain ⟨b, hb, e⟩ := hr
      refine ⟨_, hrun _ _ _ _ e, ?_⟩
      simp only [T.rep, Cell.rep]
      exact ⟨b, hb, rfl⟩
    · rename_i k sz i g ex
      refine ⟨_, OpP.of_val fun κ M ν ac w B' hB he hs => ?_, h⟩
      have hr := ev_rep he hx ex
      simp only [T.rep, Cell.rep] at hr
      obtain ⟨b, hb, e⟩ := hr
      refine ⟨_, hrun _ _ _ _ e, ?_⟩
      simp only [T.rep, Cell.rep]
      exact ⟨b, hb, by rw [Nat.add_assoc]⟩
    · exact h.elim
  · exact h.elim

def vIndexAddr (P : Program) (t : TypeId) (B : Bx) (x ix : Option T) (K : T → Prop) : Prop :=
  match ix with
  | some (.one (.dat (.int _ i))) => match x with
    | some (.one (.dat (.sl sz rows))) => match elT P t with
      | some (n, _) => n = sz ∧ 0 ≤ i ∧ ∃ r, rows[i.toNat]? = some r ∧ K (.one (.ref r))
      | none => False
    | some (.one (.own k m)) => match elT P t, B.lookup k with
      | some (n, _), some (.row sz rows) => sz = n ∧ m ≤ rows.length ∧ 0 ≤ i ∧ i < m ∧ K (.one (.rp k n i.toNat 0))
      | _, _ => False
    | some (.one (.ptr k off)) => match arT P t with
      | some (len, n, _) => 0 ≤ i ∧ i < len ∧ K (.one (.ptr k (off + i.toNat * n)))
      | none => False
    | some (.one (.ref r)) => match arT P t with
      | some (len, n, _) => 0 ≤ i ∧ i < len ∧ (match cutC (i.toNat * n) r with
        | some (_, y) => K (.one (.ref y))
        | none => False)
      | none => False
    | some (.one (.arr k m)) => match elT P t with
      | some (n, _) => 0 ≤ i ∧ i < m ∧ K (.one (.ptr k (i.toNat * n)))
      | none => False
    | _ => False
  | _ => False

theorem vIndexAddr_sound {t : TypeId} {x ix : Operand} {tx ti : TypeId} {env : Env} {B : Bx} {o : Oper} {K : T → Prop} (ho : o.op = .indexAddr t x ix)
    (h : vIndexAddr P t B (ev P env tx x) (ev P env ti ix) K) : ∃ u, OpP P o env B u ∧ K u := by
  have hx : x ∈ o.op.operands := by rw [ho]; simp [Op.operands]
  have hi : ix ∈ o.op.operands := by rw [ho]; simp [Op.operands]
  have hex : ∀ (a : Act) (w : World), (execOp a.eval o).run P w = ((Instr.indexAt t (a.eval x) (a.eval ix)).run P w).andThen fun v w => .ok (.value v) w := by
    intro a w
    unfold execOp
    rw [ho]
    simp only [Sem.run_bind, Sem.run_pure]
  unfold vIndexAddr at h
  split at h
  · rename_i k0 i ei
    split at h
    · rename_i sz rows ex
      split at h
      · rename_i n agg hel
        obtain ⟨rfl, h0, r, hri, hk⟩ := h
        obtain ⟨e, hu, hsz, _⟩ := elT_spec hel
        refine ⟨_, OpP.of_val fun κ M ν ac w B' hB he hs => ?_, hk⟩
        have hr := ev_rep he hx ex
        have hiv := rep_int.1 (ev_rep he hi ei)
        simp only [T.rep, Cell.rep, C.rep] at hr
        obtain ⟨a, cap, mid, ev, hc1, hc2, hrows, hor⟩ := hr
        have hlt := (List.getElem?_eq_some_iff.1 hri).1
        rcases hor with hnil | ⟨b, off, ea, hat⟩
        · subst hnil; simp at hlt
        · subst ea
          refine ⟨.pointer (some ⟨b, off + i.toNat * n, none⟩), ?_, ?_⟩
          · rw [hex, ev, hiv]
            have hlt' : i < (rows.length : Int) := by omega
            simp only [Instr.indexAt, asIntOf, Sem.run_bind, Sem.run_pure, Result.andThen_ok, run_underlying hu, h0, hlt', and_self, if_true, run_sz hsz, addr_add]
          · obtain ⟨v1, v2, v3, e3, hl3, hrow, _⟩ := repRows_at hrows hri
            simp only [T.rep, Cell.rep]
            refine ⟨b, _, v2, rfl, ?_, hrow⟩
            have := At.sub (v1 := v1) (v2 := v2) (v3 := v3) (by rw [← e3]; exact hat)
            simpa [hl3] using this
      · exact h.elim
    · rename_i k m ex
      split at h
      · rename_i n agg sz rows hel hb
        obtain ⟨rfl, hm, h0, him, hk⟩ := h
        obtain ⟨e, hu, hsz, _⟩ := elT_spec hel
        refine ⟨_, OpP.of_val fun κ M ν ac w B' hB he hs => ?_, hk⟩
        have hr := ev_rep he hx ex
        have hiv := rep_int.1 (ev_rep he hi ei)
        simp only [T.rep, Cell.rep] at hr
        have hres := hs.res k _ (hB _ (lookup_box hb))
        simp only [Res.ok] at hres
        obtain ⟨hc1, hc2, hres⟩ := hres
        rcases hres with ⟨hnone, hc0⟩ | ⟨b', c, et, mid, post, hb2, hheap, htl, hrows, _⟩
        · exfalso; omega
        · refine ⟨.pointer (some ⟨b', i.toNat * sz, none⟩), ?_, ?_⟩
          · rw [hex, hr, hiv, hb2]
            simp only [Instr.indexAt, asIntOf, Sem.run_bind, Sem.run_pure, Result.andThen_ok, run_underlying hu, h0, him, and_self, if_true, run_sz hsz, addr_add, Option.map_some, Nat.zero_add]
          · simp only [T.rep, Cell.rep]
            exact ⟨b', hb2, by simp⟩
      · exact h.elim
    · rename_i k off ex
      split at h
      · rename_i len n agg har
        obtain ⟨h0, hlt, hk⟩ := h
        obtain ⟨e, hu, hsz, _⟩ := arT_spec har
        refine ⟨_, OpP.of_val fun κ M ν ac w B' hB he hs => ?_, hk⟩
        have hr := ev_rep he hx ex
        have hiv := rep_int.1 (ev_rep he hi ei)
        simp only [T.rep, Cell.rep] at hr
        obtain ⟨b, hb, ep⟩ := hr
        refine ⟨.pointer (some ⟨b, off + i.toNat * n, none⟩), ?_, ?_⟩
        · rw [hex, ep, hiv]
          simp only [Instr.indexAt, asIntOf, Sem.run_bind, Sem.run_pure, Result.andThen_ok, run_underlying hu, Instr.sureAddr, h0, hlt, and_self, if_true, run_sz hsz, addr_add]
        · simp only [T.rep, Cell.rep]
          exact ⟨b, hb, rfl⟩
      · exact h.elim
    · rename_i r ex
      split at h
      · rename_i len n agg har
        obtain ⟨h0, hlt, hk⟩ := h
        obtain ⟨e, hu, hsz, _⟩ := arT_spec har
        split at hk
        · rename_i pre y hc
          obtain ⟨ec, hlen⟩ := cutC_spec hc
          refine ⟨_, OpP.of_val fun κ M ν ac w B' hB he hs => ?_, hk⟩
          have hr := ev_rep he hx ex
          have hiv := rep_int.1 (ev_rep he hi ei)
          simp only [T.rep, Cell.rep] at hr
          obtain ⟨b, o', vs, ep, hat, hrow⟩ := hr
          refine ⟨.pointer (some ⟨b, o' + i.toNat * n, none⟩), ?_, ?_⟩
          · rw [hex, ep, hiv]
            simp only [Instr.indexAt, asIntOf, Sem.run_bind, Sem.run_pure, Result.andThen_ok, run_underlying hu, Instr.sureAddr, h0, hlt, and_self, if_true, run_sz hsz, addr_add]
          · rw [ec] at hrow
            obtain ⟨v1, v2, e2, h1, h2⟩ := repRow_split hrow
            simp only [T.rep, Cell.rep]
            refine ⟨b, _, v2, rfl, ?_, h2⟩
            have := At.sub (v1 := v1) (v2 := v2) (v3 := []) (by simpa [e2] using hat)
            simpa [repRow_length h1, hlen] using this
        · exact hk.elim
      · exact h.elim
    · rename_i k m ex
      split at h
      · rename_i n agg hel
        obtain ⟨h0, him, hk⟩ := h
        obtain ⟨e, hu, hsz, _⟩ := elT_spec hel
        refine ⟨_, OpP.of_val fun κ M ν ac w B' hB he hs => ?_, hk⟩
        have hr := ev_rep he hx ex
        have hiv := rep_int.1 (ev_rep he hi ei)
        simp only [T.rep, Cell.rep] at hr
        obtain ⟨b, hb, ep⟩ := hr
        refine ⟨.pointer (some ⟨b, i.toNat * n, none⟩), ?_, ?_⟩
        · rw [hex, ep, hiv]
          simp only [Instr.indexAt, asIntOf, Sem.run_bind, Sem.run_pure, Result.andThen_ok, run_underlying hu, h0, him, and_self, if_true, run_sz hsz, addr_add, Nat.zero_add]
        · simp only [T.rep, Cell.rep]
          exact ⟨b, hb, rfl⟩
      · exact h.elim
    · exact h.elim
  · exact h.elim

end Go.Sx
