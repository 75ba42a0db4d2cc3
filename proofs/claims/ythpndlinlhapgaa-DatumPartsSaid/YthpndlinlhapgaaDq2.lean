/- A part of the proof: lemmas about the walk of the program and about plain integers and lists. No conditions beyond those that each lemma states. -/
import Derived.Test.YthpndlinlhapgaaDq1
set_option linter.unusedVariables false
set_option linter.unusedSimpArgs false
namespace Go.Sx
variable {P : Program}
/-- the first n of a list, and the rest -/
def cutC {α : Type} : Nat → List α → Option (List α × List α)
  | 0, l => some ([], l)
  | n + 1, a :: l => match cutC n l with
    | some (x, y) => some (a :: x, y)
    | none => none
  | _ + 1, [] => none
theorem cutC_spec {α : Type} : ∀ {n : Nat} {l x y : List α}, cutC n l = some (x, y) → l = x ++ y ∧ x.length = n
  | 0, l, x, y, h => by simp only [cutC, Option.some.injEq, Prod.mk.injEq] at h; obtain ⟨rfl, rfl⟩ := h; exact ⟨rfl, rfl⟩
  | n + 1, [], x, y, h => by simp [cutC] at h
  | n + 1, a :: l, x, y, h => by
    simp only [cutC] at h
    split at h
    · rename_i x' y' hc
      simp only [Option.some.injEq, Prod.mk.injEq] at h
      obtain ⟨rfl, rfl⟩ := h
      obtain ⟨e, hl⟩ := cutC_spec hc
      exact ⟨by rw [e]; rfl, by simp [hl]⟩
    · cases h
def pureCs : List Cell → Option (List C)
  | [] => some []
  | .dat c :: cs => match pureCs cs with
    | some r => some (c :: r)
    | none => none
  | _ :: _ => none
theorem pureCs_spec : ∀ {cs : List Cell} {r : List C}, pureCs cs = some r → cs = r.map .dat
  | [], r, h => by simp only [pureCs, Option.some.injEq] at h; subst h; rfl
  | c :: cs, r, h => by
    cases c <;> simp only [pureCs] at h <;> try (cases h; done)
    split at h
    · rename_i r' hr
      simp only [Option.some.injEq] at h
      subst h
      rw [pureCs_spec hr]; rfl
    · cases h
def mkAgg (cs : List Cell) : T :=
  match pureCs cs with
  | some r => .st r
  | none => .agg cs
theorem mkAgg_rep {M : Mem} {ν : Nu} {cs : List Cell} {a : Array Value} (h : Cell.reps M ν cs a.toList) : (mkAgg cs).rep M ν (.agg a) := by
  unfold mkAgg
  split
  · rename_i r hr
    rw [pureCs_spec hr] at h
    simp only [T.rep]
    exact ⟨a, rfl, Cell.reps_map_c.1 h⟩
  · simp only [T.rep]
    exact ⟨a, rfl, h⟩
theorem At.sub {o : Option Obj} {off : Nat} {v1 v2 v3 : List Value} (h : At o off (v1 ++ (v2 ++ v3))) : At o (off + v1.length) v2 := by
  obtain ⟨c, et, fz, pre, post, e, e2, e3⟩ := h
  exact ⟨c, et, fz, pre ++ v1, v3 ++ post, e, by rw [e2]; simp, by simp [e3]⟩
theorem At.cell {w : World} {b off : Nat} {vs : List Value} (h : At (w.heap[b]?) off vs) {j : Nat} {v : Value} (hv : vs[j]? = some v) : w.cell? ((⟨b, off, none⟩ : Addr).add j) = some v := by
  obtain ⟨c, et, fz, pre, post, e, e2, e3⟩ := h
  have hc : c[off + j]? = some v := by
    rw [← Array.getElem?_toList, e2, ← e3, List.getElem?_append_right (by omega), List.getElem?_append_left (by
      have := (List.getElem?_eq_some_iff.1 hv).1; omega)]
    simpa using hv
  unfold Addr.add
  split
  · rename_i h0; subst h0; simpa [World.cell?, e] using hc
  · simpa [World.cell?, e] using hc
theorem At.load {w : World} {b off : Nat} {vs : List Value} (h : At (w.heap[b]?) off vs) : (loadCells ⟨b, off, none⟩ vs.length).run P w = .ok vs.toArray w :=
  run_loadCells_list w _ vs fun j v hv => h.cell hv
theorem At.one {w : World} {b off : Nat} {v : Value} {vs : List Value} (h : At (w.heap[b]?) off (v :: vs)) : (Go.load ⟨b, off, none⟩).run P w = .ok v w := by
  have := h.cell (j := 0) (v := v) (by simp)
  have : w.cell? ⟨b, off, none⟩ = some v := by simpa [Addr.add] using this
  simp [this]
theorem At.of_fro {κ : Kap} {M : Mem} {ν : Nu} {B : Bx} {w : World} (hs : Sat κ M ν B w) {b off : Nat} {vs : List Value} (h : At (M b) off vs) : At (w.heap[b]?) off vs := by
  obtain ⟨c, et, fz, pre, post, e, e2, e3⟩ := h
  exact ⟨c, et, fz, pre, post, hs.fro _ _ e, e2, e3⟩
theorem At.whole {o : Option Obj} {c : Array Value} {et : TypeId} {fz : Nat × Nat} (h : o = some (.cells c et fz)) : At o 0 c.toList :=
  ⟨c, et, fz, [], [], h, by simp, rfl⟩
/-- what a load of a type of this form and size gives of these cells -/
def takeT (agg : Bool) (n : Nat) (cs : List Cell) (K : T → Prop) : Prop :=
  bif agg then (match cutC n cs with
    | some (x, _) => K (mkAgg x)
    | none => False)
  else (match cs with
    | c :: _ => K (.one c)
    | [] => False)
def takeP (agg : Bool) (n : Nat) (r : List C) (K : T → Prop) : Prop :=
  bif agg then (match cutC n r with
    | some (x, _) => K (.st x)
    | none => False)
  else (match r with
    | c :: _ => K (.one (.dat c))
    | [] => False)
def vLoad (P : Program) (t : TypeId) (B : Bx) (x : Option T) (K : T → Prop) : Prop :=
  match szT P t, aggT P t with
  | some n, some agg => match x with
    | some (.one (.ref r)) => takeP agg n r K
    | some (.one (.ptr k off)) => match B.lookup k with
      | some (.cells cs) => match cutC off cs with
        | some (_, y) => takeT agg n y K
        | none => False
      | _ => False
    | some (.one (.rp k sz i f)) => match B.lookup k with
      | some (.row sz' rows) => sz' = sz ∧ ∃ r, rows[i]? = some r ∧ (match cutC f r with
        | some (_, y) => takeP agg n y K
        | none => False)
      | _ => False
    | _ => False
  | _, _ => False
theorem run_loadVar_agg {t n : Nat} {w : World} {b off : Nat} {vs : List Value} (ha : aggT P t = some true) (hn : szT P t = some n) (hl : vs.length = n) (h : At (w.heap[b]?) off vs) :
    (loadVar t ⟨b, off, none⟩).run P w = .ok (.agg vs.toArray) w := by
  subst hl
  simp only [loadVar, Sem.run_bind, run_agg ha, Result.andThen_ok, if_true, run_sz hn, h.load, Sem.run_pure]
theorem run_loadVar_one {t : Nat} {w : World} {b off : Nat} {v : Value} {vs : List Value} (ha : aggT P t = some false) (h : At (w.heap[b]?) off (v :: vs)) :
    (loadVar t ⟨b, off, none⟩).run P w = .ok v w := by
  simp only [loadVar, Sem.run_bind, run_agg ha, Result.andThen_ok, Bool.false_eq_true, if_false, h.one]
theorem takeT_sound {agg : Bool} {n : Nat} {cs : List Cell} {K : T → Prop} (h : takeT agg n cs K) :
    ∃ t, K t ∧ ∀ (ty : TypeId) (M : Mem) (ν : Nu) (w : World) (b off : Nat) (vs : List Value), aggT P ty = some agg → szT P ty = some n → Cell.reps M ν cs vs → At (w.heap[b]?) off vs →
      ∃ v, (loadVar ty ⟨b, off, none⟩).run P w = .ok v w ∧ t.rep M ν v := by
  unfold takeT at h
  cases agg with
  | true =>
    simp only [cond_true] at h
    split at h
    · rename_i x y hc
      obtain ⟨e, hl⟩ := cutC_spec hc
      refine ⟨_, h, fun ty M ν w b off vs ha hn hr hat => ?_⟩
      rw [e] at hr
      obtain ⟨v1, v2, e2, h1, h2⟩ := Cell.reps_split hr
      subst e2
      have hat' : At (w.heap[b]?) off v1 := by
        have := At.sub (v1 := []) (v2 := v1) (v3 := v2) (by simpa using hat)
        simpa using this
      exact ⟨_, run_loadVar_agg ha hn (by rw [Cell.reps_length h1, hl]) hat', mkAgg_rep (by simpa using h1)⟩
    · exact h.elim
  | false =>
    simp only [cond_false] at h
    split at h
    · rename_i c cs'
      refine ⟨_, h, fun ty M ν w b off vs ha hn hr hat => ?_⟩
      simp only [Cell.reps] at hr
      obtain ⟨v, vs', e, h1, h2⟩ := hr
      subst e
      exact ⟨v, run_loadVar_one ha hat, by simpa only [T.rep] using h1⟩
    · exact h.elim
theorem takeP_sound {agg : Bool} {n : Nat} {r : List C} {K : T → Prop} (h : takeP agg n r K) :
    ∃ t, K t ∧ ∀ (ty : TypeId) (M : Mem) (ν : Nu) (w : World) (b off : Nat) (vs : List Value), aggT P ty = some agg → szT P ty = some n → repRow M r vs → At (w.heap[b]?) off vs →
      ∃ v, (loadVar ty ⟨b, off, none⟩).run P w = .ok v w ∧ t.rep M ν v := by
  unfold takeP at h
  cases agg with
  | true =>
    simp only [cond_true] at h
    split at h
    · rename_i x y hc
      obtain ⟨e, hl⟩ := cutC_spec hc
      refine ⟨_, h, fun ty M ν w b off vs ha hn hr hat => ?_⟩
      rw [e] at hr
      obtain ⟨v1, v2, e2, h1, h2⟩ := repRow_split hr
      subst e2
      have hat' : At (w.heap[b]?) off v1 := by
        have := At.sub (v1 := []) (v2 := v1) (v3 := v2) (by simpa using hat)
        simpa using this
      refine ⟨_, run_loadVar_agg ha hn (by rw [repRow_length h1, hl]) hat', ?_⟩
      simp only [T.rep]
      exact ⟨_, rfl, by simpa using h1⟩
    · exact h.elim
  | false =>
    simp only [cond_false] at h
    split at h
    · rename_i c cs'
      refine ⟨_, h, fun ty M ν w b off vs ha hn hr hat => ?_⟩
      simp only [repRow] at hr
      obtain ⟨v, vs', e, h1, h2⟩ := hr
      subst e
      exact ⟨v, run_loadVar_one ha hat, by simpa only [T.rep, Cell.rep] using h1⟩
    · exact h.elim
theorem lookup_box {B : Bx} {k : Nat} {r : Res} (h : B.lookup k = some r) : (k, r) ∈ B := by
  induction B with
  | nil => simp at h
  | cons p B ih =>
    obtain ⟨e, u⟩ := p
    simp only [List.lookup_cons] at h
    by_cases he : k = e
    · subst he; simp at h; subst h; simp
    · have : (k == e) = false := by simpa using he
      rw [this] at h
      exact List.mem_cons_of_mem _ (ih h)
/-- the i-th row -/
theorem repRows_at {M : Mem} {sz : Nat} {rows : List (List C)} {vs : List Value} {i : Nat} {r : List C} (h : repRows M sz rows vs) (hi : rows[i]? = some r) :
    ∃ v1 v2 v3, vs = v1 ++ (v2 ++ v3) ∧ v1.length = i * sz ∧ repRow M r v2 ∧ r.length = sz := by
  have hlt := (List.getElem?_eq_some_iff.1 hi).1
  have hsplit : rows = rows.take i ++ (r :: rows.drop (i + 1)) := by
    have hr : rows[i] = r := (List.getElem?_eq_some_iff.1 hi).2
    rw [← hr, ← List.drop_eq_getElem_cons hlt, List.take_append_drop]
  rw [hsplit] at h
  obtain ⟨v1, v23, e, h1, h2⟩ := repRows_split h
  simp only [repRows] at h2
  obtain ⟨v2, v3, e2, hl, h3, h4⟩ := h2
  refine ⟨v1, v2, v3, by rw [e, e2], ?_, h3, hl⟩
  rw [repRows_length h1, List.length_take, Nat.min_eq_left (by omega)]
theorem vLoad_val {t : TypeId} {x : T} {B : Bx} {K : T → Prop} (h : vLoad P t B (some x) K) :
    ∃ u, K u ∧ ∀ κ M ν w B' v, (∀ x ∈ B, x ∈ B') → Sat κ M ν B' w → x.rep M ν v → ∃ a r, v = .pointer (some a) ∧ (loadVar t a).run P w = .ok r w ∧ u.rep M ν r := by
  unfold vLoad at h
  split at h
  · rename_i n agg hn ha
    split at h
    · rename_i r ex
      simp only [Option.some.injEq] at ex; subst ex
      obtain ⟨u, hk, hu⟩ := takeP_sound (P := P) h
      refine ⟨u, hk, fun κ M ν w B' val hB hs hr => ?_⟩
      simp only [T.rep, Cell.rep] at hr
      obtain ⟨b, off, vs, e, hat, hrow⟩ := hr
      obtain ⟨v, hl, hrep⟩ := hu t M ν w b off vs ha hn hrow (hat.of_fro hs)
      exact ⟨_, v, e, hl, hrep⟩
    · rename_i k off ex
      simp only [Option.some.injEq] at ex; subst ex
      split at h
      · rename_i cs hb
        split at h
        · rename_i pre y hc
          obtain ⟨ec, hlen⟩ := cutC_spec hc
          obtain ⟨u, hk, hu⟩ := takeT_sound (P := P) h
          refine ⟨u, hk, fun κ M ν w B' val hB hs hr => ?_⟩
          simp only [T.rep, Cell.rep] at hr
          obtain ⟨b, hb1, e⟩ := hr
          have hres := hs.res k _ (hB _ (lookup_box hb))
          simp only [Res.ok] at hres
          obtain ⟨b', c, et, hb2, hheap, hreps⟩ := hres
          rw [hb1] at hb2; cases hb2
          rw [ec] at hreps
          obtain ⟨v1, v2, e2, h1, h2⟩ := Cell.reps_split hreps
          have hat : At (w.heap[b]?) off v2 := by
            have := At.whole hheap
            rw [e2] at this
            have := At.sub (v1 := v1) (v2 := v2) (v3 := []) (by simpa using this)
            simpa [Cell.reps_length h1, hlen] using this
          obtain ⟨v, hl, hrep⟩ := hu t M ν w b off v2 ha hn h2 hat
          exact ⟨_, v, e, hl, hrep⟩
        · exact h.elim
      · exact h.elim
    · rename_i k sz i f ex
      simp only [Option.some.injEq] at ex; subst ex
      split at h
      · rename_i sz' rows hb
        obtain ⟨rfl, r, hi, h⟩ := h
        split at h
        · rename_i pre y hc
          obtain ⟨ec, hlen⟩ := cutC_spec hc
          obtain ⟨u, hk, hu⟩ := takeP_sound (P := P) h
          refine ⟨u, hk, fun κ M ν w B' val hB hs hr => ?_⟩
          simp only [T.rep, Cell.rep] at hr
          obtain ⟨b, hb1, e⟩ := hr
          have hres := hs.res k _ (hB _ (lookup_box hb))
          simp only [Res.ok] at hres
          obtain ⟨_, _, hres⟩ := hres
          rcases hres with ⟨hnone, _⟩ | ⟨b', c, et, mid, post, hb2, hheap, htl, hrows, _⟩
          · rw [hb1] at hnone; cases hnone
          · rw [hb1] at hb2; cases hb2
            obtain ⟨v1, v2, v3, e3, hl3, hrow, hrl⟩ := repRows_at hrows hi
            rw [ec] at hrow
            obtain ⟨x1, x2, e4, h41, h42⟩ := repRow_split hrow
            have hat : At (w.heap[b]?) (i * sz' + f) x2 := by
              have h0 := At.whole hheap
              rw [htl, e3, e4] at h0
              have := At.sub (v1 := v1 ++ x1) (v2 := x2) (v3 := v3 ++ post) (by simpa using h0)
              simpa [hl3, repRow_length h41, hlen] using this
            obtain ⟨v, hl, hrep⟩ := hu t M ν w b _ x2 ha hn h42 hat
            exact ⟨_, v, e, hl, hrep⟩
        · exact h.elim
      · exact h.elim
    · exact h.elim
  · exact h.elim
theorem vLoad_sound {t : TypeId} {x : Operand} {ty : TypeId} {env : Env} {B : Bx} {o : Oper} {K : T → Prop} (ho : o.op = .load t x)
    (h : vLoad P t B (ev P env ty x) K) : ∃ u, OpP P o env B u ∧ K u := by
  have hx : x ∈ o.op.operands := by rw [ho]; simp [Op.operands]
  cases hxe : ev P env ty x with
  | none =>
    rw [hxe] at h
    unfold vLoad at h
    split at h
    · exact h.elim
    · exact h.elim
  | some xt =>
    rw [hxe] at h
    obtain ⟨u, hk, hu⟩ := vLoad_val h
    refine ⟨u, OpP.of_val fun κ M ν ac w B' hB he hs => ?_, hk⟩
    obtain ⟨a, r, e, hl, hr⟩ := hu κ M ν w B' _ hB hs (ev_rep he hx hxe)
    refine ⟨r, ?_, hr⟩
    unfold execOp
    rw [ho]
    simp only [Sem.run_bind, Instr.loadAt, e, Instr.sureAddr, Sem.run_pure, Result.andThen_ok, hl]
def vFieldAddr (P : Program) (s f : Nat) (x : Option T) (K : T → Prop) : Prop :=
  match fldT P s f with
  | some (off, _, _) => match x with
    | some (.one (.ref r)) => match cutC off r with
      | some (_, y) => K (.one (.ref y))
      | none => False
    | some (.one (.ptr k o)) => K (.one (.ptr k (o + off)))
    | some (.one (.rp k sz i g)) => K (.one (.rp k sz i (g + off)))
    | _ => False
  | none => False
theorem addr_add (b off n : Nat) : (⟨b, off, none⟩ : Addr).add n = ⟨b, off + n, none⟩ := by
  unfold Addr.add
  split
  · rename_i h; subst h; rfl
  · rfl
theorem vFieldAddr_sound {s f : Nat} {x : Operand} {ty : TypeId} {env : Env} {B : Bx} {o : Oper} {K : T → Prop} (ho : o.op = .fieldAddr s x f)
    (h : vFieldAddr P s f (ev P env ty x) K) : ∃ u, OpP P o env B u ∧ K u := by
  have hx : x ∈ o.op.operands := by rw [ho]; simp [Op.operands]
  unfold vFieldAddr at h
  split at h
  · rename_i off n agg hf
    obtain ⟨fs, fd, hu, hfd, hoff, hsz, _, hn⟩ := fldT_spec hf
    have hrun : ∀ (a : Act) (w : World) (b o' : Nat), a.eval x = .pointer (some ⟨b, o', none⟩) → (execOp a.eval o).run P w = .ok (.value (.pointer (some ⟨b, o' + off, none⟩))) w := by
      intro a w b o' e
      unfold execOp
      rw [ho]
      simp only [Sem.run_bind, Instr.fieldAt, e, Instr.sureAddr, Sem.run_pure, Result.andThen_ok, run_underlying hu, hfd, fieldPlace, run_sz hsz, hn, if_false, hoff, addr_add]
    split at h
    · rename_i r ex
      split at h
      · rename_i pre y hc
        obtain ⟨ec, hlen⟩ := cutC_spec hc
        refine ⟨_, OpP.of_val fun κ M ν ac w B' hB he hs => ?_, h⟩
        have hr := ev_rep he hx ex
        simp only [T.rep, Cell.rep] at hr
        obtain ⟨b, o', vs, e, hat, hrow⟩ := hr
        refine ⟨_, hrun _ _ _ _ e, ?_⟩
        rw [ec] at hrow
        obtain ⟨v1, v2, e2, h1, h2⟩ := repRow_split hrow
        simp only [T.rep, Cell.rep]
        refine ⟨b, o' + off, v2, rfl, ?_, h2⟩
        have := At.sub (v1 := v1) (v2 := v2) (v3 := []) (by simpa [e2] using hat)
        simpa [repRow_length h1, hlen] using this
      · exact h.elim
    · rename_i k o' ex
      refine ⟨_, OpP.of_val fun κ M ν ac w B' hB he hs => ?_, h⟩
      have hr := ev_rep he hx ex
      simp only [T.rep, Cell.rep] at hr
      obtain ⟨b, hb, e⟩ := hr
      refine ⟨_, hrun _ _ _ _ e, ?_⟩
      simp only [T.rep, Cell.rep]
      exact ⟨b, hb, rfl⟩
    · rename_i k sz i g ex
      refine ⟨_, OpP.of_val fun κ M ν ac w B' hB he hs => ?_, h⟩
      have hr := ev_rep he hx ex
      simp only [T.rep, Cell.rep] at hr
      obtain ⟨b, hb, e⟩ := hr
      refine ⟨_, hrun _ _ _ _ e, ?_⟩
      simp only [T.rep, Cell.rep]
      exact ⟨b, hb, by rw [Nat.add_assoc]⟩
    · exact h.elim
  · exact h.elim
def vIndexAddr (P : Program) (t : TypeId) (B : Bx) (x ix : Option T) (K : T → Prop) : Prop :=
  match ix with
  | some (.one (.dat (.int _ i))) => match x with
    | some (.one (.dat (.sl sz rows))) => match elT P t with
      | some (n, _) => n = sz ∧ 0 ≤ i ∧ ∃ r, rows[i.toNat]? = some r ∧ K (.one (.ref r))
      | none => False
    | some (.one (.own k m)) => match elT P t, B.lookup k with
      | some (n, _), some (.row sz rows) => sz = n ∧ m ≤ rows.length ∧ 0 ≤ i ∧ i < m ∧ K (.one (.rp k n i.toNat 0))
      | _, _ => False
    | some (.one (.ptr k off)) => match arT P t with
      | some (len, n, _) => 0 ≤ i ∧ i < len ∧ K (.one (.ptr k (off + i.toNat * n)))
      | none => False
    | some (.one (.ref r)) => match arT P t with
      | some (len, n, _) => 0 ≤ i ∧ i < len ∧ (match cutC (i.toNat * n) r with
        | some (_, y) => K (.one (.ref y))
        | none => False)
      | none => False
    | some (.one (.arr k m)) => match elT P t with
      | some (n, _) => 0 ≤ i ∧ i < m ∧ K (.one (.ptr k (i.toNat * n)))
      | none => False
    | _ => False
  | _ => False
theorem vIndexAddr_sound {t : TypeId} {x ix : Operand} {tx ti : TypeId} {env : Env} {B : Bx} {o : Oper} {K : T → Prop} (ho : o.op = .indexAddr t x ix)
    (h : vIndexAddr P t B (ev P env tx x) (ev P env ti ix) K) : ∃ u, OpP P o env B u ∧ K u := by
  have hx : x ∈ o.op.operands := by rw [ho]; simp [Op.operands]
  have hi : ix ∈ o.op.operands := by rw [ho]; simp [Op.operands]
  have hex : ∀ (a : Act) (w : World), (execOp a.eval o).run P w = ((Instr.indexAt t (a.eval x) (a.eval ix)).run P w).andThen fun v w => .ok (.value v) w := by
    intro a w
    unfold execOp
    rw [ho]
    simp only [Sem.run_bind, Sem.run_pure]
  unfold vIndexAddr at h
  split at h
  · rename_i k0 i ei
    split at h
    · rename_i sz rows ex
      split at h
      · rename_i n agg hel
        obtain ⟨rfl, h0, r, hri, hk⟩ := h
        obtain ⟨e, hu, hsz, _⟩ := elT_spec hel
        refine ⟨_, OpP.of_val fun κ M ν ac w B' hB he hs => ?_, hk⟩
        have hr := ev_rep he hx ex
        have hiv := rep_int.1 (ev_rep he hi ei)
        simp only [T.rep, Cell.rep, C.rep] at hr
        obtain ⟨a, cap, mid, ev, hc1, hc2, hrows, hor⟩ := hr
        have hlt := (List.getElem?_eq_some_iff.1 hri).1
        rcases hor with hnil | ⟨b, off, ea, hat⟩
        · subst hnil; simp at hlt
        · subst ea
          refine ⟨.pointer (some ⟨b, off + i.toNat * n, none⟩), ?_, ?_⟩
          · rw [hex, ev, hiv]
            have hlt' : i < (rows.length : Int) := by omega
            simp only [Instr.indexAt, asIntOf, Sem.run_bind, Sem.run_pure, Result.andThen_ok, run_underlying hu, h0, hlt', and_self, if_true, run_sz hsz, addr_add]
          · obtain ⟨v1, v2, v3, e3, hl3, hrow, _⟩ := repRows_at hrows hri
            simp only [T.rep, Cell.rep]
            refine ⟨b, _, v2, rfl, ?_, hrow⟩
            have := At.sub (v1 := v1) (v2 := v2) (v3 := v3) (by rw [← e3]; exact hat)
            simpa [hl3] using this
      · exact h.elim
    · rename_i k m ex
      split at h
      · rename_i n agg sz rows hel hb
        obtain ⟨rfl, hm, h0, him, hk⟩ := h
        obtain ⟨e, hu, hsz, _⟩ := elT_spec hel
        refine ⟨_, OpP.of_val fun κ M ν ac w B' hB he hs => ?_, hk⟩
        have hr := ev_rep he hx ex
        have hiv := rep_int.1 (ev_rep he hi ei)
        simp only [T.rep, Cell.rep] at hr
        have hres := hs.res k _ (hB _ (lookup_box hb))
        simp only [Res.ok] at hres
        obtain ⟨hc1, hc2, hres⟩ := hres
        rcases hres with ⟨hnone, hc0⟩ | ⟨b', c, et, mid, post, hb2, hheap, htl, hrows, _⟩
        · exfalso; omega
        · refine ⟨.pointer (some ⟨b', i.toNat * sz, none⟩), ?_, ?_⟩
          · rw [hex, hr, hiv, hb2]
            simp only [Instr.indexAt, asIntOf, Sem.run_bind, Sem.run_pure, Result.andThen_ok, run_underlying hu, h0, him, and_self, if_true, run_sz hsz, addr_add, Option.map_some, Nat.zero_add]
          · simp only [T.rep, Cell.rep]
            exact ⟨b', hb2, by simp⟩
      · exact h.elim
    · rename_i k off ex
      split at h
      · rename_i len n agg har
        obtain ⟨h0, hlt, hk⟩ := h
        obtain ⟨e, hu, hsz, _⟩ := arT_spec har
        refine ⟨_, OpP.of_val fun κ M ν ac w B' hB he hs => ?_, hk⟩
        have hr := ev_rep he hx ex
        have hiv := rep_int.1 (ev_rep he hi ei)
        simp only [T.rep, Cell.rep] at hr
        obtain ⟨b, hb, ep⟩ := hr
        refine ⟨.pointer (some ⟨b, off + i.toNat * n, none⟩), ?_, ?_⟩
        · rw [hex, ep, hiv]
          simp only [Instr.indexAt, asIntOf, Sem.run_bind, Sem.run_pure, Result.andThen_ok, run_underlying hu, Instr.sureAddr, h0, hlt, and_self, if_true, run_sz hsz, addr_add]
        · simp only [T.rep, Cell.rep]
          exact ⟨b, hb, rfl⟩
      · exact h.elim
    · rename_i r ex
      split at h
      · rename_i len n agg har
        obtain ⟨h0, hlt, hk⟩ := h
        obtain ⟨e, hu, hsz, _⟩ := arT_spec har
        split at hk
        · rename_i pre y hc
          obtain ⟨ec, hlen⟩ := cutC_spec hc
          refine ⟨_, OpP.of_val fun κ M ν ac w B' hB he hs => ?_, hk⟩
          have hr := ev_rep he hx ex
          have hiv := rep_int.1 (ev_rep he hi ei)
          simp only [T.rep, Cell.rep] at hr
          obtain ⟨b, o', vs, ep, hat, hrow⟩ := hr
          refine ⟨.pointer (some ⟨b, o' + i.toNat * n, none⟩), ?_, ?_⟩
          · rw [hex, ep, hiv]
            simp only [Instr.indexAt, asIntOf, Sem.run_bind, Sem.run_pure, Result.andThen_ok, run_underlying hu, Instr.sureAddr, h0, hlt, and_self, if_true, run_sz hsz, addr_add]
          · rw [ec] at hrow
            obtain ⟨v1, v2, e2, h1, h2⟩ := repRow_split hrow
            simp only [T.rep, Cell.rep]
            refine ⟨b, _, v2, rfl, ?_, h2⟩
            have := At.sub (v1 := v1) (v2 := v2) (v3 := []) (by simpa [e2] using hat)
            simpa [repRow_length h1, hlen] using this
        · exact hk.elim
      · exact h.elim
    · rename_i k m ex
      split at h
      · rename_i n agg hel
        obtain ⟨h0, him, hk⟩ := h
        obtain ⟨e, hu, hsz, _⟩ := elT_spec hel
        refine ⟨_, OpP.of_val fun κ M ν ac w B' hB he hs => ?_, hk⟩
        have hr := ev_rep he hx ex
        have hiv := rep_int.1 (ev_rep he hi ei)
        simp only [T.rep, Cell.rep] at hr
        obtain ⟨b, hb, ep⟩ := hr
        refine ⟨.pointer (some ⟨b, i.toNat * n, none⟩), ?_, ?_⟩
        · rw [hex, ep, hiv]
          simp only [Instr.indexAt, asIntOf, Sem.run_bind, Sem.run_pure, Result.andThen_ok, run_underlying hu, h0, him, and_self, if_true, run_sz hsz, addr_add, Nat.zero_add]
        · simp only [T.rep, Cell.rep]
          exact ⟨b, hb, rfl⟩
      · exact h.elim
    · exact h.elim
  · exact h.elim
theorem exec_v {o : Oper} {a : Act} {w w' : World} {s : Sem Value} {v : Value} (ho : execOp a.eval o = (do pure (.value (← s)))) (h : s.run P w = .ok v w') : (execOp a.eval o).run P w = .ok (.value v) w' := by
  rw [ho]
  simp only [Sem.run_bind, Sem.run_pure, h, Result.andThen_ok]
def vIndex (P : Program) (t : TypeId) (x ix : Option T) (K : T → Prop) : Prop :=
  match x, ix with
  | some (.one (.dat (.str l))), some (.one (.dat (.int _ i))) => kdT P t = some .str ∧ 0 ≤ i ∧ ∃ b, l[i.toNat]? = some b ∧ K (I .u8 b.toNat)
  | some (.st r), some (.one (.dat (.int _ i))) => match arT P t with
    | some (len, n, agg) => 0 ≤ i ∧ i < len ∧ (match cutC (i.toNat * n) r with
      | some (_, y) => takeP agg n y K
      | none => False)
    | none => False
  | _, _ => False
theorem extract_mid {vs : Array Value} {v1 v2 v3 : List Value} {off n : Nat} (h : vs.toList = v1 ++ (v2 ++ v3)) (h1 : v1.length = off) (h2 : v2.length = n) : vs.extract off (off + n) = v2.toArray := by
  apply Array.ext'
  rw [Array.toList_extract, List.extract_eq_take_drop, h, ← h1, List.drop_left, Nat.add_sub_cancel_left, ← h2, List.take_left]
theorem part_P {agg : Bool} {n : Nat} {r : List C} {K : T → Prop} (h : takeP agg n r K) :
    ∃ t, K t ∧ ∀ (ty : TypeId) (M : Mem) (ν : Nu) (w : World) (vs : Array Value) (off : Nat) (v1 v2 : List Value), aggT P ty = some agg → szT P ty = some n → vs.toList = v1 ++ v2 → v1.length = off → repRow M r v2 →
      ∃ v, (part ty vs off).run P w = .ok v w ∧ t.rep M ν v := by
  unfold takeP at h
  cases agg with
  | true =>
    simp only [cond_true] at h
    split at h
    · rename_i x y hc
      obtain ⟨e, hl⟩ := cutC_spec hc
      refine ⟨_, h, fun ty M ν w vs off v1 v2 ha hn hvs hoff hr => ?_⟩
      rw [e] at hr
      obtain ⟨x1, x2, e2, h1, h2⟩ := repRow_split hr
      refine ⟨.agg (vs.extract off (off + n)), by simp only [part, Sem.run_bind, run_agg ha, Result.andThen_ok, if_true, run_sz hn, Sem.run_pure], ?_⟩
      rw [extract_mid (v1 := v1) (v2 := x1) (v3 := x2) (by rw [hvs, e2]) hoff (by rw [repRow_length h1, hl])]
      simp only [T.rep]
      exact ⟨_, rfl, by simpa using h1⟩
    · exact h.elim
  | false =>
    simp only [cond_false] at h
    split at h
    · rename_i c cs'
      refine ⟨_, h, fun ty M ν w vs off v1 v2 ha hn hvs hoff hr => ?_⟩
      simp only [repRow] at hr
      obtain ⟨v, vs', e, h1, h2⟩ := hr
      have hv : vs[off]? = some v := by
        rw [← Array.getElem?_toList, hvs, List.getElem?_append_right (by omega), e, ← hoff]; simp
      refine ⟨v, by simp only [part, Sem.run_bind, run_agg ha, Result.andThen_ok, Bool.false_eq_true, if_false, hv, Sem.run_pure], ?_⟩
      simp only [T.rep, Cell.rep]; exact h1
    · exact h.elim
theorem part_T {agg : Bool} {n : Nat} {r : List Cell} {K : T → Prop} (h : takeT agg n r K) :
    ∃ t, K t ∧ ∀ (ty : TypeId) (M : Mem) (ν : Nu) (w : World) (vs : Array Value) (off : Nat) (v1 v2 : List Value), aggT P ty = some agg → szT P ty = some n → vs.toList = v1 ++ v2 → v1.length = off → Cell.reps M ν r v2 →
      ∃ v, (part ty vs off).run P w = .ok v w ∧ t.rep M ν v := by
  unfold takeT at h
  cases agg with
  | true =>
    simp only [cond_true] at h
    split at h
    · rename_i x y hc
      obtain ⟨e, hl⟩ := cutC_spec hc
      refine ⟨_, h, fun ty M ν w vs off v1 v2 ha hn hvs hoff hr => ?_⟩
      rw [e] at hr
      obtain ⟨x1, x2, e2, h1, h2⟩ := Cell.reps_split hr
      refine ⟨.agg (vs.extract off (off + n)), by simp only [part, Sem.run_bind, run_agg ha, Result.andThen_ok, if_true, run_sz hn, Sem.run_pure], ?_⟩
      rw [extract_mid (v1 := v1) (v2 := x1) (v3 := x2) (by rw [hvs, e2]) hoff (by rw [Cell.reps_length h1, hl])]
      exact mkAgg_rep (by simpa using h1)
    · exact h.elim
  | false =>
    simp only [cond_false] at h
    split at h
    · rename_i c cs'
      refine ⟨_, h, fun ty M ν w vs off v1 v2 ha hn hvs hoff hr => ?_⟩
      simp only [Cell.reps] at hr
      obtain ⟨v, vs', e, h1, h2⟩ := hr
      have hv : vs[off]? = some v := by
        rw [← Array.getElem?_toList, hvs, List.getElem?_append_right (by omega), e, ← hoff]; simp
      refine ⟨v, by simp only [part, Sem.run_bind, run_agg ha, Result.andThen_ok, Bool.false_eq_true, if_false, hv, Sem.run_pure], ?_⟩
      simp only [T.rep]; exact h1
    · exact h.elim
theorem vIndex_sound {t : TypeId} {x ix : Operand} {tx ti : TypeId} {env : Env} {B : Bx} {o : Oper} {K : T → Prop} (ho : o.op = .index t x ix)
    (h : vIndex P t (ev P env tx x) (ev P env ti ix) K) : ∃ u, OpP P o env B u ∧ K u := by
  have hx : x ∈ o.op.operands := by rw [ho]; simp [Op.operands]
  have hi : ix ∈ o.op.operands := by rw [ho]; simp [Op.operands]
  have hex : ∀ (a : Act), execOp a.eval o = (do pure (.value (← Instr.index t (a.eval x) (a.eval ix)))) := by
    intro a; unfold execOp; rw [ho]
  unfold vIndex at h
  split at h
  · rename_i l k0 i ex ei
    obtain ⟨hk, h0, b, hb, hK⟩ := h
    refine ⟨_, OpP.of_val fun κ M ν ac w B' hB he hs => ⟨_, exec_v (hex ac) ?_, rep_int.2 rfl⟩, hK⟩
    have e1 := rep_str.1 (ev_rep he hx ex)
    have e2 := rep_int.1 (ev_rep he hi ei)
    rw [e1, e2]
    have hb' : (ByteArray.mk l.toArray)[i.toNat]? = some b := by
      have hlt := (List.getElem?_eq_some_iff.1 hb).1
      have hb2 := (List.getElem?_eq_some_iff.1 hb).2
      have hsz : i.toNat < (ByteArray.mk l.toArray).size := by rw [size_mk]; exact hlt
      rw [getElem?_pos (ByteArray.mk l.toArray) i.toNat hsz]
      congr 1
    simp only [Instr.index, asIntOf, Sem.run_bind, Sem.run_pure, Result.andThen_ok, run_underlying (kdT_str hk), h0, if_true, hb']
  · rename_i r k0 i ex ei
    split at h
    · rename_i len n agg har
      obtain ⟨h0, hlt, h⟩ := h
      obtain ⟨e, hu, hsz, hag⟩ := arT_spec har
      split at h
      · rename_i pre y hc
        obtain ⟨ec, hlen⟩ := cutC_spec hc
        obtain ⟨u, hk, hp⟩ := part_P (P := P) h
        refine ⟨u, OpP.of_val fun κ M ν ac w B' hB he hs => ?_, hk⟩
        have hr := ev_rep he hx ex
        have hiv := rep_int.1 (ev_rep he hi ei)
        simp only [T.rep] at hr
        obtain ⟨vs, ev, hrow⟩ := hr
        rw [ec] at hrow
        obtain ⟨v1, v2, e2, h1, h2⟩ := repRow_split hrow
        obtain ⟨v, hv, hrep⟩ := hp e M ν w vs (i.toNat * n) v1 v2 hag hsz e2 (by rw [repRow_length h1, hlen]) h2
        refine ⟨v, exec_v (hex ac) ?_, hrep⟩
        rw [ev, hiv]
        simp only [Instr.index, asIntOf, Sem.run_bind, Sem.run_pure, Result.andThen_ok, run_underlying hu, h0, hlt, and_self, if_true, run_sz hsz, hv]
      · exact h.elim
    · exact h.elim
  · exact h.elim
def vField (P : Program) (s f : Nat) (x : Option T) (K : T → Prop) : Prop :=
  match fldT P s f with
  | some (off, n, agg) => match x with
    | some (.st r) => match cutC off r with
      | some (_, y) => takeP agg n y K
      | none => False
    | some (.agg r) => match cutC off r with
      | some (_, y) => takeT agg n y K
      | none => False
    | _ => False
  | none => False
theorem vField_sound {s f : Nat} {x : Operand} {ty : TypeId} {env : Env} {B : Bx} {o : Oper} {K : T → Prop} (ho : o.op = .field s x f)
    (h : vField P s f (ev P env ty x) K) : ∃ u, OpP P o env B u ∧ K u := by
  have hx : x ∈ o.op.operands := by rw [ho]; simp [Op.operands]
  have hex : ∀ (a : Act), execOp a.eval o = (do pure (.value (← Instr.field s (a.eval x) f))) := by
    intro a; unfold execOp; rw [ho]
  unfold vField at h
  split at h
  · rename_i off n agg hf
    obtain ⟨fs, fd, hu, hfd, hoff, hsz, hag, hn⟩ := fldT_spec hf
    split at h
    · rename_i r ex
      split at h
      · rename_i pre y hc
        obtain ⟨ec, hlen⟩ := cutC_spec hc
        obtain ⟨u, hk, hp⟩ := part_P (P := P) h
        refine ⟨u, OpP.of_val fun κ M ν ac w B' hB he hs => ?_, hk⟩
        have hr := ev_rep he hx ex
        simp only [T.rep] at hr
        obtain ⟨vs, ev, hrow⟩ := hr
        rw [ec] at hrow
        obtain ⟨v1, v2, e2, h1, h2⟩ := repRow_split hrow
        obtain ⟨v, hv, hrep⟩ := hp fd.type M ν w vs off v1 v2 hag hsz e2 (by rw [repRow_length h1, hlen]) h2
        refine ⟨v, exec_v (hex ac) ?_, hrep⟩
        rw [ev]
        simp only [Instr.field, asAgg, Sem.run_bind, Sem.run_pure, Result.andThen_ok, run_underlying hu, hfd, hoff, hv]
      · exact h.elim
    · rename_i r ex
      split at h
      · rename_i pre y hc
        obtain ⟨ec, hlen⟩ := cutC_spec hc
        obtain ⟨u, hk, hp⟩ := part_T (P := P) h
        refine ⟨u, OpP.of_val fun κ M ν ac w B' hB he hs => ?_, hk⟩
        have hr := ev_rep he hx ex
        simp only [T.rep] at hr
        obtain ⟨vs, ev, hrow⟩ := hr
        rw [ec] at hrow
        obtain ⟨v1, v2, e2, h1, h2⟩ := Cell.reps_split hrow
        obtain ⟨v, hv, hrep⟩ := hp fd.type M ν w vs off v1 v2 hag hsz e2 (by rw [Cell.reps_length h1, hlen]) h2
        refine ⟨v, exec_v (hex ac) ?_, hrep⟩
        rw [ev]
        simp only [Instr.field, asAgg, Sem.run_bind, Sem.run_pure, Result.andThen_ok, run_underlying hu, hfd, hoff, hv]
      · exact h.elim
    · exact h.elim
  · exact h.elim
def vExtract (x : Option T) (i : Nat) (K : T → Prop) : Prop :=
  match x with
  | some (.tup ts) => match ts[i]? with
    | some t => K t
    | none => False
  | _ => False
theorem T.reps_at {M : Mem} {ν : Nu} : ∀ {ts : List T} {vs : List Value} {i : Nat} {t : T}, T.reps M ν ts vs → ts[i]? = some t → ∃ v, vs[i]? = some v ∧ t.rep M ν v
  | [], vs, i, t, h, hi => by simp at hi
  | u :: ts, vs, i, t, h, hi => by
    simp only [T.reps] at h
    obtain ⟨v, vs', e, h1, h2⟩ := h
    subst e
    cases i with
    | zero => simp at hi; subst hi; exact ⟨v, by simp, h1⟩
    | succ i => obtain ⟨v', hv, hr⟩ := T.reps_at h2 (by simpa using hi); exact ⟨v', by simpa using hv, hr⟩
theorem vExtract_sound {x : Operand} {i : Nat} {ty : TypeId} {env : Env} {B : Bx} {o : Oper} {K : T → Prop} (ho : o.op = .extract x i)
    (h : vExtract (ev P env ty x) i K) : ∃ u, OpP P o env B u ∧ K u := by
  have hx : x ∈ o.op.operands := by rw [ho]; simp [Op.operands]
  have hex : ∀ (a : Act), execOp a.eval o = (do pure (.value (← Instr.extract (a.eval x) i))) := by
    intro a; unfold execOp; rw [ho]
  unfold vExtract at h
  split at h
  · rename_i ts ex
    split at h
    · rename_i t ht
      refine ⟨t, OpP.of_val fun κ M ν ac w B' hB he hs => ?_, h⟩
      have hr := ev_rep he hx ex
      simp only [T.rep] at hr
      obtain ⟨vs, ev, hts⟩ := hr
      obtain ⟨v, hv, hrep⟩ := T.reps_at hts ht
      refine ⟨v, exec_v (hex ac) ?_, hrep⟩
      rw [ev]
      simp [Instr.extract, hv]
    · exact h.elim
  · exact h.elim
def bnd (d : Int) (x : Option (Option T)) : Option Int :=
  match x with
  | none => some d
  | some (some (.one (.dat (.int _ i)))) => some i
  | _ => none
def vSlice (P : Program) (t : TypeId) (x : Option T) (lo hi : Option (Option T)) (K : T → Prop) : Prop :=
  match x with
  | some (.one (.dat (.str l))) => match bnd 0 lo, bnd l.length hi with
    | some i, some j => kdT P t = some .str ∧ 0 ≤ i ∧ i ≤ j ∧ j ≤ l.length ∧ K (S ((l.take j.toNat).drop i.toNat))
    | _, _ => False
  | some (.one (.dat (.sl sz rows))) => match elT P t, bnd 0 lo, bnd rows.length hi with
    | some (n, _), some i, some j => n = sz ∧ 0 ≤ i ∧ i ≤ j ∧ j ≤ rows.length ∧ K (.one (.dat (.sl sz ((rows.take j.toNat).drop i.toNat))))
    | _, _, _ => False
  | _ => False
theorem bnd_run {M : Mem} {ν : Nu} {a : Act} {env : Env} {o : Oper} {lo : Option Operand} {ti : TypeId} {d i : Int} (he : EnvOn M ν a env o) (hlo : ∀ x, lo = some x → x ∈ o.op.operands)
    (h : bnd d (lo.map (ev P env ti)) = some i) : (lo = none ∧ i = d) ∨ ∃ x k, lo = some x ∧ a.eval x = .int k i := by
  cases lo with
  | none => simp only [bnd, Option.map_none, Option.some.injEq] at h; exact .inl ⟨rfl, h.symm⟩
  | some x =>
    simp only [bnd, Option.map_some] at h
    split at h
    · rename_i e; cases e
    · rename_i k j e
      simp only [Option.some.injEq] at h e
      subst h
      exact .inr ⟨x, k, rfl, rep_int.1 (ev_rep he (hlo x rfl) e)⟩
    · cases h
theorem run_bounds {isSlice : Bool} {len cap : Nat} {lo hi : Option Value} {i j : Int} (w : World) (hlo : (lo = none ∧ i = 0) ∨ ∃ k, lo = some (.int k i)) (hhi : (hi = none ∧ j = len) ∨ ∃ k, hi = some (.int k j))
    (h0 : 0 ≤ i) (hij : i ≤ j) (hj : j ≤ cap) : (Instr.sliceBounds isSlice len cap lo hi none).run P w = .ok (i.toNat, j.toNat, cap) w := by
  have e : ((j.toNat : Nat) : Int) = j := Int.toNat_of_nonneg (by omega)
  unfold Instr.sliceBounds
  rcases hhi with ⟨rfl, rfl⟩ | ⟨k, rfl⟩ <;> rcases hlo with ⟨rfl, rfl⟩ | ⟨k', rfl⟩
  · simp
  · simp only [Sem.run_bind, Sem.run_pure, Result.andThen_ok, Instr.sliceBound, asIntOf]
    simp [h0, hij]
  · simp only [Sem.run_bind, Sem.run_pure, Result.andThen_ok, Instr.sliceBound, asIntOf]
    simp [(by omega : 0 ≤ j), hj]
  · simp only [Sem.run_bind, Sem.run_pure, Result.andThen_ok, Instr.sliceBound, asIntOf]
    simp [(by omega : 0 ≤ j), hj, h0, hij, e]
theorem extract_mk (l : List UInt8) (i j : Nat) : (ByteArray.mk l.toArray).extract i j = ByteArray.mk ((l.take j).drop i).toArray := by
  apply ByteArray.ext
  simp [ByteArray.data_extract, List.extract_eq_take_drop, List.drop_take]
theorem vSlice_sound {t : TypeId} {x : Operand} {lo hi : Option Operand} {tx ti : TypeId} {env : Env} {B : Bx} {o : Oper} {K : T → Prop} (ho : o.op = .slice t x lo hi none)
    (h : vSlice P t (ev P env tx x) (lo.map (ev P env ti)) (hi.map (ev P env ti)) K) : ∃ u, OpP P o env B u ∧ K u := by
  have hx : x ∈ o.op.operands := by rw [ho]; simp [Op.operands]
  have hlo : ∀ y, lo = some y → y ∈ o.op.operands := by intro y e; rw [ho, e]; simp [Op.operands]
  have hhi : ∀ y, hi = some y → y ∈ o.op.operands := by intro y e; rw [ho, e]; cases lo <;> simp [Op.operands]
  have hex : ∀ (a : Act), execOp a.eval o = (do pure (.value (← Instr.sliceAt t (a.eval x) (lo.map a.eval) (hi.map a.eval) none))) := by
    intro a; unfold execOp; rw [ho]; rfl
  have conv : ∀ {M : Mem} {ν : Nu} {a : Act} {d i : Int} {y : Option Operand}, EnvOn M ν a env o → (∀ z, y = some z → z ∈ o.op.operands) → bnd d (y.map (ev P env ti)) = some i → (y.map a.eval = none ∧ i = d) ∨ ∃ k, y.map a.eval = some (.int k i) := by
    intro M ν a d i y he hy hb
    rcases bnd_run he hy hb with ⟨rfl, e⟩ | ⟨z, k, rfl, e⟩
    · exact .inl ⟨rfl, e⟩
    · exact .inr ⟨k, by simp [e]⟩
  unfold vSlice at h
  split at h
  · rename_i l ex
    split at h
    · rename_i i j ei ej
      obtain ⟨hk, h0, hij, hj, hK⟩ := h
      refine ⟨_, OpP.of_val fun κ M ν ac w B' hB he hs => ⟨_, exec_v (hex ac) ?_, rep_str.2 rfl⟩, hK⟩
      have e1 := rep_str.1 (ev_rep he hx ex)
      have hu := kdT_str hk
      rw [e1]
      have hb := run_bounds (P := P) (isSlice := false) (len := l.length) (cap := l.length) w (conv he hlo ei) (conv he hhi ej) h0 hij hj
      simp only [Instr.sliceAt, Sem.run_bind, run_underlying hu, Result.andThen_ok, Instr.slice, Option.isSome_none, Bool.false_eq_true, if_false, size_mk, hb, Sem.run_pure, extract_mk]
    · exact h.elim
  · rename_i sz rows ex
    split at h
    · rename_i n agg i j hel ei ej
      obtain ⟨rfl, h0, hij, hj, hK⟩ := h
      obtain ⟨e, hu, hsz, _⟩ := elT_spec hel
      refine ⟨_, OpP.of_val fun κ M ν ac w B' hB he hs => ?_, hK⟩
      have hr := ev_rep he hx ex
      simp only [T.rep, Cell.rep, C.rep] at hr
      obtain ⟨a, cap, mid, ev, hc1, hc2, hrows, hor⟩ := hr
      have hb := run_bounds (P := P) (isSlice := true) (len := rows.length) (cap := cap) w (conv he hlo ei) (conv he hhi ej) h0 hij (by omega)
      refine ⟨_, exec_v (v := .slice (if cap = i.toNat then a else a.map (·.add (i.toNat * n))) (j.toNat - i.toNat) (cap - i.toNat)) (hex ac) ?_, ?_⟩
      · rw [ev]
        simp only [Instr.sliceAt, Sem.run_bind, run_underlying hu, Result.andThen_ok, Instr.slice, hb, run_sz hsz, Sem.run_pure]
      · have hlen : ((rows.take j.toNat).drop i.toNat).length = j.toNat - i.toNat := by simp; omega
        have hsplit : rows = rows.take i.toNat ++ ((rows.take j.toNat).drop i.toNat ++ rows.drop j.toNat) := by
          have e1 : rows.take i.toNat = (rows.take j.toNat).take i.toNat := by rw [List.take_take, Nat.min_eq_left (by omega)]
          rw [e1, ← List.append_assoc, List.take_append_drop, List.take_append_drop]
        rw [hsplit] at hrows
        obtain ⟨v1, v23, e1, h1, h23⟩ := repRows_split hrows
        obtain ⟨v2, v3, e2, h2, h3⟩ := repRows_split h23
        simp only [T.rep, Cell.rep, C.rep]
        refine ⟨_, cap - i.toNat, v2, by rw [hlen], by omega, by omega, h2, ?_⟩
        by_cases hlt : i.toNat < j.toNat
        · right
          rcases hor with hnil | ⟨b, off, ea, hat⟩
          · exfalso; rw [hnil] at hj; simp at hj; omega
          · refine ⟨b, off + i.toNat * n, ?_, ?_⟩
            · rw [if_neg (by omega), ea]; simp [addr_add]
            · have := At.sub (v1 := v1) (v2 := v2) (v3 := v3) (by rw [← e2, ← e1]; exact hat)
              rw [repRows_length h1, List.length_take, Nat.min_eq_left (by omega)] at this
              exact this
        · left
          exact List.length_eq_zero_iff.1 (by rw [hlen]; omega)
    · exact h.elim
  · exact h.elim
def vNil (x : Option T) (K : T → Prop) : Prop :=
  match x with
  | some (.one (.ptr k o)) => K (.one (.ptr k o))
  | some (.one (.rp k sz i f)) => K (.one (.rp k sz i f))
  | some (.one (.ref r)) => K (.one (.ref r))
  | some (.one (.dat (.fn f))) => K (.one (.dat (.fn f)))
  | some (.one (.dat (.fnc f caps))) => K (.one (.dat (.fnc f caps)))
  | some (.one (.clo f caps)) => K (.one (.clo f caps))
  | _ => False
theorem vNil_sound {x : Operand} {ty : TypeId} {env : Env} {B : Bx} {o : Oper} {K : T → Prop} (ho : o.op = .nilCheck x)
    (h : vNil (ev P env ty x) K) : ∃ u, OpP P o env B u ∧ K u := by
  have hx : x ∈ o.op.operands := by rw [ho]; simp [Op.operands]
  unfold vNil at h
  split at h <;> try exact h.elim
  all_goals
    rename_i ex
    refine ⟨_, OpP.of_val fun κ M ν ac w B' hB he hs => ?_, h⟩
    have hr := ev_rep he hx ex
    refine ⟨ac.eval x, ?_, hr⟩
    simp only [T.rep, Cell.rep, C.rep] at hr
  · obtain ⟨b, _, e⟩ := hr; unfold execOp; rw [ho]; simp only [e]; rfl
  · obtain ⟨b, _, e⟩ := hr; unfold execOp; rw [ho]; simp only [e]; rfl
  · obtain ⟨b, off, vs, e, _⟩ := hr; unfold execOp; rw [ho]; simp only [e]; rfl
  · unfold execOp; rw [ho]; simp only [hr]; rfl
  · obtain ⟨vs, e, _⟩ := hr; unfold execOp; rw [ho]; simp only [e]; rfl
  · obtain ⟨vs, e, _⟩ := hr; unfold execOp; rw [ho]; simp only [e]; rfl
def refsOf (P : Program) (env : Env) : List Operand → Option (List (List C))
  | [] => some []
  | x :: xs => match ev P env 0 x with
    | some (.one (.ref r)) => match refsOf P env xs with
      | some rs => some (r :: rs)
      | none => none
    | _ => none
theorem refsOf_rep {M : Mem} {ν : Nu} {a : Act} {env : Env} {o : Oper} (he : EnvOn M ν a env o) : ∀ (xs : List Operand) (rs : List (List C)), (∀ x ∈ xs, x ∈ o.op.operands) → refsOf P env xs = some rs → repRefs M rs (xs.map a.eval)
  | [], rs, _, h => by simp only [refsOf, Option.some.injEq] at h; subst h; simp only [repRefs, List.map_nil]
  | x :: xs, rs, hx, h => by
    simp only [refsOf] at h
    split at h
    · rename_i r ex
      split at h
      · rename_i rs' ers
        simp only [Option.some.injEq] at h
        subst h
        have hr := ev_rep he (hx x (by simp)) ex
        simp only [T.rep, Cell.rep] at hr
        obtain ⟨b, off, vs, e, h1, h2⟩ := hr
        simp only [repRefs, List.map_cons]
        exact ⟨b, off, vs, _, by rw [e], h1, h2, refsOf_rep he xs rs' (fun y hy => hx y (by simp [hy])) ers⟩
      · cases h
    · cases h
def vMakeFunc (P : Program) (fn : Fn) (first captured : List Operand) (env : Env) (K : T → Prop) : Prop :=
  match fn, first, refsOf P env captured with
  | .func f, [], some rs => K (.one (.dat (.fnc f rs)))
  | _, _, _ => False
theorem vMakeFunc_sound {fn : Fn} {first captured : List Operand} {env : Env} {B : Bx} {o : Oper} {K : T → Prop} (ho : o.op = .makeFunc fn first.toArray captured.toArray)
    (h : vMakeFunc P fn first captured env K) : ∃ u, OpP P o env B u ∧ K u := by
  unfold vMakeFunc at h
  split at h
  · rename_i f rs er
    refine ⟨_, OpP.of_val fun κ M ν ac w B' hB he hs => ?_, h⟩
    refine ⟨.func (.func f) #[] (captured.map ac.eval).toArray, ?_, ?_⟩
    · unfold execOp; rw [ho]; simp [Instr.makeFunc]
    · simp only [T.rep, Cell.rep, C.rep]
      exact ⟨_, rfl, refsOf_rep he captured rs (fun x hx => by rw [ho]; simp [Op.operands, hx]) er⟩
  · exact h.elim
/-- a byte as a row -/
def encU8 (b : UInt8) : List C := [.int .u8 b.toNat]
def bytesOf : List (List C) → Option (List UInt8)
  | [] => some []
  | [.int .u8 n] :: rs => match bytesOf rs with
    | some l => bif decide (0 ≤ n) && decide (n < 256) then some (UInt8.ofNat n.toNat :: l) else none
    | none => none
  | _ => none
@[go_sem] theorem bytesOf_enc : ∀ l : List UInt8, bytesOf (l.map encU8) = some l
  | [] => rfl
  | b :: l => by
    have h := UInt8.toNat_lt b
    rw [List.map_cons, encU8, bytesOf, bytesOf_enc l]
    simp only
    rw [show (decide ((0 : Int) ≤ (b.toNat : Int)) && decide ((b.toNat : Int) < 256)) = true by simp; omega]
    simp
theorem bytesOf_rep {M : Mem0} {sz : Nat} : ∀ {rows : List (List C)} {l : List UInt8} {vs : List Value}, bytesOf rows = some l → repRows M sz rows vs → vs = l.map fun b => Value.int .u8 b.toNat
  | [], l, vs, h, hr => by
    simp only [bytesOf, Option.some.injEq] at h
    subst h
    simpa only [repRows, List.map_nil] using hr
  | r :: rows, l, vs, h, hr => by
    unfold bytesOf at h
    split at h
    · simp_all
    · rename_i n rs e
      cases e
      split at h
      · rename_i l' hl
        cases hb : decide (0 ≤ n) && decide (n < 256) with
        | false => rw [hb] at h; cases h
        | true =>
          rw [hb] at h
          simp only [cond_true, Option.some.injEq] at h
          subst h
          rw [Bool.and_eq_true, decide_eq_true_eq, decide_eq_true_eq] at hb
          simp only [repRows, repRow, C.rep] at hr
          obtain ⟨v1, v2, e, _, ⟨v, vs', e1, e2, e3⟩, h2⟩ := hr
          subst e e1 e2 e3
          rw [bytesOf_rep hl h2, List.map_cons]
          have : (((UInt8.ofNat n.toNat).toNat : Nat) : Int) = n := by
            rw [UInt8.toNat_ofNat_of_lt' (by show n.toNat < 256; omega)]; omega
          rw [this]; rfl
      · cases h
    · cases h
theorem bytesOf_len : ∀ {rows : List (List C)} {l : List UInt8}, bytesOf rows = some l → rows.length = l.length
  | [], l, h => by simp only [bytesOf, Option.some.injEq] at h; subst h; rfl
  | r :: rows, l, h => by
    unfold bytesOf at h
    split at h
    · simp_all
    · rename_i n rs e
      cases e
      split at h
      · rename_i l' hl
        cases hb : decide (0 ≤ n) && decide (n < 256) with
        | false => rw [hb] at h; cases h
        | true =>
          rw [hb] at h
          simp only [cond_true, Option.some.injEq] at h
          subst h
          rw [List.length_cons, List.length_cons, bytesOf_len hl]
      · cases h
    · cases h
theorem At.bytes {w : World} {b off : Nat} {l : List UInt8} (h : At (w.heap[b]?) off (l.map fun x => Value.int .u8 x.toNat)) : ∀ j (hj : j < l.length), w.cell? ((⟨b, off, none⟩ : Addr).add j) = some (.int .u8 (l[j].toNat : Int)) :=
  fun j hj => h.cell (by rw [List.getElem?_map, List.getElem?_eq_getElem hj]; rfl)
def bysT (P : Program) (t : TypeId) : Bool :=
  match P.underlying t with
  | some (.slice e) => (match P.underlying e with
    | some (.int .u8) => true
    | _ => false)
  | _ => false
theorem bysT_spec {t : TypeId} (h : bysT P t = true) : ∃ e, P.underlying t = some (.slice e) ∧ P.underlying e = some (.int .u8) := by
  unfold bysT at h
  split at h
  · rename_i e he
    split at h
    · rename_i he2; exact ⟨e, he, he2⟩
    · cases h
  · cases h
def vConv (P : Program) (src dst : TypeId) (B : Bx) (x : Option T) (K : T → Prop) : Prop :=
  match kdT P src, kdT P dst, x with
  | some _, some (.int k), some (.one (.dat (.int _ n))) => K (I k (k.wrap n))
  | some .str, some .str, some (.one (.dat (.str l))) => K (S l)
  | some _, some .str, some (.one (.dat (.sl _ rows))) => match bytesOf rows with
    | some l => bysT P src = true ∧ K (S l)
    | none => False
  | some _, some .str, some (.one (.own k m)) => match B.lookup k with
    | some (.row _ rows) => match bytesOf rows with
      | some l => bysT P src = true ∧ m = rows.length ∧ K (S l)
      | none => False
    | _ => False
  | _, _, _ => False
theorem vConv_sound {src dst : TypeId} {x : Operand} {ty : TypeId} {env : Env} {B : Bx} {o : Oper} {K : T → Prop} (ho : o.op = .convert src dst x)
    (h : vConv P src dst B (ev P env ty x) K) : ∃ u, OpP P o env B u ∧ K u := by
  have hx : x ∈ o.op.operands := by rw [ho]; simp [Op.operands]
  have hex : ∀ (a : Act), execOp a.eval o = (do pure (.value (← convert src dst (a.eval x)))) := by
    intro a; unfold execOp; rw [ho]
  unfold vConv at h
  split at h
  · rename_i ks k k0 n hs hd ex
    refine ⟨_, OpP.of_val fun κ M ν ac w B' hB he hsat => ⟨_, exec_v (hex ac) ?_, rep_int.2 rfl⟩, h⟩
    have e1 := rep_int.1 (ev_rep he hx ex)
    have hsrc : ∃ d, P.underlying src = some d := by
      unfold kdT at hs; split at hs <;> first | (exact ⟨_, by assumption⟩) | cases hs
    obtain ⟨d, hsrc⟩ := hsrc
    rw [e1]
    unfold convert
    simp only [Sem.run_bind, run_underlying hsrc, run_underlying (kdT_int hd), Result.andThen_ok]
    rfl
  · rename_i l hs hd ex
    refine ⟨_, OpP.of_val fun κ M ν ac w B' hB he hsat => ⟨_, exec_v (hex ac) ?_, rep_str.2 rfl⟩, h⟩
    have e1 := rep_str.1 (ev_rep he hx ex)
    rw [e1]
    unfold convert
    simp only [Sem.run_bind, run_underlying (kdT_str hs), run_underlying (kdT_str hd), Result.andThen_ok]
    rfl
  · rename_i kd0 sz rows hs hd ex
    split at h
    · rename_i l hl
      obtain ⟨hby, h⟩ := h
      obtain ⟨e, hu, hue⟩ := bysT_spec hby
      refine ⟨_, OpP.of_val fun κ M ν ac w B' hB he hsat => ⟨_, exec_v (hex ac) ?_, rep_str.2 rfl⟩, h⟩
      have hr := ev_rep he hx ex
      simp only [T.rep, Cell.rep, C.rep] at hr
      obtain ⟨a, cap, mid, ev', hlen, hcap, hrr, hat⟩ := hr
      have hl1 := bytesOf_len hl
      have hm1 := bytesOf_rep hl hrr
      rw [ev', hl1]
      cases a with
      | none =>
        have : l = [] := by
          rcases hat with h0 | ⟨b, off, ea, _⟩
          · rw [h0] at hl1; exact List.length_eq_zero_iff.1 hl1.symm
          · cases ea
        subst this
        exact run_convert_bytes_nil w src e hu hue _ _ dst (kdT_str hd)
      | some a =>
        refine run_convert_bytes_back w src dst e a cap l hu hue (kdT_str hd) ?_
        rcases hat with h0 | ⟨b, off, ea, hat⟩
        · intro j hj
          rw [h0] at hl1
          rw [← hl1] at hj
          exact absurd hj (Nat.not_lt_zero _)
        · cases ea
          have h2 := hat.of_fro hsat
          rw [hm1] at h2
          exact h2.bytes
    · exact h.elim
  · rename_i kd0 k m hs hd ex
    split at h
    · rename_i sz rows hb
      split at h
      · rename_i l hl
        obtain ⟨hby, hm, h⟩ := h
        obtain ⟨e, hu, hue⟩ := bysT_spec hby
        refine ⟨_, OpP.of_val fun κ M ν ac w B' hB he hsat => ⟨_, exec_v (hex ac) ?_, rep_str.2 rfl⟩, h⟩
        have hr := ev_rep he hx ex
        simp only [T.rep, Cell.rep] at hr
        have hres := hsat.res k _ (hB _ (lookup_box hb))
        simp only [Res.ok] at hres
        have hl1 := bytesOf_len hl
        rw [hr, hm, hl1]
        rcases hres.2.2 with ⟨hnone, hcap0⟩ | ⟨b, c, et, mid, post, hb2, hheap, htl, hrows, _⟩
        · have : l = [] := by have := hres.1; rw [hcap0, hl1] at this; exact List.length_eq_zero_iff.1 (by omega)
          subst this
          rw [hnone]
          exact run_convert_bytes_nil w src e hu hue _ _ dst (kdT_str hd)
        · rw [hb2]
          refine run_convert_bytes_back w src dst e ⟨b, 0, none⟩ _ l hu hue (kdT_str hd) ?_
          have h0 := At.whole hheap
          rw [htl, bytesOf_rep hl hrows] at h0
          have h1 : At (w.heap[b]?) 0 (l.map fun x => Value.int .u8 x.toNat) := by
            have := At.sub (v1 := []) (v2 := l.map fun x => Value.int .u8 x.toNat) (v3 := post) (by simpa using h0)
            simpa using this
          exact h1.bytes
      · exact h.elim
    · exact h.elim
  · exact h.elim
theorem push_get {h : Array Obj} {b : Nat} {o x : Obj} (e : h[b]? = some x) : (h.push o)[b]? = some x := by
  have hlt := (Array.getElem?_eq_some_iff.1 e).1
  rw [Array.getElem?_push, if_neg (by omega)]; exact e
theorem push_old {h : Array Obj} {b : Nat} {o : Obj} (hlt : b < h.size) : (h.push o)[b]? = h[b]? := by
  rw [Array.getElem?_push, if_neg (by omega)]
theorem push_new {h : Array Obj} {o : Obj} : (h.push o)[h.size]? = some o := by simp
theorem Res.ok_mono {M M' : Mem} {ν : Nu} {w w' : World} {k : Nat} (hM : M.le M') (hh : ∀ b x, w.heap[b]? = some x → (ν k).blk = some b → w'.heap[b]? = some x) : ∀ {r : Res}, r.ok M ν w k → r.ok M' ν w' k
  | .cells cs, h => by
    simp only [Res.ok] at h ⊢
    obtain ⟨b, c, et, e1, e2, e3⟩ := h
    exact ⟨b, c, et, e1, hh _ _ e2 e1, Cell.reps_mono hM _ _ e3⟩
  | .row sz rows, h => by
    simp only [Res.ok] at h ⊢
    obtain ⟨h1, h2, h3⟩ := h
    refine ⟨h1, h2, ?_⟩
    rcases h3 with h3 | ⟨b, c, et, mid, post, e1, e2, e3, e4, e5⟩
    · exact .inl h3
    · exact .inr ⟨b, c, et, mid, post, e1, hh _ _ e2 e1, e3, repRows_mono hM _ _ _ e4, e5⟩
  | .mp ag es, h => by
    simp only [Res.ok] at h ⊢
    obtain ⟨b, ents, clock, e1, e2, e3⟩ := h
    exact ⟨b, ents, clock, e1, hh _ _ e2 e1, repEnts_mono hM _ _ e3⟩
theorem Res.blk_lt {M : Mem} {ν : Nu} {w : World} {k b : Nat} : ∀ {r : Res}, r.ok M ν w k → (ν k).blk = some b → b < w.heap.size
  | .cells cs, h, e => by
    simp only [Res.ok] at h
    obtain ⟨b', c, et, e1, e2, e3⟩ := h
    rw [e1] at e; cases e
    exact (Array.getElem?_eq_some_iff.1 e2).1
  | .row sz rows, h, e => by
    simp only [Res.ok] at h
    obtain ⟨h1, h2, h3⟩ := h
    rcases h3 with ⟨h3, _⟩ | ⟨b', c, et, mid, post, e1, e2, e3, e4, e5⟩
    · rw [h3] at e; cases e
    · rw [e1] at e; cases e
      exact (Array.getElem?_eq_some_iff.1 e2).1
  | .mp ag es, h, e => by
    simp only [Res.ok] at h
    obtain ⟨b', ents, clock, e1, e2, e3⟩ := h
    rw [e1] at e; cases e
    exact (Array.getElem?_eq_some_iff.1 e2).1
theorem Sat.top {κ : Kap} {M : Mem} {ν : Nu} {B : Bx} {w : World} (h : Sat κ M ν B w) : M w.heap.size = none := by
  cases hM : M w.heap.size with
  | none => rfl
  | some o => have := h.fro _ _ hM; simp at this
theorem Sat.freeze_new {κ : Kap} {M : Mem} {ν : Nu} {B : Bx} {w : World} (h : Sat κ M ν B w) (o : Obj) (ho : ∃ c t, o = .cells c t) :
    M.ext κ (M.add w.heap.size o) ∧ Sat κ (M.add w.heap.size o) ν B { w with heap := w.heap.push o } := by
  have hfree := h.top
  have hle : M.le (M.add w.heap.size o) := by
    intro b x e
    rw [Mem.add_at hfree]
    split
    · rename_i hb; subst hb
      have := h.fro _ _ e; simp at this
    · exact e
  have hnew : ∀ b x, M.add w.heap.size o b = some x → M b = some x ∨ κ.w.heap.size ≤ b ∨ κ.D b := by
    intro b x e
    rw [Mem.add_at hfree] at e
    split at e
    · rename_i hb; subst hb; exact .inr (.inl h.size)
    · exact .inl e
  refine ⟨⟨hle, hnew⟩, h.os, h.tape, h.output, Nat.zero_le _, by simp; have := h.size; omega, ?_, ?_, ?_, ?_, h.inj, h.nodup⟩
  · intro b hb hD
    rw [← h.unch b hb hD]
    exact push_old (Nat.lt_of_lt_of_le hb h.size)
  · intro b x e
    rw [Mem.add_at hfree] at e
    split at e
    · rename_i hb; subst hb; cases e; exact push_new
    · exact push_get (h.fro _ _ e)
  · intro k r hm
    exact Res.ok_mono hle (fun b x e _ => push_get e) (h.res k r hm)
  · intro k r b hm hb
    obtain ⟨h1, h2⟩ := h.away k r b hm hb
    refine ⟨?_, h2⟩
    rw [Mem.add_at hfree]
    have := Res.blk_lt (h.res k r hm) hb
    rw [if_neg (by omega)]; exact h1
def toCells : T → Option (List Cell)
  | .one c => some [c]
  | .st r => some (r.map .dat)
  | .agg cs => some cs
  | .tup _ => none
  | .un => none
def lenIs {α : Type} : Nat → List α → Bool
  | 0, [] => true
  | n + 1, _ :: l => lenIs n l
  | _, _ => false
theorem lenIs_spec {α : Type} : ∀ {n : Nat} {l : List α}, lenIs n l = true → l.length = n
  | 0, [], _ => rfl
  | n + 1, _ :: l, h => by simp only [lenIs] at h; simp [lenIs_spec h]
  | 0, _ :: _, h => by simp [lenIs] at h
  | n + 1, [], h => by simp [lenIs] at h
theorem toCells_rep {M : Mem0} {ν : Nu} {t : T} {cs : List Cell} {v : Value} (h : toCells t = some cs) (hr : t.rep M ν v) (h1 : ∀ c, t = .one c → ∀ a, v ≠ .agg a) : Cell.reps M ν cs v.cells.toList := by
  cases t with
  | one c =>
    simp only [toCells, Option.some.injEq] at h; subst h
    simp only [T.rep] at hr
    have : v.cells.toList = [v] := by
      cases v <;> first | rfl | exact absurd rfl (h1 c rfl _)
    rw [this]
    simp only [Cell.reps]
    exact ⟨v, [], rfl, hr, rfl⟩
  | st r =>
    simp only [toCells, Option.some.injEq] at h; subst h
    simp only [T.rep] at hr
    obtain ⟨a, e, h⟩ := hr
    subst e
    exact Cell.reps_map_c.2 h
  | agg cs' =>
    simp only [toCells, Option.some.injEq] at h; subst h
    simp only [T.rep] at hr
    obtain ⟨a, e, h⟩ := hr
    subst e
    exact h
  | tup ts => cases h
  | un => cases h
theorem C.rep_noagg {M : Mem0} {c : C} {v : Value} (h : c.rep M v) (a : Array Value) : v ≠ .agg a := by
  cases c <;> simp only [C.rep] at h
  case sl => obtain ⟨_, _, _, e, _⟩ := h; subst e; simp
  case fnc => obtain ⟨_, e, _⟩ := h; subst e; simp
  case err b =>
    cases b
    · rw [show v = _ from h]; simp
    · obtain ⟨_, _, e⟩ := h; subst e; simp
  all_goals subst h; simp
theorem Cell.rep_noagg {M : Mem0} {ν : Nu} {c : Cell} {v : Value} (h : c.rep M ν v) (a : Array Value) : v ≠ .agg a := by
  cases c <;> simp only [Cell.rep] at h
  case dat => exact C.rep_noagg h a
  case ptr => obtain ⟨_, _, e⟩ := h; subst e; simp
  case own => subst h; simp
  case rp => obtain ⟨_, _, e⟩ := h; subst e; simp
  case arr => obtain ⟨_, _, e⟩ := h; subst e; simp
  case mp => obtain ⟨_, _, e⟩ := h; subst e; simp
  case ref => obtain ⟨_, _, _, e, _⟩ := h; subst e; simp
  case clo => obtain ⟨_, e, _⟩ := h; subst e; simp
theorem cells_of {M : Mem0} {ν : Nu} {t : T} {cs : List Cell} {v : Value} (h : toCells t = some cs) (hr : t.rep M ν v) : Cell.reps M ν cs v.cells.toList :=
  toCells_rep h hr fun c e a => by subst e; simp only [T.rep] at hr; exact Cell.rep_noagg hr a
/-- C cells that every world reads so: zero values -/
def zmatch : List C → List Value → Bool
  | [], [] => true
  | c :: cs, v :: vs => (match c, v with
    | .int k n, .int k' n' => decide (k = k' ∧ n = n')
    | .bool b, .bool b' => b == b'
    | .str [], .string s => s.data.size == 0
    | .nil _, .slice none 0 0 => true
    | .fnil, .nilFunc => true
    | .err false, .nilIface => true
    | _, _ => false) && zmatch cs vs
  | _, _ => false
theorem zmatch_spec {M : Mem0} : ∀ {cs : List C} {vs : List Value}, zmatch cs vs = true → repRow M cs vs
  | [], [], _ => by simp only [repRow]
  | c :: cs, v :: vs, h => by
    simp only [zmatch, Bool.and_eq_true] at h
    simp only [repRow]
    refine ⟨v, vs, rfl, ?_, zmatch_spec h.2⟩
    have h1 := h.1
    split at h1
    · simp only [decide_eq_true_eq] at h1; obtain ⟨rfl, rfl⟩ := h1; simp only [C.rep]
    · simp only [beq_iff_eq] at h1; subst h1; simp only [C.rep]
    · rename_i s
      simp only [beq_iff_eq] at h1
      simp only [C.rep]
      have : s = ByteArray.mk [].toArray := by apply ByteArray.ext; exact Array.eq_empty_of_size_eq_zero h1
      rw [this]
    · simp only [C.rep]
    · simp only [C.rep]
    · simp only [C.rep, cond_false]
    · cases h1
  | [], _ :: _, h => by simp [zmatch] at h
  | _ :: _, [], h => by simp [zmatch] at h
/-- the zero cells of a type, by its form -/
def zeroC (P : Program) : Nat → TypeId → Option (List C)
  | 0, _ => none
  | d + 1, t =>
    match P.underlying t with
    | some (.int k) => some [.int k 0]
    | some .bool => some [.bool false]
    | some .string => some [.str []]
    | some (.slice e) => (szT P e).map fun n => [.nil n]
    | some (.func ..) => some [.fnil]
    | some (.interface _) => some [.err false]
    | some (.struct fs) => fs.toList.foldr (fun f acc => match zeroC P d f.type, acc with
      | some x, some y => some (x ++ y)
      | _, _ => none) (some [])
    | some (.array n e) => (zeroC P d e).map fun x => (List.replicate n x).flatten
    | _ => none
def zeroT (P : Program) (t : TypeId) : Option (List C) :=
  match zeroC P 12 t, (P.info? t).bind (·.zero) with
  | some zs, some z => bif zmatch zs z.cells.toList then some zs else none
  | _, _ => none
theorem zeroT_spec {t : TypeId} {zs : List C} (h : zeroT P t = some zs) : ∃ z, (∀ w, (zeroValue t).run P w = .ok z w) ∧ zmatch zs z.cells.toList = true := by
  unfold zeroT at h
  split at h
  · rename_i zs' z h1 h2
    cases hm : zmatch zs' z.cells.toList with
    | false => rw [hm] at h; cases h
    | true =>
      rw [hm] at h
      simp only [cond_true, Option.some.injEq] at h
      subst h
      obtain ⟨i, hi, hz⟩ := Option.bind_eq_some_iff.1 h2
      exact ⟨z, fun w => by simp [zeroValue, typeInfo, hi, hz], hm⟩
  · cases h
/-- place, size and type of part i of a struct or an array -/
def prtT (P : Program) (t i : Nat) : Option (Nat × Nat × TypeId) :=
  match P.underlying t with
  | some (.struct fs) => match fs[i]? with
    | some fd => (szT P fd.type).map fun n => (fd.offset, n, fd.type)
    | none => none
  | some (.array len e) => (szT P e).map fun n => (i * n, n, e)
  | _ => none
/-- the sizes of all fields are known -/
def fieldsOk (P : Program) (t : TypeId) : Bool :=
  match P.underlying t with
  | some (.struct fs) => fs.toList.all fun f => (szT P f.type).isSome
  | some (.array _ e) => (szT P e).isSome
  | _ => false
def vParts (P : Program) (t : TypeId) (env : Env) : List (Nat × Operand) → List Cell → Option (List Cell)
  | [], cs => some cs
  | (i, x) :: rest, cs => match prtT P t i with
    | some (off, n, ty) => match ev P env ty x with
      | some u => match toCells u with
        | some part => bif lenIs n part then (match cutC off cs with
          | some (pre, y) => match cutC n y with
            | some (_, post) => vParts P t env rest (pre ++ (part ++ post))
            | none => none
          | none => none) else none
        | none => none
      | none => none
    | none => none
def vBuild (P : Program) (t : TypeId) (env : Env) (parts : List (Nat × Operand)) (K : T → Prop) : Prop :=
  match zeroT P t with
  | some zs => match vParts P t env parts (zs.map .dat) with
    | some cs => fieldsOk P t = true ∧ K (mkAgg cs)
    | none => False
  | none => False
theorem splice (part : List Value) : ∀ (pre mid post : List Value) (j : Nat), mid.length = part.length →
    (part.zipIdx j).foldl (fun (cs : Array Value) (p : Value × Nat) => cs.setIfInBounds (pre.length - j + p.2) p.1) (pre ++ (mid ++ post)).toArray = (pre ++ (part ++ post)).toArray ∨ pre.length < j := by
  induction part with
  | nil => intro pre mid post j h; left; simp at h; subst h; simp
  | cons v part ih =>
    intro pre mid post j h
    by_cases hj : pre.length < j
    · exact .inr hj
    · left
      cases mid with
      | nil => simp at h
      | cons m mid =>
        rw [List.zipIdx_cons, List.foldl_cons]
        have e1 : ((pre ++ (m :: mid ++ post)).toArray).setIfInBounds (pre.length - j + j) v = ((pre ++ [v]) ++ (mid ++ post)).toArray := by
          have : pre.length - j + j = pre.length := by omega
          rw [this]
          apply Array.ext'
          simp
        rw [e1]
        have := ih (pre ++ [v]) mid post (j + 1) (by simpa using h)
        rcases this with this | this
        · have e2 : (pre ++ [v]).length - (j + 1) = pre.length - j := by simp
          rw [e2] at this
          rw [this]; simp
        · simp at this; omega
theorem fill_step {place : Nat → Option (Nat × Nat)} {cells : Array Value} {i off n : Nat} {v : Value} {rest : List (Nat × Value)} {pre mid post : List Value}
    (hp : place i = some (off, n)) (hv : v.cells.size = n) (hc : cells.toList = pre ++ (mid ++ post)) (h1 : pre.length = off) (h2 : mid.length = n) :
    Instr.fill place cells ((i, v) :: rest) = Instr.fill place (pre ++ (v.cells.toList ++ post)).toArray rest := by
  rw [Instr.fill]
  have hsz : cells.size = off + (n + post.length) := by
    rw [← Array.length_toList, hc]; simp [h1, h2]
  simp only [hp]
  rw [if_neg (by simp [hv]; omega)]
  congr 1
  have := splice v.cells.toList pre mid post 0 (by simp [h2, hv])
  rcases this with this | this
  · simp only [Nat.sub_zero] at this
    rw [← this, ← hc, ← h1]
    rw [← Array.foldl_toList]
    simp [Array.toList_zipIdx]
  · omega
theorem vParts_sound {t : TypeId} {env : Env} {M : Mem} {ν : Nu} {a : Act} {place : Nat → Option (Nat × Nat)} (hpl : ∀ i off n ty, prtT P t i = some (off, n, ty) → place i = some (off, n)) :
    ∀ (parts : List (Nat × Operand)) (cs cs' : List Cell) (cells : Array Value), (∀ p ∈ parts, ∀ ty u, ev P env ty p.2 = some u → u.rep M ν (a.eval p.2)) → vParts P t env parts cs = some cs' → Cell.reps M ν cs cells.toList →
      ∃ cells', Instr.fill place cells (parts.map fun (i, x) => (i, a.eval x)) = some cells' ∧ Cell.reps M ν cs' cells'.toList
  | [], cs, cs', cells, _, h, hr => by
    simp only [vParts, Option.some.injEq] at h
    subst h
    exact ⟨cells, rfl, hr⟩
  | (i, x) :: rest, cs, cs', cells, he, h, hr => by
    simp only [vParts] at h
    split at h
    · rename_i off n ty hp
      split at h
      · rename_i u hu
        split at h
        · rename_i part hpart
          cases hl : lenIs n part with
          | false => rw [hl] at h; cases h
          | true =>
            rw [hl] at h
            simp only [cond_true] at h
            split at h
            · rename_i pre y hc1
              split at h
              · rename_i old post hc2
                obtain ⟨e1, l1⟩ := cutC_spec hc1
                obtain ⟨e2, l2⟩ := cutC_spec hc2
                have hrep := cells_of hpart (he (i, x) (by simp) ty u hu)
                rw [e1] at hr
                obtain ⟨w1, w23, ew, hw1, hw23⟩ := Cell.reps_split hr
                rw [e2] at hw23
                obtain ⟨w2, w3, ew2, hw2, hw3⟩ := Cell.reps_split hw23
                have hvl : (a.eval x).cells.size = n := by rw [← Array.length_toList, Cell.reps_length hrep]; exact lenIs_spec hl
                have step := fill_step (place := place) (cells := cells) (i := i) (off := off) (n := n) (v := a.eval x) (rest := rest.map fun (i, x) => (i, a.eval x)) (pre := w1) (mid := w2) (post := w3)
                  (hpl i off n ty hp) hvl (by rw [ew, ew2]) (by rw [Cell.reps_length hw1, l1]) (by rw [Cell.reps_length hw2, l2])
                have hnew : Cell.reps M ν (pre ++ (part ++ post)) (w1 ++ ((a.eval x).cells.toList ++ w3)) := Cell.reps_append hw1 (Cell.reps_append hrep hw3)
                obtain ⟨cells', hf, hr'⟩ := vParts_sound hpl rest _ cs' (w1 ++ ((a.eval x).cells.toList ++ w3)).toArray (fun p hp => he p (List.mem_cons_of_mem _ hp)) h (by simpa using hnew)
                refine ⟨cells', ?_, hr'⟩
                rw [List.map_cons]
                rw [step]; exact hf
              · cases h
            · cases h
        · cases h
      · cases h
    · cases h
theorem mapM_places (fs : List Field) (h : ∀ f ∈ fs, (szT P f.type).isSome = true) (w : World) : (fs.mapM (m := Sem) fun f => do pure (f.offset, ← sizeOf f.type)).run P w = .ok (fs.map fun f => (f.offset, (szT P f.type).getD 0)) w := by
  induction fs with
  | nil => simp
  | cons f fs ih =>
    obtain ⟨n, hn⟩ := Option.isSome_iff_exists.1 (h f (by simp))
    simp only [List.mapM_cons, Sem.run_bind, run_sz hn, Result.andThen_ok, Sem.run_pure, ih fun g hg => h g (List.mem_cons_of_mem _ hg)]
    simp [hn]
theorem vBuild_sound {t : TypeId} {parts : List (Nat × Operand)} {env : Env} {B : Bx} {o : Oper} {K : T → Prop} (ho : o.op = .build t parts.toArray)
    (h : vBuild P t env parts K) : ∃ u, OpP P o env B u ∧ K u := by
  have hex : ∀ (a : Act), execOp a.eval o = (do pure (.value (← Instr.build t (parts.map fun (i, x) => (i, a.eval x)).toArray))) := by
    intro a; unfold execOp; rw [ho]; simp
  unfold vBuild at h
  split at h
  · rename_i zs hz
    split at h
    · rename_i cs hp
      obtain ⟨hf, hK⟩ := h
      obtain ⟨z, hzr, hzm⟩ := zeroT_spec hz
      refine ⟨_, OpP.of_val fun κ M ν ac w B' hB he hs => ?_, hK⟩
      have hops : ∀ p ∈ parts, ∀ ty u, ev P env ty p.2 = some u → u.rep M ν (ac.eval p.2) := by
        intro p hp ty u hu
        refine ev_rep he ?_ hu
        rw [ho]
        simp only [Op.operands]
        simp
        exact ⟨p.1, by cases p; exact hp⟩
      have hz0 : Cell.reps M ν (zs.map .dat) z.cells.toList := Cell.reps_map_c.2 (zmatch_spec hzm)
      unfold fieldsOk at hf
      split at hf
      · rename_i fs hu
        have hpl : ∀ i off n ty, prtT P t i = some (off, n, ty) → ((fs.toList.map fun f => (f.offset, (szT P f.type).getD 0))[i]?) = some (off, n) := by
          intro i off n ty hprt
          unfold prtT at hprt
          rw [hu] at hprt
          simp only [] at hprt
          split at hprt
          · rename_i fd hfd
            cases hsz : szT P fd.type with
            | none => simp [hsz] at hprt
            | some m =>
              simp only [hsz, Option.map_some, Option.some.injEq, Prod.mk.injEq] at hprt
              rw [List.getElem?_map, Array.getElem?_toList, hfd]
              simp [hsz, hprt.1, hprt.2.1]
          · cases hprt
        obtain ⟨cells', hfill, hrep⟩ := vParts_sound (place := fun i => ((fs.toList.map fun f => (f.offset, (szT P f.type).getD 0))[i]?)) hpl parts _ cs z.cells hops hp hz0
        refine ⟨.agg cells', exec_v (hex ac) ?_, mkAgg_rep hrep⟩
        have hm := mapM_places (P := P) fs.toList (List.all_eq_true.1 hf) w
        unfold Instr.build
        simp only [Sem.run_bind, hzr, Result.andThen_ok, run_underlying hu]
        have hm2 : (fs.mapM (m := Sem) fun f => do pure (f.offset, ← sizeOf f.type)).run P w = .ok (fs.toList.map fun f => (f.offset, (szT P f.type).getD 0)).toArray w := by
          rw [Array.mapM_eq_mapM_toList]
          simp only [Sem.run_map, hm, Result.andThen_ok]
        simp only [hm2, Result.andThen_ok]
        have : (fun (x : Nat) => ((fs.toList.map fun f => (f.offset, (szT P f.type).getD 0)).toArray[x]?)) = fun (i : Nat) => ((fs.toList.map fun f => (f.offset, (szT P f.type).getD 0))[i]?) := by
          funext i; simp
        rw [this, hfill]
        rfl
      · rename_i len e hu
        obtain ⟨n, hn⟩ := Option.isSome_iff_exists.1 hf
        have hpl : ∀ i off m ty, prtT P t i = some (off, m, ty) → (fun i => some (i * n, n)) i = some (off, m) := by
          intro i off m ty hprt
          unfold prtT at hprt
          rw [hu] at hprt
          simp only [hn, Option.map_some, Option.some.injEq, Prod.mk.injEq] at hprt ⊢
          exact ⟨hprt.1, hprt.2.1⟩
        obtain ⟨cells', hfill, hrep⟩ := vParts_sound hpl parts _ cs z.cells hops hp hz0
        refine ⟨.agg cells', exec_v (hex ac) ?_, mkAgg_rep hrep⟩
        unfold Instr.build
        simp only [Sem.run_bind, hzr, Result.andThen_ok, run_underlying hu, run_sz hn, hfill, Sem.run_pure]
      · cases hf
    · exact h.elim
  · exact h.elim
def C.soft : C → C
  | .nil n => .sl n []
  | .int k n => .int k n
  | .bool b => .bool b
  | .str l => .str l
  | .sl n r => .sl n r
  | .fn f => .fn f
  | .fnc f caps => .fnc f caps
  | .fnil => .fnil
  | .err b => .err b
def Cell.soft : Cell → Cell
  | .dat c => .dat c.soft
  | .ptr k o => .ptr k o
  | .own k m => .own k m
  | .rp k sz i f => .rp k sz i f
  | .arr k n => .arr k n
  | .ref r => .ref r
  | .clo f caps => .clo f caps
  | .mp k => .mp k
mutual
def T.soft : T → T
  | .one c => .one c.soft
  | .st r => .st (r.map C.soft)
  | .agg cs => .agg (cs.map Cell.soft)
  | .tup ts => .tup (T.softs ts)
  | .un => .un
def T.softs : List T → List T
  | [] => []
  | t :: ts => t.soft :: T.softs ts
end
theorem C.rep_soft {M : Mem} {c : C} {v : Value} (h : c.rep M v) : c.soft.rep M v := by
  cases c <;> simp only [C.soft] <;> try exact h
  simp only [C.rep] at h ⊢
  subst h
  exact ⟨none, 0, [], rfl, Nat.le_refl _, Nat.zero_le _, by simp only [repRows], .inl trivial⟩
theorem Cell.rep_soft {M : Mem} {ν : Nu} {c : Cell} {v : Value} (h : c.rep M ν v) : c.soft.rep M ν v := by
  cases c <;> simp only [Cell.soft] <;> try exact h
  simp only [Cell.rep] at h ⊢
  exact C.rep_soft h
theorem repRow_soft {M : Mem} : ∀ {r : List C} {vs : List Value}, repRow M r vs → repRow M (r.map C.soft) vs
  | [], vs, h => by simpa only [List.map_nil] using h
  | c :: r, vs, h => by
    simp only [repRow] at h
    simp only [List.map_cons, repRow]
    obtain ⟨v, vs', e, h1, h2⟩ := h
    exact ⟨v, vs', e, C.rep_soft h1, repRow_soft h2⟩
theorem Cell.reps_soft {M : Mem} {ν : Nu} : ∀ {r : List Cell} {vs : List Value}, Cell.reps M ν r vs → Cell.reps M ν (r.map Cell.soft) vs
  | [], vs, h => by simpa only [List.map_nil] using h
  | c :: r, vs, h => by
    simp only [Cell.reps] at h
    simp only [List.map_cons, Cell.reps]
    obtain ⟨v, vs', e, h1, h2⟩ := h
    exact ⟨v, vs', e, Cell.rep_soft h1, Cell.reps_soft h2⟩
mutual
theorem T.rep_soft {M : Mem} {ν : Nu} : ∀ {t : T} {v : Value}, t.rep M ν v → t.soft.rep M ν v
  | .one c, v, h => by simp only [T.soft, T.rep] at h ⊢; exact Cell.rep_soft h
  | .st r, v, h => by simp only [T.soft, T.rep] at h ⊢; obtain ⟨a, e, h⟩ := h; exact ⟨a, e, repRow_soft h⟩
  | .agg cs, v, h => by simp only [T.soft, T.rep] at h ⊢; obtain ⟨a, e, h⟩ := h; exact ⟨a, e, Cell.reps_soft h⟩
  | .tup ts, v, h => by simp only [T.soft, T.rep] at h ⊢; obtain ⟨a, e, h⟩ := h; exact ⟨a, e, T.reps_soft h⟩
  | .un, v, h => by simpa only [T.soft, T.rep] using h
theorem T.reps_soft {M : Mem} {ν : Nu} : ∀ {ts : List T} {vs : List Value}, T.reps M ν ts vs → T.reps M ν (T.softs ts) vs
  | [], vs, h => by simpa only [T.softs] using h
  | t :: ts, vs, h => by
    simp only [T.reps] at h
    simp only [T.softs, T.reps]
    obtain ⟨v, vs', e, h1, h2⟩ := h
    exact ⟨v, vs', e, T.rep_soft h1, T.reps_soft h2⟩
end
def softO (t : Option T) : Option T :=
  match t with
  | some t => some t.soft
  | none => none
theorem softO_rep {M : Mem} {ν : Nu} {a : Act} {env : Env} {o : Oper} {ty : TypeId} {x : Operand} {t : T} (he : EnvOn M ν a env o) (hx : x ∈ o.op.operands) (h : softO (ev P env ty x) = some t) :
    t.rep M ν (a.eval x) := by
  unfold softO at h
  split at h
  · rename_i u e
    simp only [Option.some.injEq] at h
    subst h
    exact T.rep_soft (ev_rep he hx e)
  · cases h
/-- the element type of a slice type, with its size, where its zero value is known -/
def bsT (P : Program) (t : TypeId) : Option (TypeId × Nat) :=
  match P.underlying t with
  | some (.slice e) => match szT P e, (P.info? e).bind (·.zero) with
    | some (n + 1), some z => bif z.cells.size == n + 1 then some (e, n + 1) else none
    | _, _ => none
  | _ => none
theorem bsT_spec {t e n : Nat} (h : bsT P t = some (e, n)) : P.underlying t = some (.slice e) ∧ szT P e = some n ∧ (∃ z : Value, (∀ w, (zeroValue e).run P w = .ok z w) ∧ z.cells.size = n) ∧ n ≠ 0 := by
  unfold bsT at h
  split at h
  · rename_i e' hu
    split at h
    · rename_i m z h1 h2
      cases hz : (z.cells.size == m + 1) with
      | false => rw [hz] at h; cases h
      | true =>
        rw [hz] at h
        simp only [cond_true, Option.some.injEq, Prod.mk.injEq] at h
        obtain ⟨rfl, rfl⟩ := h
        obtain ⟨i, hi, hz2⟩ := Option.bind_eq_some_iff.1 h2
        exact ⟨hu, h1, ⟨z, fun w => by simp [zeroValue, typeInfo, hi, hz2], by simpa using hz⟩, by omega⟩
    · cases h
  · cases h
def vRows (P : Program) (e n : Nat) (env : Env) : Nat → List (Nat × Operand) → Option (List (List C))
  | _, [] => some []
  | k, (i, x) :: rest => bif i == k then (match softO (ev P env e x) with
    | some u => match toCells u with
      | some cs => match pureCs cs with
        | some r => bif lenIs n r then (match vRows P e n env (k + 1) rest with
          | some rs => some (r :: rs)
          | none => none) else none
        | none => none
      | none => none
    | none => none) else none
def vBuildSlice (P : Program) (t : TypeId) (len : Nat) (env : Env) (parts : List (Nat × Operand)) (K : T → Prop) : Prop :=
  match bsT P t with
  | some (e, n) => match vRows P e n env 0 parts with
    | some rows => lenIs len parts = true ∧ len * n ≤ 16777216 ∧ K (.one (.dat (.sl n rows)))
    | none => False
  | none => False
theorem vRows_sound {e n : Nat} {env : Env} {M : Mem} {ν : Nu} {a : Act} :
    ∀ (parts : List (Nat × Operand)) (k : Nat) (rows : List (List C)) (pre post : List Value), (∀ p ∈ parts, ∀ u, softO (ev P env e p.2) = some u → u.rep M ν (a.eval p.2)) → vRows P e n env k parts = some rows →
      pre.length = k * n → post.length = parts.length * n →
      ∃ vs, Instr.fill (fun i => some (i * n, n)) (pre ++ post).toArray (parts.map fun (i, x) => (i, a.eval x)) = some (pre ++ vs).toArray ∧ repRows M n rows vs ∧ rows.length = parts.length
  | [], k, rows, pre, post, _, h, h1, h2 => by
    simp only [vRows, Option.some.injEq] at h
    subst h
    have : post = [] := List.length_eq_zero_iff.1 (by simpa using h2)
    subst this
    exact ⟨[], rfl, by simp only [repRows], rfl⟩
  | (i, x) :: rest, k, rows, pre, post, he, h, h1, h2 => by
    simp only [vRows] at h
    cases hik : (i == k) with
    | false => rw [hik] at h; cases h
    | true =>
      rw [hik] at h
      simp only [cond_true] at h
      have hik' : i = k := by simpa using hik
      subst hik'
      split at h
      · rename_i u hu
        split at h
        · rename_i cs hcs
          split at h
          · rename_i r hr
            cases hl : lenIs n r with
            | false => rw [hl] at h; cases h
            | true =>
              rw [hl] at h
              simp only [cond_true] at h
              split at h
              · rename_i rs hrs
                simp only [Option.some.injEq] at h
                subst h
                have hrep := cells_of hcs (he (i, x) (by simp) u hu)
                rw [pureCs_spec hr] at hrep
                have hrow := Cell.reps_map_c.1 hrep
                have hrl := lenIs_spec hl
                have hvl : (a.eval x).cells.size = n := by rw [← Array.length_toList, repRow_length hrow]; exact hrl
                have hpl : post.length = n + rest.length * n := by rw [h2, List.length_cons, Nat.add_mul, Nat.one_mul]; omega
                have hpost : post = post.take n ++ post.drop n := (List.take_append_drop n post).symm
                have step := fill_step (place := fun i => some (i * n, n)) (cells := (pre ++ post).toArray) (i := i) (off := i * n) (n := n) (v := a.eval x) (rest := rest.map fun (i, x) => (i, a.eval x)) (pre := pre) (mid := post.take n) (post := post.drop n)
                  rfl hvl (by rw [← hpost]) h1 (by rw [List.length_take]; omega)
                obtain ⟨vs, hf, hrs', hlen⟩ := vRows_sound rest (i + 1) rs (pre ++ (a.eval x).cells.toList) (post.drop n) (fun p hp => he p (List.mem_cons_of_mem _ hp)) hrs
                  (by rw [List.length_append, h1, Array.length_toList, hvl, Nat.add_mul, Nat.one_mul]) (by rw [List.length_drop, hpl]; omega)
                refine ⟨(a.eval x).cells.toList ++ vs, ?_, ?_, by simp [hlen]⟩
                · rw [List.map_cons, step, ← List.append_assoc, hf, List.append_assoc]
                · simp only [repRows]
                  exact ⟨_, vs, rfl, hrl, hrow, hrs'⟩
              · cases h
          · cases h
        · cases h
      · cases h
theorem vBuildSlice_sound {t : TypeId} {len : Nat} {parts : List (Nat × Operand)} {env : Env} {B : Bx} {o : Oper} {K : T → Prop} (ho : o.op = .buildSlice t len parts.toArray)
    (h : vBuildSlice P t len env parts K) : ∃ u, OpP P o env B u ∧ K u := by
  have hex : ∀ (a : Act), execOp a.eval o = (do pure (.value (← Instr.buildSlice t len (parts.map fun (i, x) => (i, a.eval x)).toArray))) := by
    intro a; unfold execOp; rw [ho]; simp
  unfold vBuildSlice at h
  split at h
  · rename_i e n hbs
    obtain ⟨hu, hsz, ⟨z, hz, hzs⟩, hn0⟩ := bsT_spec hbs
    split at h
    · rename_i rows hr
      obtain ⟨hlen, hbound, hK⟩ := h
      have hpl := lenIs_spec hlen
      refine ⟨_, OpP.of_run fun κ M ν ac w B' hB he hs => ?_, hK⟩
      have hops : ∀ p ∈ parts, ∀ u, softO (ev P env e p.2) = some u → u.rep M ν (ac.eval p.2) := by
        intro p hp u hu
        refine softO_rep he ?_ hu
        rw [ho]
        simp only [Op.operands]
        simp
        exact ⟨p.1, by cases p; exact hp⟩
      let zero : Array Value := if len * n = 0 then #[] else z.cells
      let start : List Value := ((Array.range (len * n)).map (zero[· % zero.size]!)).toList
      have hstart : start.length = parts.length * n := by simp [start, hpl]
      obtain ⟨vs, hf, hrows, hrl⟩ := vRows_sound (a := ac) parts 0 rows [] start hops hr (by simp) hstart
      obtain ⟨hext, hsat⟩ := hs.freeze_new (.cells vs.toArray e) ⟨_, _, rfl⟩
      refine ⟨.slice (some ⟨w.heap.size, 0, none⟩) len len, _, _, exec_v (hex ac) ?_, hext, ?_, hsat⟩
      · have hle : ¬ len * n > 2 ^ 24 := by omega
        have hf' : Instr.fill (fun i => some (i * n, n)) ((Array.range (len * n)).map (zero[· % zero.size]!)) (parts.map fun (i, x) => (i, ac.eval x)) = some vs.toArray := by
          have e1 : ((Array.range (len * n)).map (zero[· % zero.size]!)) = ([] ++ start).toArray := by simp only [start, List.nil_append, Array.toArray_toList]
          rw [e1, hf]; simp
        unfold Instr.buildSlice
        by_cases h0 : len * n = 0
        · have hz0 : zero = #[] := by simp only [zero, h0, if_true]
          rw [hz0] at hf'
          rw [h0] at hf' hle
          simp only [Sem.run_bind, run_underlying hu, Result.andThen_ok, run_sz hsz, hle, if_false, Sem.run_pure, h0, if_true, hf', newRow, run_newObj]
        · have hz0 : zero = z.cells := by simp only [zero, h0, if_false]
          rw [hz0] at hf'
          simp only [Sem.run_bind, run_underlying hu, Result.andThen_ok, run_sz hsz, hle, if_false, Sem.run_pure, h0, hz, hf', newRow, run_newObj]
      · have hpn : parts.length = rows.length := hrl.symm
        simp only [T.rep, Cell.rep, C.rep]
        refine ⟨some ⟨w.heap.size, 0, none⟩, len, vs, by rw [hrl, hpl], by omega, ?_, ?_, ?_⟩
        · have : len ≤ len * n := Nat.le_mul_of_pos_right _ (Nat.pos_of_ne_zero hn0)
          unfold maxLen; omega
        · exact repRows_mono hext.1 n rows vs hrows
        · right
          refine ⟨w.heap.size, 0, rfl, vs.toArray, e, (0, 0), [], [], ?_, by simp, rfl⟩
          rw [Mem.add_at hs.top, if_pos rfl]
    · exact h.elim
  · exact h.elim
theorem exec_builtin {o : Oper} {b : Builtin} {args : Array Operand} {ts : Array TypeId} (ho : o.op = .call { callee := .builtin b, args := args, argTypes := ts }) (a : Act) :
    execOp a.eval o = builtin b ts o.type (args.map fun | .const _ => true | _ => false) (args.map a.eval) := by
  unfold execOp
  rw [ho]
  rfl
def vLen (P : Program) (t : TypeId) (x : Option T) (K : T → Prop) : Prop :=
  match x with
  | some (.one (.dat (.str l))) => kdT P t = some .str ∧ K (I .i64 l.length)
  | some (.one (.dat (.sl _ rows))) => match elT P t with
    | some _ => K (I .i64 rows.length)
    | none => False
  | some (.one (.own _ m)) => match elT P t with
    | some _ => K (I .i64 m)
    | none => False
  | some (.one (.arr _ m)) => match elT P t with
    | some _ => K (I .i64 m)
    | none => False
  | _ => False
theorem vLen_sound {t : TypeId} {x : Operand} {ty : TypeId} {env : Env} {B : Bx} {o : Oper} {K : T → Prop} (ho : o.op = .call { callee := .builtin .len, args := #[x], argTypes := #[t] })
    (h : vLen P t (softO (ev P env ty x)) K) : ∃ u, OpP P o env B u ∧ K u := by
  have hx : x ∈ o.op.operands := by rw [ho]; simp [Op.operands, Call.operands]
  have hex : ∀ (a : Act), execOp a.eval o = (do pure (.value (← Builtin.len_ #[t] o.type #[a.eval x]))) := by
    intro a; rw [exec_builtin ho]; simp [builtin]
  unfold vLen at h
  split at h
  · rename_i l ex
    refine ⟨_, OpP.of_val fun κ M ν ac w B' hB he hs => ⟨_, exec_v (hex ac) ?_, rep_int.2 rfl⟩, h.2⟩
    have e1 := rep_str.1 (softO_rep he hx ex)
    rw [e1]
    simp [Builtin.len_, run_underlying (kdT_str h.1), goInt, size_mk]
  · rename_i n rows ex
    split at h
    · rename_i p hel
      obtain ⟨e, hu, _⟩ := elT_spec (n := p.1) (b := p.2) hel
      refine ⟨_, OpP.of_val fun κ M ν ac w B' hB he hs => ⟨_, exec_v (hex ac) ?_, rep_int.2 rfl⟩, h⟩
      have hr := softO_rep he hx ex
      simp only [T.rep, Cell.rep, C.rep] at hr
      obtain ⟨a, cap, mid, ev, _⟩ := hr
      rw [ev]
      simp [Builtin.len_, run_underlying hu, goInt]
    · exact h.elim
  · rename_i k m ex
    split at h
    · rename_i p hel
      obtain ⟨e, hu, _⟩ := elT_spec (n := p.1) (b := p.2) hel
      refine ⟨_, OpP.of_val fun κ M ν ac w B' hB he hs => ⟨_, exec_v (hex ac) ?_, rep_int.2 rfl⟩, h⟩
      have hr := softO_rep he hx ex
      simp only [T.rep, Cell.rep] at hr
      rw [hr]
      simp [Builtin.len_, run_underlying hu, goInt]
    · exact h.elim
  · rename_i k m ex
    split at h
    · rename_i p hel
      obtain ⟨e, hu, _⟩ := elT_spec (n := p.1) (b := p.2) hel
      refine ⟨_, OpP.of_val fun κ M ν ac w B' hB he hs => ⟨_, exec_v (hex ac) ?_, rep_int.2 rfl⟩, h⟩
      have hr := softO_rep he hx ex
      simp only [T.rep, Cell.rep] at hr
      obtain ⟨b, hb, ev⟩ := hr
      rw [ev]
      simp [Builtin.len_, run_underlying hu, goInt]
    · exact h.elim
  · exact h.elim
def vMinMax (isMax : Bool) (x y : Option T) (K : T → Prop) : Prop :=
  match x, y with
  | some (.one (.dat (.int k a))), some (.one (.dat (.int k' b))) => K (I k (bif isMax then (if b > a then b else a) else (if b < a then b else a)))
  | _, _ => False
theorem vMinMax_sound {isMax : Bool} {t1 t2 : TypeId} {ts : Array TypeId} {x y : Operand} {env : Env} {B : Bx} {o : Oper} {K : T → Prop} (ho : o.op = .call { callee := .builtin (if isMax then .max else .min), args := #[x, y], argTypes := ts })
    (h : vMinMax isMax (ev P env t1 x) (ev P env t2 y) K) : ∃ u, OpP P o env B u ∧ K u := by
  have hx : x ∈ o.op.operands := by rw [ho]; simp [Op.operands, Call.operands]
  have hy : y ∈ o.op.operands := by rw [ho]; simp [Op.operands, Call.operands]
  unfold vMinMax at h
  split at h
  · rename_i k a k' b ex ey
    refine ⟨_, OpP.of_val fun κ M ν ac w B' hB he hs => ⟨_, ?_, rep_int.2 rfl⟩, h⟩
    have e1 := rep_int.1 (ev_rep he hx ex)
    have e2 := rep_int.1 (ev_rep he hy ey)
    rw [exec_builtin ho]
    cases isMax
    · simp [builtin, Builtin.min_, Builtin.min2, e1, e2]
    · simp [builtin, Builtin.max_, Builtin.max2, e1, e2]
  · exact h.elim
def Ent (P : Program) (f : FuncId) : Prop := ∃ fn, P.funcs[f]? = some fn ∧ (fn.name == "runtime.NumGoroutine") = false ∧ fn.body.isNone = false
def boxBlocks (B : Bx) (ν : Nu) (b : Nat) : Prop := ∃ k r, (k, r) ∈ B ∧ (ν k).blk = some b
/-- called with the arguments, in whatever world that holds the boxes B, the function gives r and leaves the boxes as B' -/
def PCB (P : Program) (f : FuncId) (args : List T) (B : Bx) (r : T) (B' : Bx) : Prop :=
  Ent P f ∧ ∀ M ν w vs, Sat ⟨w, boxBlocks B ν, ν⟩ M ν B w → T.reps M ν args vs →
    Calls P f vs.toArray w (fun e w' => ∃ v M', e = .returned v ∧ Mem.ext ⟨w, boxBlocks B ν, ν⟩ M M' ∧ r.rep M' ν v ∧ Sat ⟨w, boxBlocks B ν, ν⟩ M' ν B' w')
def PC (P : Program) (f : FuncId) (args : List T) (r : T) : Prop := PCB P f args [] r []
theorem Sat.nil {κ : Kap} {M : Mem} {ν : Nu} {B : Bx} {w : World} (h : Sat κ M ν B w) (D : Nat → Prop) (ν' : Nu) : Sat ⟨w, D, ν'⟩ M ν [] w :=
  ⟨rfl, rfl, rfl, Nat.zero_le _, Nat.le_refl _, fun _ _ _ => rfl, h.fro, fun _ _ h => (by cases h), fun _ _ _ h => (by cases h), fun _ _ _ _ _ h => (by cases h), by simp⟩
/-- the caller's state behind a call that turned only the boxes B1 -/
theorem Sat.call {κ κ1 : Kap} {M M' : Mem} {ν ν1 : Nu} {B B1 B1' B' B1x : Bx} {w w' : World} (h : Sat κ M ν B w) (hsub : ∀ x ∈ B1, x ∈ B) (h1 : Sat κ1 M' ν1 B1x w') (hκ : κ1.w = w) (hD1 : ∀ b, κ1.D b → boxBlocks B1 ν b)
    (hres1 : ∀ k r, (k, r) ∈ B1' → r.ok M' ν w' k) (hext : Mem.ext κ1 M M')
    (haw1 : ∀ k r b, (k, r) ∈ B1' → (ν k).blk = some b → M' b = none) (hB : ∀ x ∈ B', x ∈ B1' ∨ (x ∈ B ∧ x.1 ∉ B1.map (·.1))) (hk : ∀ x ∈ B', x.1 ∈ B.map (·.1)) (hnd : (B'.map (·.1)).Nodup) : Sat κ M' ν B' w' ∧ Mem.ext κ M M' := by
  subst hκ
  have hsz : κ1.w.heap.size ≤ w'.heap.size := h1.size
  have kept : ∀ k r b, (k, r) ∈ B → k ∉ B1.map (·.1) → (ν k).blk = some b → ¬ boxBlocks B1 ν b := by
    rintro k r b hm hn hb ⟨k', r', hm', hb'⟩
    have := h.inj k r k' r' b hm (hsub _ hm') hb hb'
    subst this
    exact hn (List.mem_map.2 ⟨(k, r'), hm', rfl⟩)
  refine ⟨⟨h1.os.trans h.os, h1.tape.trans h.tape, h1.output.trans h.output, Nat.zero_le _, Nat.le_trans h.size hsz, ?_, h1.fro, ?_, ?_, ?_, hnd⟩, hext.1, fun b o e => (hext.2 b o e).elim .inl fun hb => .inr (hb.elim (fun hb => .inl (Nat.le_trans h.size hb)) fun hd => by
    obtain ⟨k, r, hm, hbk⟩ := hD1 b hd
    exact (h.away k r b (hsub _ hm) hbk).2)⟩
  · intro b hb hD
    rw [← h.unch b hb hD]
    refine h1.unch b (Nat.lt_of_lt_of_le hb h.size) fun hd1 => ?_
    obtain ⟨k, r, hm, hbk⟩ := hD1 b hd1
    rcases (h.away k r b (hsub _ hm) hbk).2 with h2 | h2
    · omega
    · exact hD h2
  · intro k r hm
    rcases hB (k, r) hm with hm1 | ⟨hm2, hn⟩
    · exact hres1 k r hm1
    · refine Res.ok_mono hext.1 (fun b x e hb => ?_) (h.res k r hm2)
      rw [← e]
      exact h1.unch b (Array.getElem?_eq_some_iff.1 e).1 (fun hd => kept k r b hm2 hn hb (hD1 b hd))
  · intro k r b hm hb
    obtain ⟨⟨k0, r0⟩, hm0, hk0⟩ := List.mem_map.1 (hk (k, r) hm)
    simp only at hk0
    subst hk0
    obtain ⟨ha, hc⟩ := h.away k0 r0 b hm0 hb
    refine ⟨?_, hc⟩
    cases hMb : M' b with
    | none => rfl
    | some o =>
      rcases hext.2 b o hMb with h2 | h2 | h2
      · rw [ha] at h2; cases h2
      · have := Res.blk_lt (h.res k0 r0 hm0) hb
        have h2' : κ1.w.heap.size ≤ b := h2
        omega
      · rcases hB (k0, r) hm with hm1 | ⟨_, hn⟩
        · rw [haw1 k0 r b hm1 hb] at hMb; cases hMb
        · exact absurd (hD1 b h2) (kept k0 r0 b hm0 hn hb)
  · intro k r k' r' b hm hm' hb hb'
    obtain ⟨⟨k0, r0⟩, hm0, hk0⟩ := List.mem_map.1 (hk (k, r) hm)
    obtain ⟨⟨k1, r1⟩, hm1, hk1⟩ := List.mem_map.1 (hk (k', r') hm')
    simp only at hk0 hk1
    subst hk0; subst hk1
    exact h.inj _ _ _ _ b hm0 hm1 hb hb'
/-- the function and the captured cells behind a callee's operand -/
def calleeT (t : Option T) : Option (FuncId × List T) :=
  match t with
  | some (.one (.dat (.fn f))) => some (f, [])
  | some (.one (.clo f caps)) => some (f, caps.map .one)
  | some (.one (.dat (.fnc f caps))) => some (f, caps.map fun r => .one (.ref r))
  | _ => none
def evs (P : Program) (env : Env) : List Operand → List TypeId → Option (List T)
  | [], _ => some []
  | x :: xs, ts => match softO (ev P env (ts.headD 0) x) with
    | some t => match evs P env xs ts.tail with
      | some us => some (t :: us)
      | none => none
    | none => none
theorem evs_rep {M : Mem} {ν : Nu} {a : Act} {env : Env} {o : Oper} (he : EnvOn M ν a env o) : ∀ (xs : List Operand) (ts : List TypeId) (us : List T), (∀ x ∈ xs, x ∈ o.op.operands) → evs P env xs ts = some us → T.reps M ν us (xs.map a.eval)
  | [], ts, us, _, h => by simp only [evs, Option.some.injEq] at h; subst h; simp only [T.reps, List.map_nil]
  | x :: xs, ts, us, hx, h => by
    simp only [evs] at h
    split at h
    · rename_i t ht
      split at h
      · rename_i us' hus
        simp only [Option.some.injEq] at h
        subst h
        simp only [T.reps, List.map_cons]
        exact ⟨_, _, rfl, softO_rep he (hx x (by simp)) ht, evs_rep he xs ts.tail us' (fun y hy => hx y (by simp [hy])) hus⟩
      · cases h
    · cases h
theorem T.reps_append {M : Mem} {ν : Nu} : ∀ {ts us : List T} {vs ws : List Value}, T.reps M ν ts vs → T.reps M ν us ws → T.reps M ν (ts ++ us) (vs ++ ws)
  | [], us, vs, ws, h, k => by simp only [T.reps] at h; subst h; simpa using k
  | t :: ts, us, vs, ws, h, k => by
    simp only [T.reps] at h
    obtain ⟨v, vs', e, h1, h2⟩ := h
    subst e
    simp only [List.cons_append, T.reps]
    exact ⟨v, _, rfl, h1, T.reps_append h2 k⟩
theorem reps_ones {M : Mem} {ν : Nu} : ∀ {cs : List Cell} {vs : List Value}, Cell.reps M ν cs vs → T.reps M ν (cs.map .one) vs
  | [], vs, h => by simp only [Cell.reps] at h; simp only [List.map_nil, T.reps]; exact h
  | c :: cs, vs, h => by
    simp only [Cell.reps] at h
    simp only [List.map_cons, T.reps, T.rep]
    obtain ⟨v, vs', e, h1, h2⟩ := h
    exact ⟨v, vs', e, h1, reps_ones h2⟩
theorem reps_refs {M : Mem} {ν : Nu} : ∀ {rs : List (List C)} {vs : List Value}, repRefs M rs vs → T.reps M ν (rs.map fun r => .one (.ref r)) vs
  | [], vs, h => by simp only [repRefs] at h; simp only [List.map_nil, T.reps]; exact h
  | r :: rs, vs, h => by
    simp only [repRefs] at h
    simp only [List.map_cons, T.reps, T.rep, Cell.rep]
    obtain ⟨b, off, mid, vs', e, h1, h2, h3⟩ := h
    exact ⟨_, vs', e, ⟨b, off, mid, rfl, h1, h2⟩, reps_refs h3⟩
theorem exec_call {o : Oper} {f : Operand} {args : List Operand} {ts : Array TypeId} (ho : o.op = .call { callee := .value f, args := args.toArray, argTypes := ts }) {a : Act} {M : Mem} {ν : Nu} {env : Env} (he : EnvOn M ν a env o) {ty : TypeId}
    {g : FuncId} {caps us : List T} (hf : calleeT (ev P env ty f) = some (g, caps)) (hu : evs P env args ts.toList = some us) (hent : Ent P g) (w : World) :
    ∃ vs : List Value, (execOp a.eval o).run P w = .ok (.enter g vs.toArray) w ∧ T.reps M ν (us ++ caps) vs := by
  have hfm : f ∈ o.op.operands := by rw [ho]; simp [Op.operands, Call.operands]
  have ham : ∀ x ∈ args, x ∈ o.op.operands := by intro x hx; rw [ho]; simp [Op.operands, Call.operands, hx]
  have hargs := evs_rep he args ts.toList us ham hu
  obtain ⟨fn, hfn, hname, hbody⟩ := hent
  have hcf : ∀ vs : Array Value, (callFunc g vs).run P w = .ok (.enter g vs) w := by
    intro vs
    unfold callFunc
    simp only [Sem.run_bind, run_program, Result.andThen_ok, hfn, hname, Bool.false_eq_true, if_false, hbody]
    rfl
  unfold calleeT at hf
  split at hf
  · rename_i f' ef
    simp only [Option.some.injEq, Prod.mk.injEq] at hf
    obtain ⟨rfl, rfl⟩ := hf
    have hr := ev_rep he hfm ef
    simp only [T.rep, Cell.rep, C.rep] at hr
    refine ⟨args.map a.eval, ?_, by simpa using hargs⟩
    unfold execOp
    rw [ho]
    simp only [resolve, Sem.run_bind, hr, Deferred.ofValue, Sem.run_pure, Result.andThen_ok, invoke]
    simp [hcf]
  · rename_i f' caps' ef
    simp only [Option.some.injEq, Prod.mk.injEq] at hf
    obtain ⟨rfl, rfl⟩ := hf
    have hr := ev_rep he hfm ef
    simp only [T.rep, Cell.rep] at hr
    obtain ⟨cv, e, hcv⟩ := hr
    refine ⟨args.map a.eval ++ cv, ?_, T.reps_append hargs (reps_ones hcv)⟩
    unfold execOp
    rw [ho]
    simp only [resolve, Sem.run_bind, e, Deferred.ofValue, Sem.run_pure, Result.andThen_ok, invoke]
    simp [hcf]
  · rename_i f' caps' ef
    simp only [Option.some.injEq, Prod.mk.injEq] at hf
    obtain ⟨rfl, rfl⟩ := hf
    have hr := ev_rep he hfm ef
    simp only [T.rep, Cell.rep, C.rep] at hr
    obtain ⟨cv, e, hcv⟩ := hr
    refine ⟨args.map a.eval ++ cv, ?_, T.reps_append hargs (reps_refs hcv)⟩
    unfold execOp
    rw [ho]
    simp only [resolve, Sem.run_bind, e, Deferred.ofValue, Sem.run_pure, Result.andThen_ok, invoke]
    simp [hcf]
  · cases hf
/-- the arguments as they stand, nil slices told apart -/
def evsH (P : Program) (env : Env) : List Operand → List TypeId → Option (List T)
  | [], _ => some []
  | x :: xs, ts => match ev P env (ts.headD 0) x with
    | some t => match evsH P env xs ts.tail with
      | some us => some (t :: us)
      | none => none
    | none => none
theorem evsH_rep {M : Mem} {ν : Nu} {a : Act} {env : Env} {o : Oper} (he : EnvOn M ν a env o) : ∀ (xs : List Operand) (ts : List TypeId) (us : List T), (∀ x ∈ xs, x ∈ o.op.operands) → evsH P env xs ts = some us → T.reps M ν us (xs.map a.eval)
  | [], ts, us, _, h => by simp only [evsH, Option.some.injEq] at h; subst h; simp only [T.reps, List.map_nil]
  | x :: xs, ts, us, hx, h => by
    simp only [evsH] at h
    split at h
    · rename_i t ht
      split at h
      · rename_i us' hus
        simp only [Option.some.injEq] at h
        subst h
        simp only [T.reps, List.map_cons]
        exact ⟨_, _, rfl, ev_rep he (hx x (by simp)) ht, evsH_rep he xs ts.tail us' (fun y hy => hx y (by simp [hy])) hus⟩
      · cases h
    · cases h
theorem exec_callH {o : Oper} {f : Operand} {args : List Operand} {ts : Array TypeId} (ho : o.op = .call { callee := .value f, args := args.toArray, argTypes := ts }) {a : Act} {M : Mem} {ν : Nu} {env : Env} (he : EnvOn M ν a env o) {ty : TypeId}
    {g : FuncId} {caps us : List T} (hf : calleeT (ev P env ty f) = some (g, caps)) (hu : evsH P env args ts.toList = some us) (hent : Ent P g) (w : World) :
    ∃ vs : List Value, (execOp a.eval o).run P w = .ok (.enter g vs.toArray) w ∧ T.reps M ν (us ++ caps) vs := by
  have hfm : f ∈ o.op.operands := by rw [ho]; simp [Op.operands, Call.operands]
  have ham : ∀ x ∈ args, x ∈ o.op.operands := by intro x hx; rw [ho]; simp [Op.operands, Call.operands, hx]
  have hargs := evsH_rep he args ts.toList us ham hu
  obtain ⟨fn, hfn, hname, hbody⟩ := hent
  have hcf : ∀ vs : Array Value, (callFunc g vs).run P w = .ok (.enter g vs) w := by
    intro vs
    unfold callFunc
    simp only [Sem.run_bind, run_program, Result.andThen_ok, hfn, hname, Bool.false_eq_true, if_false, hbody]
    rfl
  unfold calleeT at hf
  split at hf
  · rename_i f' ef
    simp only [Option.some.injEq, Prod.mk.injEq] at hf
    obtain ⟨rfl, rfl⟩ := hf
    have hr := ev_rep he hfm ef
    simp only [T.rep, Cell.rep, C.rep] at hr
    refine ⟨args.map a.eval, ?_, by simpa using hargs⟩
    unfold execOp
    rw [ho]
    simp only [resolve, Sem.run_bind, hr, Deferred.ofValue, Sem.run_pure, Result.andThen_ok, invoke]
    simp [hcf]
  · rename_i f' caps' ef
    simp only [Option.some.injEq, Prod.mk.injEq] at hf
    obtain ⟨rfl, rfl⟩ := hf
    have hr := ev_rep he hfm ef
    simp only [T.rep, Cell.rep] at hr
    obtain ⟨cv, e, hcv⟩ := hr
    refine ⟨args.map a.eval ++ cv, ?_, T.reps_append hargs (reps_ones hcv)⟩
    unfold execOp
    rw [ho]
    simp only [resolve, Sem.run_bind, e, Deferred.ofValue, Sem.run_pure, Result.andThen_ok, invoke]
    simp [hcf]
  · rename_i f' caps' ef
    simp only [Option.some.injEq, Prod.mk.injEq] at hf
    obtain ⟨rfl, rfl⟩ := hf
    have hr := ev_rep he hfm ef
    simp only [T.rep, Cell.rep, C.rep] at hr
    obtain ⟨cv, e, hcv⟩ := hr
    refine ⟨args.map a.eval ++ cv, ?_, T.reps_append hargs (reps_refs hcv)⟩
    unfold execOp
    rw [ho]
    simp only [resolve, Sem.run_bind, e, Deferred.ofValue, Sem.run_pure, Result.andThen_ok, invoke]
    simp [hcf]
  · cases hf
def vCall (P : Program) (ty : TypeId) (f : Operand) (args : List Operand) (ts : List TypeId) (env : Env) (K : T → Prop) : Prop :=
  match calleeT (ev P env ty f), evs P env args ts with
  | some (g, caps), some us => ∃ r, PC P g (us ++ caps) r ∧ K r
  | _, _ => False
theorem vCall_sound {ty : TypeId} {f : Operand} {args : List Operand} {ts : Array TypeId} {env : Env} {B : Bx} {o : Oper} {K : T → Prop} (ho : o.op = .call { callee := .value f, args := args.toArray, argTypes := ts })
    (h : vCall P ty f args ts.toList env K) : ∃ u, OpP P o env B u ∧ K u := by
  unfold vCall at h
  split at h
  · rename_i g caps us hf hu
    obtain ⟨r, hpc, hK⟩ := h
    refine ⟨r, ?_, hK⟩
    intro κ M ν a w B' hB he hs
    obtain ⟨vs, hrun, hreps⟩ := exec_call ho he hf hu hpc.1 w
    unfold Oper.wp
    rw [hrun]
    simp only [Oper.upon]
    refine Calls.mono (hpc.2 M ν w vs (hs.nil _ _) hreps) ?_
    rintro e w' ⟨v, M', rfl, hext, hr, hs'⟩
    obtain ⟨h1, h2⟩ := hs.call (B1 := []) (B1' := []) (B' := B') (fun x hx => by cases hx) hs' rfl (fun b h => h) (fun _ _ h => by cases h) hext (fun _ _ _ h => by cases h) (fun x hx => .inr ⟨hx, by simp⟩) (fun x hx => List.mem_map.2 ⟨x, hx, rfl⟩) hs.nodup
    exact ⟨v, M', rfl, h2, hr, h1⟩
  · exact h.elim
end Go.Sx
