/- A part of the proof: lemmas about the walk of the program and about plain integers and lists. No conditions beyond those that each lemma states. -/
import Derived.Test.YtjpkddhpkohiaaaSxOps2
/-! Indexes, slices, fields, conversions, literals. -/
set_option linter.unusedVariables false
set_option linter.unusedSimpArgs false
namespace Go.Sx
variable {P : Program}

theorem exec_v {o : Oper} {a : Act} {w w' : World} {s : Sem Value} {v : Value} (ho : execOp a.eval o = (do pure (.value (← s)))) (h : s.run P w = .ok v w') : (execOp a.eval o).run P w = .ok (.value v) w' := by
  rw [ho]
  simp only [Sem.run_bind, Sem.run_pure, h, Result.andThen_ok]

/-! ### an index of a string, of an array's value -/
def vIndex (P : Program) (t : TypeId) (x ix : Option T) (K : T → Prop) : Prop :=
  match x, ix with
  | some (.one (.dat (.str l))), some (.one (.dat (.int _ i))) => kdT P t = some .str ∧ 0 ≤ i ∧ ∃ b, l[i.toNat]? = some b ∧ K (I .u8 b.toNat)
  | some (.st r), some (.one (.dat (.int _ i))) => match arT P t with
    | some (len, n, agg) => 0 ≤ i ∧ i < len ∧ (match cutC (i.toNat * n) r with
      | some (_, y) => takeP agg n y K
      | none => False)
    | none => False
  | _, _ => False

theorem extract_mid {vs : Array Value} {v1 v2 v3 : List Value} {off n : Nat} (h : vs.toList = v1 ++ (v2 ++ v3)) (h1 : v1.length = off) (h2 : v2.length = n) : vs.extract off (off + n) = v2.toArray := by
  apply Array.ext'
  rw [Array.toList_extract, List.extract_eq_take_drop, h, ← h1, List.drop_left, Nat.add_sub_cancel_left, ← h2, List.take_left]

theorem part_P {agg : Bool} {n : Nat} {r : List C} {K : T → Prop} (h : takeP agg n r K) :
    ∃ t, K t ∧ ∀ (ty : TypeId) (M : Mem) (ν : Nu) (w : World) (vs : Array Value) (off : Nat) (v1 v2 : List Value), aggT P ty = some agg → szT P ty = some n → vs.toList = v1 ++ v2 → v1.length = off → repRow M r v2 →
      ∃ v, (part ty vs off).run P w = .ok v w ∧ t.rep M ν v := by
  unfold takeP at h
  cases agg with
  | true =>
    simp only [cond_true] at h
    split at h
    · rename_i x y hc
      obtain ⟨e, hl⟩ := cutC_spec hc
      refine ⟨_, h, fun ty M ν w vs off v1 v2 ha hn hvs hoff hr => ?_⟩
      rw [e] at hr
      obtain ⟨x1, x2, e2, h1, h2⟩ := repRow_split hr
      refine ⟨.agg (vs.extract off (off + n)), by simp only [part, Sem.run_bind, run_agg ha, Result.andThen_ok, if_true, run_sz hn, Sem.run_pure], ?_⟩
      rw [extract_mid (v1 := v1) (v2 := x1) (v3 := x2) (by rw [hvs, e2]) hoff (by rw [repRow_length h1, hl])]
      simp only [T.rep]
      exact ⟨_, rfl, by simpa using h1⟩
    · exact h.elim
  | false =>
    simp only [cond_false] at h
    split at h
    · rename_i c cs'
      refine ⟨_, h, fun ty M ν w vs off v1 v2 ha hn hvs hoff hr => ?_⟩
      simp only [repRow] at hr
      obtain ⟨v, vs', e, h1, h2⟩ := hr
      have hv : vs[off]? = some v := by
        rw [← Array.getElem?_toList, hvs, List.getElem?_append_right (by omega), e, ← hoff]; simp
      refine ⟨v, by simp only [part, Sem.run_bind, run_agg ha, Result.andThen_ok, Bool.false_eq_true, if_false, hv, Sem.run_pure], ?_⟩
      simp only [T.rep, Cell.rep]; exact h1
    · exact h.elim
theorem part_T {agg : Bool} {n : Nat} {r : List Cell} {K : T → Prop} (h : takeT agg n r K) :
    ∃ t, K t ∧ ∀ (ty : TypeId) (M : Mem) (ν : Nu) (w : World) (vs : Array Value) (off : Nat) (v1 v2 : List Value), aggT P ty = some agg → szT P ty = some n → vs.toList = v1 ++ v2 → v1.length = off → Cell.reps M ν r v2 →
      ∃ v, (part ty vs off).run P w = .ok v w ∧ t.rep M ν v := by
  unfold takeT at h
  cases agg with
  | true =>
    simp only [cond_true] at h
    split at h
    · rename_i x y hc
      obtain ⟨e, hl⟩ := cutC_spec hc
      refine ⟨_, h, fun ty M ν w vs off v1 v2 ha hn hvs hoff hr => ?_⟩
      rw [e] at hr
      obtain ⟨x1, x2, e2, h1, h2⟩ := Cell.reps_split hr
      refine ⟨.agg (vs.extract off (off + n)), by simp only [part, Sem.run_bind, run_agg ha, Result.andThen_ok, if_true, run_sz hn, Sem.run_pure], ?_⟩
      rw [extract_mid (v1 := v1) (v2 := x1) (v3 := x2) (by rw [hvs, e2]) hoff (by rw [Cell.reps_length h1, hl])]
      exact mkAgg_rep (by simpa using h1)
    · exact h.elim
  | false =>
    simp only [cond_false] at h
    split at h
    · rename_i c cs'
      refine ⟨_, h, fun ty M ν w vs off v1 v2 ha hn hvs hoff hr => ?_⟩
      simp only [Cell.reps] at hr
      obtain ⟨v, vs', e, h1, h2⟩ := hr
      have hv : vs[off]? = some v := by
        rw [← Array.getElem?_toList, hvs, List.getElem?_append_right (by omega), e, ← hoff]; simp
      refine ⟨v, by simp only [part, Sem.run_bind, run_agg ha, Result.andThen_ok, Bool.false_eq_true, if_false, hv, Sem.run_pure], ?_⟩
      simp only [T.rep]; exact h1
    · exact h.elim

theorem vIndex_sound {t : TypeId} {x ix : Operand} {tx ti : TypeId} {env : Env} {B : Bx} {o : Oper} {K : T → Prop} (ho : o.op = .index t x ix)
    (h : vIndex P t (ev P env tx x) (ev P env ti ix) K) : ∃ u, OpP P o env B u ∧ K u := by
  have hx : x ∈ o.op.operands := by rw [ho]; simp [Op.operands]
  have hi : ix ∈ o.op.operands := by rw [ho]; simp [Op.operands]
  have hex : ∀ (a : Act), execOp a.eval o = (do pure (.value (← Instr.index t (a.eval x) (a.eval ix)))) := by
    intro a; unfold execOp; rw [ho]
  unfold vIndex at h
  split at h
  · rename_i l k0 i ex ei
    obtain ⟨hk, h0, b, hb, hK⟩ := h
    refine ⟨_, OpP.of_val fun κ M ν ac w B' hB he hs => ⟨_, exec_v (hex ac) ?_, rep_int.2 rfl⟩, hK⟩
    have e1 := rep_str.1 (ev_rep he hx ex)
    have e2 := rep_int.1 (ev_rep he hi ei)
    rw [e1, e2]
    have hb' : (ByteArray.mk l.toArray)[i.toNat]? = some b := by
      have hlt := (List.getElem?_eq_some_iff.1 hb).1
      have hb2 := (List.getElem?_eq_some_iff.1 hb).2
      have hsz : i.toNat < (ByteArray.mk l.toArray).size := by rw [size_mk]; exact hlt
      rw [getElem?_pos (ByteArray.mk l.toArray) i.toNat hsz]
      congr 1
    simp only [Instr.index, asIntOf, Sem.run_bind, Sem.run_pure, Result.andThen_ok, run_underlying (kdT_str hk), h0, if_true, hb']
  · rename_i r k0 i ex ei
    split at h
    · rename_i len n agg har
      obtain ⟨h0, hlt, h⟩ := h
      obtain ⟨e, hu, hsz, hag⟩ := arT_spec har
      split at h
      · rename_i pre y hc
        obtain ⟨ec, hlen⟩ := cutC_spec hc
        obtain ⟨u, hk, hp⟩ := part_P (P := P) h
        refine ⟨u, OpP.of_val fun κ M ν ac w B' hB he hs => ?_, hk⟩
        have hr := ev_rep he hx ex
        have hiv := rep_int.1 (ev_rep he hi ei)
        simp only [T.rep] at hr
        obtain ⟨vs, ev, hrow⟩ := hr
        rw [ec] at hrow
        obtain ⟨v1, v2, e2, h1, h2⟩ := repRow_split hrow
        obtain ⟨v, hv, hrep⟩ := hp e M ν w vs (i.toNat * n) v1 v2 hag hsz e2 (by rw [repRow_length h1, hlen]) h2
        refine ⟨v, exec_v (hex ac) ?_, hrep⟩
        rw [ev, hiv]
        simp only [Instr.index, asIntOf, Sem.run_bind, Sem.run_pure, Result.andThen_ok, run_underlying hu, h0, hlt, and_self, if_true, run_sz hsz, hv]
      · exact h.elim
    · exact h.elim
  · exact h.elim

/-! ### a field of a value -/
def vField (P : Program) (s f : Nat) (x : Option T) (K : T → Prop) : Prop :=
  match fldT P s f with
  | some (off, n, agg) => match x with
    | some (.st r) => match cutC off r with
      | some (_, y) => takeP agg n y K
      | none => False
    | some (.agg r) => match cutC off r with
      | some (_, y) => takeT agg n y K
      | none => False
    | _ => False
  | none => False
theorem vField_sound {s f : Nat} {x : Operand} {ty : TypeId} {env : Env} {B : Bx} {o : Oper} {K : T → Prop} (ho : o.op = .field s x f)
    (h : vField P s f (ev P env ty x) K) : ∃ u, OpP P o env B u ∧ K u := by
  have hx : x ∈ o.op.operands := by rw [ho]; simp [Op.operands]
  have hex : ∀ (a : Act), execOp a.eval o = (do pure (.value (← Instr.field s (a.eval x) f))) := by
    intro a; unfold execOp; rw [ho]
  unfold vField at h
  split at h
  · rename_i off n agg hf
    obtain ⟨fs, fd, hu, hfd, hoff, hsz, hag, hn⟩ := fldT_spec hf
    split at h
    · rename_i r ex
      split at h
      · rename_i pre y hc
        obtain ⟨ec, hlen⟩ := cutC_spec hc
        obtain ⟨u, hk, hp⟩ := part_P (P := P) h
        refine ⟨u, OpP.of_val fun κ M ν ac w B' hB he hs => ?_, hk⟩
        have hr := ev_rep he hx ex
        simp only [T.rep] at hr
        obtain ⟨vs, ev, hrow⟩ := hr
        rw [ec] at hrow
        obtain ⟨v1, v2, e2, h1, h2⟩ := repRow_split hrow
        obtain ⟨v, hv, hrep⟩ := hp fd.type M ν w vs off v1 v2 hag hsz e2 (by rw [repRow_length h1, hlen]) h2
        refine ⟨v, exec_v (hex ac) ?_, hrep⟩
        rw [ev]
        simp only [Instr.field, asAgg, Sem.run_bind, Sem.run_pure, Result.andThen_ok, run_underlying hu, hfd, hoff, hv]
      · exact h.elim
    · rename_i r ex
      split at h
      · rename_i pre y hc
        obtain ⟨ec, hlen⟩ := cutC_spec hc
        obtain ⟨u, hk, hp⟩ := part_T (P := P) h
        refine ⟨u, OpP.of_val fun κ M ν ac w B' hB he hs => ?_, hk⟩
        have hr := ev_rep he hx ex
        simp only [T.rep] at hr
        obtain ⟨vs, ev, hrow⟩ := hr
        rw [ec] at hrow
        obtain ⟨v1, v2, e2, h1, h2⟩ := Cell.reps_split hrow
        obtain ⟨v, hv, hrep⟩ := hp fd.type M ν w vs off v1 v2 hag hsz e2 (by rw [Cell.reps_length h1, hlen]) h2
        refine ⟨v, exec_v (hex ac) ?_, hrep⟩
        rw [ev]
        simp only [Instr.field, asAgg, Sem.run_bind, Sem.run_pure, Result.andThen_ok, run_underlying hu, hfd, hoff, hv]
      · exact h.elim
    · exact h.elim
  · exact h.elim

/-! ### a part of a tuple -/
def vExtract (x : Option T) (i : Nat) (K : T → Prop) : Prop :=
  match x with
  | some (.tup ts) => match ts[i]? with
    | some t => K t
    | none => False
  | _ => False
theorem T.reps_at {M : Mem} {ν : Nu} : ∀ {ts : List T} {vs : List Value} {i : Nat} {t : T}, T.reps M ν ts vs → ts[i]? = some t → ∃ v, vs[i]? = some v ∧ t.rep M ν v
  | [], vs, i, t, h, hi => by simp at hi
  | u :: ts, vs, i, t, h, hi => by
    simp only [T.reps] at h
    obtain ⟨v, vs', e, h1, h2⟩ := h
    subst e
    cases i with
    | zero => simp at hi; subst hi; exact ⟨v, by simp, h1⟩
    | succ i => obtain ⟨v', hv, hr⟩ := T.reps_at h2 (by simpa using hi); exact ⟨v', by simpa using hv, hr⟩
theorem vExtract_sound {x : Operand} {i : Nat} {ty : TypeId} {env : Env} {B : Bx} {o : Oper} {K : T → Prop} (ho : o.op = .extract x i)
    (h : vExtract (ev P env ty x) i K) : ∃ u, OpP P o env B u ∧ K u := by
  have hx : x ∈ o.op.operands := by rw [ho]; simp [Op.operands]
  have hex : ∀ (a : Act), execOp a.eval o = (do pure (.value (← Instr.extract (a.eval x) i))) := by
    intro a; unfold execOp; rw [ho]
  unfold vExtract at h
  split at h
  · rename_i ts ex
    split at h
    · rename_i t ht
      refine ⟨t, OpP.of_val fun κ M ν ac w B' hB he hs => ?_, h⟩
      have hr := ev_rep he hx ex
      simp only [T.rep] at hr
      obtain ⟨vs, ev, hts⟩ := hr
      obtain ⟨v, hv, hrep⟩ := T.reps_at hts ht
      refine ⟨v, exec_v (hex ac) ?_, hrep⟩
      rw [ev]
      simp [Instr.extract, hv]
    · exact h.elim
  · exact h.elim

/-! ### slices -/
def bnd (d : Int) (x : Option (Option T)) : Option Int :=
  match x with
  | none => some d
  | some (some (.one (.dat (.int _ i)))) => some i
  | _ => none
def vSlice (P : Program) (t : TypeId) (x : Option T) (lo hi : Option (Option T)) (K : T → Prop) : Prop :=
  match x with
  | some (.one (.dat (.str l))) => match bnd 0 lo, bnd l.length hi with
    | some i, some j => kdT P t = some .str ∧ 0 ≤ i ∧ i ≤ j ∧ j ≤ l.length ∧ K (S ((l.take j.toNat).drop i.toNat))
    | _, _ => False
  | some (.one (.dat (.sl sz rows))) => match elT P t, bnd 0 lo, bnd rows.length hi with
    | some (n, _), some i, some j => n = sz ∧ 0 ≤ i ∧ i ≤ j ∧ j ≤ rows.length ∧ K (.one (.dat (.sl sz ((rows.take j.toNat).drop i.toNat))))
    | _, _, _ => False
  | _ => False

theorem bnd_run {M : Mem} {ν : Nu} {a : Act} {env : Env} {o : Oper} {lo : Option Operand} {ti : TypeId} {d i : Int} (he : EnvOn M ν a env o) (hlo : ∀ x, lo = some x → x ∈ o.op.operands)
    (h : bnd d (lo.map (ev P env ti)) = some i) : (lo = none ∧ i = d) ∨ ∃ x k, lo = some x ∧ a.eval x = .int k i := by
  cases lo with
  | none => simp only [bnd, Option.map_none, Option.some.injEq] at h; exact .inl ⟨rfl, h.symm⟩
  | some x =>
    simp only [bnd, Option.map_some] at h
    split at h
    · rename_i e; cases e
    · rename_i k j e
      simp only [Option.some.injEq] at h e
      subst h
      exact .inr ⟨x, k, rfl, rep_int.1 (ev_rep he (hlo x rfl) e)⟩
    · cases h

theorem run_bounds {isSlice : Bool} {len cap : Nat} {lo hi : Option Value} {i j : Int} (w : World) (hlo : (lo = none ∧ i = 0) ∨ ∃ k, lo = some (.int k i)) (hhi : (hi = none ∧ j = len) ∨ ∃ k, hi = some (.int k j))
    (h0 : 0 ≤ i) (hij : i ≤ j) (hj : j ≤ cap) : (Instr.sliceBounds isSlice len cap lo hi none).run P w = .ok (i.toNat, j.toNat, cap) w := by
  have e : ((j.toNat : Nat) : Int) = j := Int.toNat_of_nonneg (by omega)
  unfold Instr.sliceBounds
  rcases hhi with ⟨rfl, rfl⟩ | ⟨k, rfl⟩ <;> rcases hlo with ⟨rfl, rfl⟩ | ⟨k', rfl⟩
  · simp
  · simp only [Sem.run_bind, Sem.run_pure, Result.andThen_ok, Instr.sliceBound, asIntOf]
    simp [h0, hij]
  · simp only [Sem.run_bind, Sem.run_pure, Result.andThen_ok, Instr.sliceBound, asIntOf]
    simp [(by omega : 0 ≤ j), hj]
  · simp only [Sem.run_bind, Sem.run_pure, Result.andThen_ok, Instr.sliceBound, asIntOf]
    simp [(by omega : 0 ≤ j), hj, h0, hij, e]

theorem extract_mk (l : List UInt8) (i j : Nat) : (ByteArray.mk l.toArray).extract i j = ByteArray.mk ((l.take j).drop i).toArray := by
  apply ByteArray.ext
  simp [ByteArray.data_extract, List.extract_eq_take_drop, List.drop_take]

theorem vSlice_sound {t : TypeId} {x : Operand} {lo hi : Option Operand} {tx ti : TypeId} {env : Env} {B : Bx} {o : Oper} {K : T → Prop} (ho : o.op = .slice t x lo hi none)
    (h : vSlice P t (ev P env tx x) (lo.map (ev P env ti)) (hi.map (ev P env ti)) K) : ∃ u, OpP P o env B u ∧ K u := by
  have hx : x ∈ o.op.operands := by rw [ho]; simp [Op.operands]
  have hlo : ∀ y, lo = some y → y ∈ o.op.operands := by intro y e; rw [ho, e]; simp [Op.operands]
  have hhi : ∀ y, hi = some y → y ∈ o.op.operands := by intro y e; rw [ho, e]; cases lo <;> simp [Op.operands]
  have hex : ∀ (a : Act), execOp a.eval o = (do pure (.value (← Instr.sliceAt t (a.eval x) (lo.map a.eval) (hi.map a.eval) none))) := by
    intro a; unfold execOp; rw [ho]; rfl
  have conv : ∀ {M : Mem} {ν : Nu} {a : Act} {d i : Int} {y : Option Operand}, EnvOn M ν a env o → (∀ z, y = some z → z ∈ o.op.operands) → bnd d (y.map (ev P env ti)) = some i → (y.map a.eval = none ∧ i = d) ∨ ∃ k, y.map a.eval = some (.int k i) := by
    intro M ν a d i y he hy hb
    rcases bnd_run he hy hb with ⟨rfl, e⟩ | ⟨z, k, rfl, e⟩
    · exact .inl ⟨rfl, e⟩
    · exact .inr ⟨k, by simp [e]⟩
  unfold vSlice at h
  split at h
  · rename_i l ex
    split at h
    · rename_i i j ei ej
      obtain ⟨hk, h0, hij, hj, hK⟩ := h
      refine ⟨_, OpP.of_val fun κ M ν ac w B' hB he hs => ⟨_, exec_v (hex ac) ?_, rep_str.2 rfl⟩, hK⟩
      have e1 := rep_str.1 (ev_rep he hx ex)
      have hu := kdT_str hk
      rw [e1]
      have hb := run_bounds (P := P) (isSlice := false) (len := l.length) (cap := l.length) w (conv he hlo ei) (conv he hhi ej) h0 hij hj
      simp only [Instr.sliceAt, Sem.run_bind, run_underlying hu, Result.andThen_ok, Instr.slice, Option.isSome_none, Bool.false_eq_true, if_false, size_mk, hb, Sem.run_pure, extract_mk]
    · exact h.elim
  · rename_i sz rows ex
    split at h
    · rename_i n agg i j hel ei ej
      obtain ⟨rfl, h0, hij, hj, hK⟩ := h
      obtain ⟨e, hu, hsz, _⟩ := elT_spec hel
      refine ⟨_, OpP.of_val fun κ M ν ac w B' hB he hs => ?_, hK⟩
      have hr := ev_rep he hx ex
      simp only [T.rep, Cell.rep, C.rep] at hr
      obtain ⟨a, cap, mid, ev, hc1, hc2, hrows, hor⟩ := hr
      have hb := run_bounds (P := P) (isSlice := true) (len := rows.length) (cap := cap) w (conv he hlo ei) (conv he hhi ej) h0 hij (by omega)
      refine ⟨_, exec_v (v := .slice (if cap = i.toNat then a else a.map (·.add (i.toNat * n))) (j.toNat - i.toNat) (cap - i.toNat)) (hex ac) ?_, ?_⟩
      · rw [ev]
        simp only [Instr.sliceAt, Sem.run_bind, run_underlying hu, Result.andThen_ok, Instr.slice, hb, run_sz hsz, Sem.run_pure]
      · have hlen : ((rows.take j.toNat).drop i.toNat).length = j.toNat - i.toNat := by simp; omega
        have hsplit : rows = rows.take i.toNat ++ ((rows.take j.toNat).drop i.toNat ++ rows.drop j.toNat) := by
          have e1 : rows.take i.toNat = (rows.take j.toNat).take i.toNat := by rw [List.take_take, Nat.min_eq_left (by omega)]
          rw [e1, ← List.append_assoc, List.take_append_drop, List.take_append_drop]
        rw [hsplit] at hrows
        obtain ⟨v1, v23, e1, h1, h23⟩ := repRows_split hrows
        obtain ⟨v2, v3, e2, h2, h3⟩ := repRows_split h23
        simp only [T.rep, Cell.rep, C.rep]
        refine ⟨_, cap - i.toNat, v2, by rw [hlen], by omega, by omega, h2, ?_⟩
        by_cases hlt : i.toNat < j.toNat
        · right
          rcases hor with hnil | ⟨b, off, ea, hat⟩
          · exfalso; rw [hnil] at hj; simp at hj; omega
          · refine ⟨b, off + i.toNat * n, ?_, ?_⟩
            · rw [if_neg (by omega), ea]; simp [addr_add]
            · have := At.sub (v1 := v1) (v2 := v2) (v3 := v3) (by rw [← e2, ← e1]; exact hat)
              rw [repRows_length h1, List.length_take, Nat.min_eq_left (by omega)] at this
              exact this
        · left
          exact List.length_eq_zero_iff.1 (by rw [hlen]; omega)
    · exact h.elim
  · exact h.elim

/-! ### nil checks -/
def vNil (x : Option T) (K : T → Prop) : Prop :=
  match x with
  | some (.one (.ptr k o)) => K (.one (.ptr k o))
  | some (.one (.rp k sz i f)) => K (.one (.rp k sz i f))
  | some (.one (.ref r)) => K (.one (.ref r))
  | some (.one (.dat (.fn f))) => K (.one (.dat (.fn f)))
  | some (.one (.clo f caps)) => K (.one (.clo f caps))
  | _ => False
theorem vNil_sound {x : Operand} {ty : TypeId} {env : Env} {B : Bx} {o : Oper} {K : T → Prop} (ho : o.op = .nilCheck x)
    (h : vNil (ev P env ty x) K) : ∃ u, OpP P o env B u ∧ K u := by
  have hx : x ∈ o.op.operands := by rw [ho]; simp [Op.operands]
  unfold vNil at h
  split at h <;> try exact h.elim
  all_goals
    rename_i ex
    refine ⟨_, OpP.of_val fun κ M ν ac w B' hB he hs => ?_, h⟩
    have hr := ev_rep he hx ex
    refine ⟨ac.eval x, ?_, hr⟩
    simp only [T.rep, Cell.rep, C.rep] at hr
  · obtain ⟨b, _, e⟩ := hr; unfold execOp; rw [ho]; simp only [e]; rfl
  · obtain ⟨b, _, e⟩ := hr; unfold execOp; rw [ho]; simp only [e]; rfl
  · obtain ⟨b, off, vs, e, _⟩ := hr; unfold execOp; rw [ho]; simp only [e]; rfl
  · unfold execOp; rw [ho]; simp only [hr]; rfl
  · obtain ⟨vs, e, _⟩ := hr; unfold execOp; rw [ho]; simp only [e]; rfl

/-! ### conversions -/
def vConv (P : Program) (src dst : TypeId) (x : Option T) (K : T → Prop) : Prop :=
  match kdT P src, kdT P dst, x with
  | some _, some (.int k), some (.one (.dat (.int _ n))) => K (I k (k.wrap n))
  | some .str, some .str, some (.one (.dat (.str l))) => K (S l)
  | _, _, _ => False
theorem vConv_sound {src dst : TypeId} {x : Operand} {ty : TypeId} {env : Env} {B : Bx} {o : Oper} {K : T → Prop} (ho : o.op = .convert src dst x)
    (h : vConv P src dst (ev P env ty x) K) : ∃ u, OpP P o env B u ∧ K u := by
  have hx : x ∈ o.op.operands := by rw [ho]; simp [Op.operands]
  have hex : ∀ (a : Act), execOp a.eval o = (do pure (.value (← convert src dst (a.eval x)))) := by
    intro a; unfold execOp; rw [ho]
  unfold vConv at h
  split at h
  · rename_i ks k k0 n hs hd ex
    refine ⟨_, OpP.of_val fun κ M ν ac w B' hB he hsat => ⟨_, exec_v (hex ac) ?_, rep_int.2 rfl⟩, h⟩
    have e1 := rep_int.1 (ev_rep he hx ex)
    have hsrc : ∃ d, P.underlying src = some d := by
      unfold kdT at hs; split at hs <;> first | (exact ⟨_, by assumption⟩) | cases hs
    obtain ⟨d, hsrc⟩ := hsrc
    rw [e1]
    unfold convert
    simp only [Sem.run_bind, run_underlying hsrc, run_underlying (kdT_int hd), Result.andThen_ok]
    rfl
  · rename_i l hs hd ex
    refine ⟨_, OpP.of_val fun κ M ν ac w B' hB he hsat => ⟨_, exec_v (hex ac) ?_, rep_str.2 rfl⟩, h⟩
    have e1 := rep_str.1 (ev_rep he hx ex)
    rw [e1]
    unfold convert
    simp only [Sem.run_bind, run_underlying (kdT_str hs), run_underlying (kdT_str hd), Result.andThen_ok]
    rfl
  · exact h.elim

end Go.Sx
