/- A part of the proof: lemmas about the walk of the program and about plain integers and lists. No conditions beyond those that each lemma states. -/
import Derived.Test.YtmpfdejckbceiaaOp4
/-! Indexes, slices, fields, conversions, literals. -/
set_option linter.unusedVariables false
set_option linter.unusedSimpArgs false
namespace Go.Sx
variable {P : Program}

theorem exec_v {o : Oper} {a : Act} {w w' : World} {s : Sem Value} {v : Value} (ho : execOp a.eval o = (do pure (.value (← s)))) (h : s.run P w = .ok v w') : (execOp a.eval o).run P w = .ok (.value v) w' := by
  rw [ho]
  simp only [Sem.run_bind, Sem.run_pure, h, Result.andThen_ok]

/-! ### an index of a string, of an array's value -/
def vIndex (P : Program) (t : TypeId) (x ix : Option T) (K : T → Prop) : Prop :=
  match x, ix with
  | some (.one (.dat (.str l))), some (.one (.dat (.int _ i))) => kdT P t = some .str ∧ 0 ≤ i ∧ ∃ b, l[i.toNat]? = some b ∧ K (I .u8 b.toNat)
  | some (.st r), some (.one (.dat (.int _ i))) => match arT P t with
    | some (len, n, agg) => 0 ≤ i ∧ i < len ∧ (match cutC (i.toNat * n) r with
      | some (_, y) => takeP agg n y K
      | none => False)
    | none => False
  | _, _ => False

theorem extract_mid {vs : Array Value} {v1 v2 v3 : List Value} {off n : Nat} (h : vs.toList = v1 ++ (v2 ++ v3)) (h1 : v1.length = off) (h2 : v2.length = n) : vs.extract off (off + n) = v2.toArray := by
  apply Array.ext'
  rw [Array.toList_extract, List.extract_eq_take_drop, h, ← h1, List.drop_left, Nat.add_sub_cancel_left, ← h2, List.take_left]

theorem part_P {agg : Bool} {n : Nat} {r : List C} {K : T → Prop} (h : takeP agg n r K) :
    ∃ t, K t ∧ ∀ (ty : TypeId) (M : Mem) (ν : Nu) (w : World) (vs : Array Value) (off : Nat) (v1 v2 : List Value), aggT P ty = some agg → szT P ty = some n → vs.toList = v1 ++ v2 → v1.length = off → repRow M r v2 →
      ∃ v, (part ty vs off).run P w = .ok v w ∧ t.rep M ν v := by
  unfold takeP at h
  cases agg with
  | true =>
    simp only [cond_true] at h
    split at h
    · rename_i x y hc
      obtain ⟨e, hl⟩ := cutC_spec hc
      refine ⟨_, h, fun ty M ν w vs off v1 v2 ha hn hvs hoff hr => ?_⟩
      rw [e] at hr
      obtain ⟨x1, x2, e2, h1, h2⟩ := repRow_split hr
      refine ⟨.agg (vs.extract off (off + n)), by simp only [part, Sem.run_bind, run_agg ha, Result.andThen_ok, if_true, run_sz hn, Sem.run_pure], ?_⟩
      rw [extract_mid (v1 := v1) (v2 := x1) (v3 := x2) (by rw [hvs, e2]) hoff (by rw [repRow_length h1, hl])]
      simp only [T.rep]
      exact ⟨_, rfl, by simpa using h1⟩
    · exact h.elim
  | false =>
    simp only [cond_false] at h
    split at h
    · rename_i c cs'
      refine ⟨_, h, fun ty M ν w vs off v1 v2 ha hn hvs hoff hr => ?_⟩
      simp only [repRow] at hr
      obtain ⟨v, vs', e, h1, h2⟩ := hr
      have hv : vs[off]? = some v := by
        rw [← Array.getElem?_toList, hvs, List.getElem?_append_right (by omega), e, ← hoff]; simp
      refine ⟨v, by simp only [part, Sem.run_bind, run_agg ha, Result.andThen_ok, Bool.false_eq_true, if_false, hv, Sem.run_pure], ?_⟩
      simp only [T.rep, Cell.rep]; exact h1
    · exact h.elim
theorem part_T {agg : Bool} {n : Nat} {r : List Cell} {K : T → Prop} (h : takeT agg n r K) :
    ∃ t, K t ∧ ∀ (ty : TypeId) (M : Mem) (ν : Nu) (w : World) (vs : Array Value) (off : Nat) (v1 v2 : List Value), aggT P ty = some agg → szT P ty = some n → vs.toList = v1 ++ v2 → v1.length = off → Cell.reps M ν r v2 →
      ∃ v, (part ty vs off).run P w = .ok v w ∧ t.rep M ν v := by
  unfold takeT at h
  cases agg with
  | true =>
    simp only [cond_true] at h
    split at h
    · rename_i x y hc
      obtain ⟨e, hl⟩ := cutC_spec hc
      refine ⟨_, h, fun ty M ν w vs off v1 v2 ha hn hvs hoff hr => ?_⟩
      rw [e] at hr
      obtain ⟨x1, x2, e2, h1, h2⟩ := Cell.reps_split hr
      refine ⟨.agg (vs.extract off (off + n)), by simp only [part, Sem.run_bind, run_agg ha, Result.andThen_ok, if_true, run_sz hn, Sem.run_pure], ?_⟩
      rw [extract_mid (v1 := v1) (v2 := x1) (v3 := x2) (by rw [hvs, e2]) hoff (by rw [Cell.reps_length h1, hl])]
      exact mkAgg_rep (by simpa using h1)
    · exact h.elim
  | false =>
    simp only [cond_false] at h
    split at h
    · rename_i c cs'
      refine ⟨_, h, fun ty M ν w vs off v1 v2 ha hn hvs hoff hr => ?_⟩
      simp only [Cell.reps] at hr
      obtain ⟨v, vs', e, h1, h2⟩ := hr
      have hv : vs[off]? = some v := by
        rw [← Array.getElem?_toList, hvs, List.getElem?_append_right (by omega), e, ← hoff]; simp
      refine ⟨v, by simp only [part, Sem.run_bind, run_agg ha, Result.andThen_ok, Bool.false_eq_true, if_false, hv, Sem.run_pure], ?_⟩
      simp only [T.rep]; exact h1
    · exact h.elim

theorem vIndex_sound {t : TypeId} {x ix : Operand} {tx ti : TypeId} {env : Env} {B : Bx} {o : Oper} {K : T → Prop} (ho : o.op = .index t x ix)
    (h : vIndex P t (ev P env tx x) (ev P env ti ix) K) : ∃ u, OpP P o env B u ∧ K u := by
  have hx : x ∈ o.op.operands := by rw [ho]; simp [Op.operands]
  have hi : ix ∈ o.op.operands := by rw [ho]; simp [Op.operands]
  have hex : ∀ (a : Act), execOp a.eval o = (do pure (.value (← Instr.index t (a.eval x) (a.eval ix)))) := by
    intro a; unfold execOp; rw [ho]
  unfold vIndex at h
  split at h
  · rename_i l k0 i ex ei
    obtain ⟨hk, h0, b, hb, hK⟩ := h
    refine ⟨_, OpP.of_val fun κ M ν ac w B' hB he hs => ⟨_, exec_v (hex ac) ?_, rep_int.2 rfl⟩, hK⟩
    have e1 := rep_str.1 (ev_rep he hx ex)
    have e2 := rep_int.1 (ev_rep he hi ei)
    rw [e1, e2]
    have hb' : (ByteArray.mk l.toArray)[i.toNat]? = some b := by
      have hlt := (List.getElem?_eq_some_iff.1 hb).1
      have hb2 := (List.getElem?_eq_some_iff.1 hb).2
      have hsz : i.toNat < (ByteArray.mk l.toArray).size := by rw [size_mk]; exact hlt
      rw [getElem?_pos (ByteArray.mk l.toArray) i.toNat hsz]
      congr 1
    simp only [Instr.index, asIntOf, Sem.run_bind, Sem.run_pure, Result.andThen_ok, run_underlying (kdT_str hk), h0, if_true, hb']
  · rename_i r k0 i ex ei
    split at h
    · rename_i len n agg har
      obtain ⟨h0, hlt, h⟩ := h
      obtain ⟨e, hu, hsz, hag⟩ := arT_spec har
      split at h
      · rename_i pre y hc
        obtain ⟨ec, hlen⟩ := cutC_spec hc
        obtain ⟨u, hk, hp⟩ := part_P (P := P) h
        refine ⟨u, OpP.of_val fun κ M ν ac w B' hB he hs => ?_, hk⟩
        have hr := ev_rep he hx ex
        have hiv := rep_int.1 (ev_rep he hi ei)
        simp only [T.rep] at hr
        obtain ⟨vs, ev, hrow⟩ := hr
        rw [ec] at hrow
        obtain ⟨v1, v2, e2, h1, h2⟩ := repRow_split hrow
        obtain ⟨v, hv, hrep⟩ := hp e M ν w vs (i.toNat * n) v1 v2 hag hsz e2 (by rw [repRow_length h1, hlen]) h2
        refine ⟨v, exec_v (hex ac) ?_, hrep⟩
        rw [ev, hiv]
        simp only [Instr.index, asIntOf, Sem.run_bind, Sem.run_pure, Result.andThen_ok, run_underlying hu, h0, hlt, and_self, if_true, run_sz hsz, hv]
      · exact h.elim
    · exact h.elim
  · exact h.elim

/-! ### a field of a value -/
def vField (P : Program) (s f : Nat) (x : Option T) (K : T → Prop) : Prop :=
  match fldT P s f with
  | some (off, n, agg) => match x with
    | some (.st r) => match cutC off r with
      | some (_, y) => takeP agg n y K
      | none => False
    | some (.agg r) => match cutC off r with
      | some (_, y) => takeT agg n y K
      | none => False
    | _ => False
  | none => False
theorem vField_sound {s f : Nat} {x : Operand} {ty : TypeId} {env : Env} {B : Bx} {o : Oper} {K : T → Prop} (ho : o.op = .field s x f)
    (h : vField P s f (ev P env ty x) K) : ∃ u, OpP P o env B u ∧ K u := by
  have hx : x ∈ o.op.operands := by rw [ho]; simp [Op.operands]
  have hex : ∀ (a : Act), execOp a.eval o = (do pure (.value (← Instr.field s (a.eval x) f))) := by
    intro a; unfold execOp; rw [ho]
  unfold vField at h
  split at h
  · rename_i off n agg hf
    obtain ⟨fs, fd, hu, hfd, hoff, hsz, hag, hn⟩ := fldT_spec hf
    split at h
    · rename_i r ex
      split at h
      · rename_i pre y hc
        obtain ⟨ec, hlen⟩ := cutC_spec hc
        obtain ⟨u, hk, hp⟩ := part_P (P := P) h
        refine ⟨u, OpP.of_val fun κ M ν ac w B' hB he hs => ?_, hk⟩
        have hr := ev_rep he hx ex
        simp only [T.rep] at hr
        obtain ⟨vs, ev, hrow⟩ := hr
        rw [ec] at hrow
        obtain ⟨v1, v2, e2, h1, h2⟩ := repRow_split hrow
        obtain ⟨v, hv, hrep⟩ := hp fd.type M ν w vs off v1 v2 hag hsz e2 (by rw [repRow_length h1, hlen]) h2
        refine ⟨v, exec_v (hex ac) ?_, hrep⟩
        rw [ev]
        simp only [Instr.field, asAgg, Sem.run_bind, Sem.run_pure, Result.andThen_ok, run_underlying hu, hfd, hoff, hv]
      · exact h.elim
    · rename_i r ex
      split at h
      · rename_i pre y hc
        obtain ⟨ec, hlen⟩ := cutC_spec hc
        obtain ⟨u, hk, hp⟩ := part_T (P := P) h
        refine ⟨u, OpP.of_val fun κ M ν ac w B' hB he hs => ?_, hk⟩
        have hr := ev_rep he hx ex
        simp only [T.rep] at hr
        obtain ⟨vs, ev, hrow⟩ := hr
        rw [ec] at hrow
        obtain ⟨v1, v2, e2, h1, h2⟩ := Cell.reps_split hrow
        obtain ⟨v, hv, hrep⟩ := hp fd.type M ν w vs off v1 v2 hag hsz e2 (by rw [Cell.reps_length h1, hlen]) h2
        refine ⟨v, exec_v (hex ac) ?_, hrep⟩
        rw [ev]
        simp only [Instr.field, asAgg, Sem.run_bind, Sem.run_pure, Result.andThen_ok, run_underlying hu, hfd, hoff, hv]
      · exact h.elim
    · exact h.elim
  · exact h.elim

/-! ### a part of a tuple -/
def vExtract (x : Option T) (i : Nat) (K : T → Prop) : Prop :=
  match x with
  | some (.tup ts) => match ts[i]? with
    | some t => K t
    | none => False
  | _ => False
theorem T.reps_at {M : Mem} {ν : Nu} : ∀ {ts : List T} {vs : List Value} {i : Nat} {t : T}, T.reps M ν ts vs → ts[i]? = some t → ∃ v, vs[i]? = some v ∧ t.rep M ν v
  | [], vs, i, t, h, hi => by simp at hi
  | u :: ts, vs, i, t, h, hi => by
    simp only [T.reps] at h
    obtain ⟨v, vs', e, h1, h2⟩ := h
    subst e
    cases i with
    | zero => simp at hi; subst hi; exact ⟨v, by simp, h1⟩
    | succ i => obtain ⟨v', hv, hr⟩ := T.reps_at h2 (by simpa using hi); exact ⟨v', by simpa using hv, hr⟩
theorem vExtract_sound {x : Operand} {i : Nat} {ty : TypeId} {env : Env} {B : Bx} {o : Oper} {K : T → Prop} (ho : o.op = .extract x i)
    (h : vExtract (ev P env ty x) i K) : ∃ u, OpP P o env B u ∧ K u := by
  have hx : x ∈ o.op.operands := by rw [ho]; simp [Op.operands]
  have hex : ∀ (a : Act), execOp a.eval o = (do pure (.value (← Instr.extract (a.eval x) i))) := by
    intro a; unfold execOp; rw [ho]
  unfold vExtract at h
  split at h
  · rename_i ts ex
    split at h
    · rename_i t ht
      refine ⟨t, OpP.of_val fun κ M ν ac w B' hB he hs => ?_, h⟩
      have hr := ev_rep he hx ex
      simp only [T.rep] at hr
      obtain ⟨vs, ev, hts⟩ := hr
      obtain ⟨v, hv, hrep⟩ := T.reps_at hts ht
      refine ⟨v, exec_v (hex ac) ?_, hrep⟩
      rw [ev]
      simp [Instr.extract, hv]
    · exact h.elim
  · exact h.elim

/-! ### slices -/
def bnd (d : Int) (x : Option (Option T)) : Option Int :=
  match x with
  | none => some d
  | some (some (.one (.dat (.int _ i)))) => some i
  | _ => none
def vSlice (P : Program) (t : TypeId) (x : Option T) (lo hi : Option (Option T)) (K : T → Prop) : Prop :=
  match x with
  | some (.one (.dat (.str l))) => match bnd 0 lo, bnd l.length hi with
    | some i, some j => kdT P t = some .str ∧ 0 ≤ i ∧ i ≤ j ∧ j ≤ l.length ∧ K (S ((l.take j.toNat).drop i.toNat))
    | _, _ => False
  | some (.one (.dat (.sl sz rows))) => match elT P t, bnd 0 lo, bnd rows.length hi with
    | some (n, _), some i, some j => n = sz ∧ 0 ≤ i ∧ i ≤ j ∧ j ≤ rows.length ∧ K (.one (.dat (.sl sz ((rows.take j.toNat).drop i.toNat))))
    | _, _, _ => False
  | _ => False

theorem bnd_run {M : Mem} {ν : Nu} {a : Act} {env : Env} {o : Oper} {lo : Option Operand} {ti : TypeId} {d i : Int} (he : EnvOn M ν a env o) (hlo : ∀ x, lo = some x → x ∈ o.op.operands)
    (h : bnd d (lo.map (ev P env ti)) = some i) : (lo = none ∧ i = d) ∨ ∃ x k, lo = some x ∧ a.eval x = .int k i := by
  cases lo with
  | none => simp only [bnd, Option.map_none, Option.some.injEq] at h; exact .inl ⟨rfl, h.symm⟩
  | some x =>
    simp only [bnd, Option.map_some] at h
    split at h
    · rename_i e; cases e
    · rename_i k j e
      simp only [Option.some.injEq] at h e
      subst h
      exact .inr ⟨x, k, rfl, rep_int.1 (ev_rep he (hlo x rfl) e)⟩
    · cases h

theorem run_bounds {isSlice : Bool} {len cap : Nat} {lo hi : Option Value} {i j : Int} (w : World) (hlo : (lo = none ∧ i = 0) ∨ ∃ k, lo = some (.int k i)) (hhi : (hi = none ∧ j = len) ∨ ∃ k, hi = some (.int k j))
    (h0 : 0 ≤ i) (hij : i ≤ j) (hj : j ≤ cap) : (Instr.sliceBounds isSlice len cap lo hi none).run P w = .ok (i.toNat, j.toNat, cap) w := by
  have e : ((j.toNat : Nat) : Int) = j := Int.toNat_of_nonneg (by omega)
  unfold Instr.sliceBounds
  rcases hhi with ⟨rfl, rfl⟩ | ⟨k, rfl⟩ <;> rcases hlo with ⟨rfl, rfl⟩ | ⟨k', rfl⟩
  · simp
  · simp only [Sem.run_bind, Sem.run_pure, Result.andThen_ok, Instr.sliceBound, asIntOf]
    simp [h0, hij]
  · simp only [Sem.run_bind, Sem.run_pure, Result.andThen_ok, Instr.sliceBound, asIntOf]
    simp [(by omega : 0 ≤ j), hj]
  · simp only [Sem.run_bind, Sem.run_pure, Result.andThen_ok, Instr.sliceBound, asIntOf]
    simp [(by omega : 0 ≤ j), hj, h0, hij, e]

theorem extract_mk (l : List UInt8) (i j : Nat) : (ByteArray.mk l.toArray).extract i j = ByteArray.mk ((l.take j).drop i).toArray := by
  apply ByteArray.ext
  simp [ByteArray.data_extract, List.extract_eq_take_drop, List.drop_take]

theorem vSlice_sound {t : TypeId} {x : Operand} {lo hi : Option Operand} {tx ti : TypeId} {env : Env} {B : Bx} {o : Oper} {K : T → Prop} (ho : o.op = .slice t x lo hi none)
    (h : vSlice P t (ev P env tx x) (lo.map (ev P env ti)) (hi.map (ev P env ti)) K) : ∃ u, OpP P o env B u ∧ K u := by
  have hx : x ∈ o.op.operands := by rw [ho]; simp [Op.operands]
  have hlo : ∀ y, lo = some y → y ∈ o.op.operands := by intro y e; rw [ho, e]; simp [Op.operands]
  have hhi : ∀ y, hi = some y → y ∈ o.op.operands := by intro y e; rw [ho, e]; cases lo <;> simp [Op.operands]
  have hex : ∀ (a : Act), execOp a.eval o = (do pure (.value (← Instr.sliceAt t (a.eval x) (lo.map a.eval) (hi.map a.eval) none))) := by
    intro a; unfold execOp; rw [ho]; rfl
  have conv : ∀ {M : Mem} {ν : Nu} {a : Act} {d i : Int} {y : Option Operand}, EnvOn M ν a env o → (∀ z, y = some z → z ∈ o.op.operands) → bnd d (y.map (ev P env ti)) = some i → (y.map a.eval = none ∧ i = d) ∨ ∃ k, y.map a.eval = some (.int k i) := by
    intro M ν a d i y he hy hb
    rcases bnd_run he hy hb with ⟨rfl, e⟩ | ⟨z, k, rfl, e⟩
    · exact .inl ⟨rfl, e⟩
    · exact .inr ⟨k, by simp [e]⟩
  unfold vSlice at h
  split at h
  · rename_i l ex
    split at h
    · rename_i i j ei ej
      obtain ⟨hk, h0, hij, hj, hK⟩ := h
      refine ⟨_, OpP.of_val fun κ M ν ac w B' hB he hs => ⟨_, exec_v (hex ac) ?_, rep_str.2 rfl⟩, hK⟩
      have e1 := rep_str.1 (ev_rep he hx ex)
      have hu := kdT_str hk
      rw [e1]
      have hb := run_bounds (P := P) (isSlice := false) (len := l.length) (cap := l.length) w (conv he hlo ei) (conv he hhi ej) h0 hij hj
      simp only [Instr.sliceAt, Sem.run_bind, run_underlying hu, Result.andThen_ok, Instr.slice, Option.isSome_none, Bool.false_eq_true, if_false, size_mk, hb, Sem.run_pure, extract_mk]
    · exact h.elim
  · rename_i sz rows ex
    split at h
    · rename_i n agg i j hel ei ej
      obtain ⟨rfl, h0, hij, hj, hK⟩ := h
      obtain ⟨e, hu, hsz, _⟩ := elT_spec hel
      refine ⟨_, OpP.of_val fun κ M ν ac w B' hB he hs => ?_, hK⟩
      have hr := ev_rep he hx ex
      simp only [T.rep, Cell.rep, C.rep] at hr
      obtain ⟨a, cap, mid, ev, hc1, hc2, hrows, hor⟩ := hr
      have hb := run_bounds (P := P) (isSlice := true) (len := rows.length) (cap := cap) w (conv he hlo ei) (conv he hhi ej) h0 hij (by omega)
      refine ⟨_, exec_v (v := .slice (if cap = i.toNat then a else a.map (·.add (i.toNat * n))) (j.toNat - i.toNat) (cap - i.toNat)) (hex ac) ?_, ?_⟩
      · rw [ev]
        simp only [Instr.sliceAt, Sem.run_bind, run_underlying hu, Result.andThen_ok, Instr.slice, hb, run_sz hsz, Sem.run_pure]
      · have hlen : ((rows.take j.toNat).drop i.toNat).length = j.toNat - i.toNat := by simp; omega
        have hsplit : rows = rows.take i.toNat ++ ((rows.take j.toNat).drop i.toNat ++ rows.drop j.toNat) := by
          have e1 : rows.take i.toNat = (rows.take j.toNat).take i.toNat := by rw [List.take_take, Nat.min_eq_left (by omega)]
          rw [e1, ← List.append_assoc, List.take_append_drop, List.take_append_drop]
        rw [hsplit] at hrows
        obtain ⟨v1, v23, e1, h1, h23⟩ := repRows_split hrows
        obtain ⟨v2, v3, e2, h2, h3⟩ := repRows_split h23
        simp only [T.rep, Cell.rep, C.rep]
        refine ⟨_, cap - i.toNat, v2, by rw [hlen], by omega, by omega, h2, ?_⟩
        by_cases hlt : i.toNat < j.toNat
        · right
          rcases hor with hnil | ⟨b, off, ea, hat⟩
          · exfalso; rw [hnil] at hj; simp at hj; omega
          · refine ⟨b, off + i.toNat * n, ?_, ?_⟩
            · rw [if_neg (by omega), ea]; simp [addr_add]
            · have := At.sub (v1 := v1) (v2 := v2) (v3 := v3) (by rw [← e2, ← e1]; exact hat)
              rw [repRows_length h1, List.length_take, Nat.min_eq_left (by omega)] at this
              exact this
        · left
          exact List.length_eq_zero_iff.1 (by rw [hlen]; omega)
    · exact h.elim
  · exact h.elim

/-! ### nil checks -/
def vNil (x : Option T) (K : T → Prop) : Prop :=
  match x with
  | some (.one (.ptr k o)) => K (.one (.ptr k o))
  | some (.one (.rp k sz i f)) => K (.one (.rp k sz i f))
  | some (.one (.ref r)) => K (.one (.ref r))
  | some (.one (.dat (.fn f))) => K (.one (.dat (.fn f)))
  | some (.one (.clo f caps)) => K (.one (.clo f caps))
  | _ => False
theorem vNil_sound {x : Operand} {ty : TypeId} {env : Env} {B : Bx} {o : Oper} {K : T → Prop} (ho : o.op = .nilCheck x)
    (h : vNil (ev P env ty x) K) : ∃ u, OpP P o env B u ∧ K u := by
  have hx : x ∈ o.op.operands := by rw [ho]; simp [Op.operands]
  unfold vNil at h
  split at h <;> try exact h.elim
  all_goals
    rename_i ex
    refine ⟨_, OpP.of_val fun κ M ν ac w B' hB he hs => ?_, h⟩
    have hr := ev_rep he hx ex
    refine ⟨ac.eval x, ?_, hr⟩
    simp only [T.rep, Cell.rep, C.rep] at hr
  · obtain ⟨b, _, e⟩ := hr; unfold execOp; rw [ho]; simp only [e]; rfl
  · obtain ⟨b, _, e⟩ := hr; unfold execOp; rw [ho]; simp only [e]; rfl
  · obtain ⟨b, off, vs, e, _⟩ := hr; unfold execOp; rw [ho]; simp only [e]; rfl
  · unfold execOp; rw [ho]; simp only [hr]; rfl
  · obtain ⟨vs, e, _⟩ := hr; unfold execOp; rw [ho]; simp only [e]; rfl

/-! ### conversions -/
def vConv (P : Program) (src dst : TypeId) (x : Option T) (K : T → Prop) : Prop :=
  match kdT P src, kdT P dst, x with
  | some _, some (.int k), some (.one (.dat (.int _ n))) => K (I k (k.wrap n))
  | some .str, some .str, some (.one (.dat (.str l))) => K (S l)
  | _, _, _ => False
theorem vConv_sound {src dst : TypeId} {x : Operand} {ty : TypeId} {env : Env} {B : Bx} {o : Oper} {K : T → Prop} (ho : o.op = .convert src dst x)
    (h : vConv P src dst (ev P env ty x) K) : ∃ u, OpP P o env B u ∧ K u := by
  have hx : x ∈ o.op.operands := by rw [ho]; simp [Op.operands]
  have hex : ∀ (a : Act), execOp a.eval o = (do pure (.value (← convert src dst (a.eval x)))) := by
    intro a; unfold execOp; rw [ho]
  unfold vConv at h
  split at h
  · rename_i ks k k0 n hs hd ex
    refine ⟨_, OpP.of_val fun κ M ν ac w B' hB he hsat => ⟨_, exec_v (hex ac) ?_, rep_int.2 rfl⟩, h⟩
    have e1 := rep_int.1 (ev_rep he hx ex)
    have hsrc : ∃ d, P.underlying src = some d := by
      unfold kdT at hs; split at hs <;> first | (exact ⟨_, by assumption⟩) | cases hs
    obtain ⟨d, hsrc⟩ := hsrc
    rw [e1]
    unfold convert
    simp only [Sem.run_bind, run_underlying hsrc, run_underlying (kdT_int hd), Result.andThen_ok]
    rfl
  · rename_i l hs hd ex
    refine ⟨_, OpP.of_val fun κ M ν ac w B' hB he hsat => ⟨_, exec_v (hex ac) ?_, rep_str.2 rfl⟩, h⟩
    have e1 := rep_str.1 (ev_rep he hx ex)
    rw [e1]
    unfold convert
    simp only [Sem.run_bind, run_underlying (kdT_str hs), run_underlying (kdT_str hd), Result.andThen_ok]
    rfl
  · exact h.elim

end Go.Sx
/-! Literals of structs, arrays and slices; new blocks. -/
set_option linter.unusedVariables false
set_option linter.unusedSimpArgs false
namespace Go.Sx
variable {P : Program}

/-! ### new blocks -/
theorem push_get {h : Array Obj} {b : Nat} {o x : Obj} (e : h[b]? = some x) : (h.push o)[b]? = some x := by
  have hlt := (Array.getElem?_eq_some_iff.1 e).1
  rw [Array.getElem?_push, if_neg (by omega)]; exact e
theorem push_old {h : Array Obj} {b : Nat} {o : Obj} (hlt : b < h.size) : (h.push o)[b]? = h[b]? := by
  rw [Array.getElem?_push, if_neg (by omega)]
theorem push_new {h : Array Obj} {o : Obj} : (h.push o)[h.size]? = some o := by simp

theorem Res.ok_mono {M M' : Mem} {ν : Nu} {w w' : World} {k : Nat} (hM : M.le M') (hh : ∀ b x, w.heap[b]? = some x → (ν k).blk = some b → w'.heap[b]? = some x) : ∀ {r : Res}, r.ok M ν w k → r.ok M' ν w' k
  | .cells cs, h => by
    simp only [Res.ok] at h ⊢
    obtain ⟨b, c, et, e1, e2, e3⟩ := h
    exact ⟨b, c, et, e1, hh _ _ e2 e1, Cell.reps_mono hM _ _ e3⟩
  | .row sz rows, h => by
    simp only [Res.ok] at h ⊢
    obtain ⟨h1, h2, h3⟩ := h
    refine ⟨h1, h2, ?_⟩
    rcases h3 with h3 | ⟨b, c, et, mid, post, e1, e2, e3, e4, e5⟩
    · exact .inl h3
    · exact .inr ⟨b, c, et, mid, post, e1, hh _ _ e2 e1, e3, repRows_mono hM _ _ _ e4, e5⟩

theorem Res.blk_lt {M : Mem} {ν : Nu} {w : World} {k b : Nat} : ∀ {r : Res}, r.ok M ν w k → (ν k).blk = some b → b < w.heap.size
  | .cells cs, h, e => by
    simp only [Res.ok] at h
    obtain ⟨b', c, et, e1, e2, e3⟩ := h
    rw [e1] at e; cases e
    exact (Array.getElem?_eq_some_iff.1 e2).1
  | .row sz rows, h, e => by
    simp only [Res.ok] at h
    obtain ⟨h1, h2, h3⟩ := h
    rcases h3 with ⟨h3, _⟩ | ⟨b', c, et, mid, post, e1, e2, e3, e4, e5⟩
    · rw [h3] at e; cases e
    · rw [e1] at e; cases e
      exact (Array.getElem?_eq_some_iff.1 e2).1

def Mem.add (M : Mem) (b : Nat) (o : Obj) : Mem := fun k => if k = b then some o else M k

/-- a new block that is frozen at once -/
theorem frozen_push (w : World) (o : Obj) (ho : ∃ c t, o = .cells c t) (a : Addr) : ({ w with heap := w.heap.push o } : World).frozen? a = w.frozen? a := by
  obtain ⟨c, t, rfl⟩ := ho
  unfold World.frozen?
  by_cases h : a.block = w.heap.size
  · simp [h]
  · have : (w.heap.push (.cells c t))[a.block]? = w.heap[a.block]? := by
      rw [Array.getElem?_push]; simp [h]
    simp only [this]
theorem Sat.freeze_new {κ : Kap} {M : Mem} {ν : Nu} {B : Bx} {w : World} (h : Sat κ M ν B w) (o : Obj) (ho : ∃ c t, o = .cells c t) :
    M.ext κ (M.add w.heap.size o) ∧ Sat κ (M.add w.heap.size o) ν B { w with heap := w.heap.push o } := by
  have hle : M.le (M.add w.heap.size o) := by
    intro b x e
    unfold Mem.add
    split
    · rename_i hb; subst hb
      have := h.fro _ _ e; simp at this
    · exact e
  have hnew : ∀ b x, M.add w.heap.size o b = some x → M b = some x ∨ κ.w.heap.size ≤ b := by
    intro b x e
    unfold Mem.add at e
    split at e
    · rename_i hb; subst hb; exact .inr h.size
    · exact .inl e
  refine ⟨⟨hle, hnew⟩, h.os, h.tape, h.output, h.dr, by simp; have := h.size; omega, ?_, ?_, ?_, ?_, h.inj, h.nodup⟩
  · intro b hb hD
    rw [← h.unch b hb hD]
    exact push_old (Nat.lt_of_lt_of_le hb h.size)
  · intro b x e
    unfold Mem.add at e
    split at e
    · rename_i hb; subst hb; cases e; exact push_new
    · exact push_get (h.fro _ _ e)
  · intro k r hm
    exact Res.ok_mono hle (fun b x e _ => push_get e) (h.res k r hm)
  · intro k r b hm hb
    obtain ⟨h1, h2⟩ := h.away k r b hm hb
    refine ⟨?_, h2⟩
    unfold Mem.add
    have := Res.blk_lt (h.res k r hm) hb
    rw [if_neg (by omega)]; exact h1

/-! ### parts of a literal -/
def toCells : T → Option (List Cell)
  | .one c => some [c]
  | .st r => some (r.map .dat)
  | .agg cs => some cs
  | .tup _ => none
  | .un => none
def lenIs {α : Type} : Nat → List α → Bool
  | 0, [] => true
  | n + 1, _ :: l => lenIs n l
  | _, _ => false
theorem lenIs_spec {α : Type} : ∀ {n : Nat} {l : List α}, lenIs n l = true → l.length = n
  | 0, [], _ => rfl
  | n + 1, _ :: l, h => by simp only [lenIs] at h; simp [lenIs_spec h]
  | 0, _ :: _, h => by simp [lenIs] at h
  | n + 1, [], h => by simp [lenIs] at h

theorem toCells_rep {M : Mem} {ν : Nu} {t : T} {cs : List Cell} {v : Value} (h : toCells t = some cs) (hr : t.rep M ν v) (h1 : ∀ c, t = .one c → ∀ a, v ≠ .agg a) : Cell.reps M ν cs v.cells.toList := by
  cases t with
  | one c =>
    simp only [toCells, Option.some.injEq] at h; subst h
    simp only [T.rep] at hr
    have : v.cells.toList = [v] := by
      cases v <;> first | rfl | exact absurd rfl (h1 c rfl _)
    rw [this]
    simp only [Cell.reps]
    exact ⟨v, [], rfl, hr, rfl⟩
  | st r =>
    simp only [toCells, Option.some.injEq] at h; subst h
    simp only [T.rep] at hr
    obtain ⟨a, e, h⟩ := hr
    subst e
    exact Cell.reps_map_c.2 h
  | agg cs' =>
    simp only [toCells, Option.some.injEq] at h; subst h
    simp only [T.rep] at hr
    obtain ⟨a, e, h⟩ := hr
    subst e
    exact h
  | tup ts => cases h
  | un => cases h

theorem C.rep_noagg {M : Mem} {c : C} {v : Value} (h : c.rep M v) (a : Array Value) : v ≠ .agg a := by
  cases c <;> simp only [C.rep] at h
  case sl => obtain ⟨_, _, _, e, _⟩ := h; subst e; simp
  all_goals subst h; simp
theorem Cell.rep_noagg {M : Mem} {ν : Nu} {c : Cell} {v : Value} (h : c.rep M ν v) (a : Array Value) : v ≠ .agg a := by
  cases c <;> simp only [Cell.rep] at h
  case dat => exact C.rep_noagg h a
  case ptr => obtain ⟨_, _, e⟩ := h; subst e; simp
  case own => subst h; simp
  case rp => obtain ⟨_, _, e⟩ := h; subst e; simp
  case arr => obtain ⟨_, _, e⟩ := h; subst e; simp
  case ref => obtain ⟨_, _, _, e, _⟩ := h; subst e; simp
  case clo => obtain ⟨_, e, _⟩ := h; subst e; simp

theorem cells_of {M : Mem} {ν : Nu} {t : T} {cs : List Cell} {v : Value} (h : toCells t = some cs) (hr : t.rep M ν v) : Cell.reps M ν cs v.cells.toList :=
  toCells_rep h hr fun c e a => by subst e; simp only [T.rep] at hr; exact Cell.rep_noagg hr a

/-- C cells that every world reads so: zero values -/
def zmatch : List C → List Value → Bool
  | [], [] => true
  | c :: cs, v :: vs => (match c, v with
    | .int k n, .int k' n' => decide (k = k' ∧ n = n')
    | .bool b, .bool b' => b == b'
    | .str [], .string s => s.data.size == 0
    | .nil _, .slice none 0 0 => true
    | _, _ => false) && zmatch cs vs
  | _, _ => false
theorem zmatch_spec {M : Mem} : ∀ {cs : List C} {vs : List Value}, zmatch cs vs = true → repRow M cs vs
  | [], [], _ => by simp only [repRow]
  | c :: cs, v :: vs, h => by
    simp only [zmatch, Bool.and_eq_true] at h
    simp only [repRow]
    refine ⟨v, vs, rfl, ?_, zmatch_spec h.2⟩
    have h1 := h.1
    split at h1
    · simp only [decide_eq_true_eq] at h1; obtain ⟨rfl, rfl⟩ := h1; simp only [C.rep]
    · simp only [beq_iff_eq] at h1; subst h1; simp only [C.rep]
    · rename_i s
      simp only [beq_iff_eq] at h1
      simp only [C.rep]
      have : s = ByteArray.mk [].toArray := by apply ByteArray.ext; exact Array.eq_empty_of_size_eq_zero h1
      rw [this]
    · simp only [C.rep]
    · cases h1
  | [], _ :: _, h => by simp [zmatch] at h
  | _ :: _, [], h => by simp [zmatch] at h

/-- the zero cells of a type, by its form -/
def zeroC (P : Program) : Nat → TypeId → Option (List C)
  | 0, _ => none
  | d + 1, t =>
    match P.underlying t with
    | some (.int k) => some [.int k 0]
    | some .bool => some [.bool false]
    | some .string => some [.str []]
    | some (.slice e) => (szT P e).map fun n => [.nil n]
    | some (.struct fs) => fs.toList.foldr (fun f acc => match zeroC P d f.type, acc with
      | some x, some y => some (x ++ y)
      | _, _ => none) (some [])
    | some (.array n e) => (zeroC P d e).map fun x => (List.replicate n x).flatten
    | _ => none
def zeroT (P : Program) (t : TypeId) : Option (List C) :=
  match zeroC P 12 t, (P.info? t).bind (·.zero) with
  | some zs, some z => bif zmatch zs z.cells.toList then some zs else none
  | _, _ => none
theorem zeroT_spec {t : TypeId} {zs : List C} (h : zeroT P t = some zs) : ∃ z, (∀ w, (zeroValue t).run P w = .ok z w) ∧ zmatch zs z.cells.toList = true := by
  unfold zeroT at h
  split at h
  · rename_i zs' z h1 h2
    cases hm : zmatch zs' z.cells.toList with
    | false => rw [hm] at h; cases h
    | true =>
      rw [hm] at h
      simp only [cond_true, Option.some.injEq] at h
      subst h
      obtain ⟨i, hi, hz⟩ := Option.bind_eq_some_iff.1 h2
      exact ⟨z, fun w => by simp [zeroValue, typeInfo, hi, hz], hm⟩
  · cases h

/-- place, size and type of part i of a struct or an array -/
def prtT (P : Program) (t i : Nat) : Option (Nat × Nat × TypeId) :=
  match P.underlying t with
  | some (.struct fs) => match fs[i]? with
    | some fd => (szT P fd.type).map fun n => (fd.offset, n, fd.type)
    | none => none
  | some (.array len e) => (szT P e).map fun n => (i * n, n, e)
  | _ => none
/-- the sizes of all fields are known -/
def fieldsOk (P : Program) (t : TypeId) : Bool :=
  match P.underlying t with
  | some (.struct fs) => fs.toList.all fun f => (szT P f.type).isSome
  | some (.array _ e) => (szT P e).isSome
  | _ => false

def vParts (P : Program) (t : TypeId) (env : Env) : List (Nat × Operand) → List Cell → Option (List Cell)
  | [], cs => some cs
  | (i, x) :: rest, cs => match prtT P t i with
    | some (off, n, ty) => match ev P env ty x with
      | some u => match toCells u with
        | some part => bif lenIs n part then (match cutC off cs with
          | some (pre, y) => match cutC n y with
            | some (_, post) => vParts P t env rest (pre ++ (part ++ post))
            | none => none
          | none => none) else none
        | none => none
      | none => none
    | none => none

def vBuild (P : Program) (t : TypeId) (env : Env) (parts : List (Nat × Operand)) (K : T → Prop) : Prop :=
  match zeroT P t with
  | some zs => match vParts P t env parts (zs.map .dat) with
    | some cs => fieldsOk P t = true ∧ K (mkAgg cs)
    | none => False
  | none => False

theorem splice (part : List Value) : ∀ (pre mid post : List Value) (j : Nat), mid.length = part.length →
    (part.zipIdx j).foldl (fun (cs : Array Value) (p : Value × Nat) => cs.setIfInBounds (pre.length - j + p.2) p.1) (pre ++ (mid ++ post)).toArray = (pre ++ (part ++ post)).toArray ∨ pre.length < j := by
  induction part with
  | nil => intro pre mid post j h; left; simp at h; subst h; simp
  | cons v part ih =>
    intro pre mid post j h
    by_cases hj : pre.length < j
    · exact .inr hj
    · left
      cases mid with
      | nil => simp at h
      | cons m mid =>
        rw [List.zipIdx_cons, List.foldl_cons]
        have e1 : ((pre ++ (m :: mid ++ post)).toArray).setIfInBounds (pre.length - j + j) v = ((pre ++ [v]) ++ (mid ++ post)).toArray := by
          have : pre.length - j + j = pre.length := by omega
          rw [this]
          apply Array.ext'
          simp
        rw [e1]
        have := ih (pre ++ [v]) mid post (j + 1) (by simpa using h)
        rcases this with this | this
        · have e2 : (pre ++ [v]).length - (j + 1) = pre.length - j := by simp
          rw [e2] at this
          rw [this]; simp
        · simp at this; omega

theorem fill_step {place : Nat → Option (Nat × Nat)} {cells : Array Value} {i off n : Nat} {v : Value} {rest : List (Nat × Value)} {pre mid post : List Value}
    (hp : place i = some (off, n)) (hv : v.cells.size = n) (hc : cells.toList = pre ++ (mid ++ post)) (h1 : pre.length = off) (h2 : mid.length = n) :
    Instr.fill place cells ((i, v) :: rest) = Instr.fill place (pre ++ (v.cells.toList ++ post)).toArray rest := by
  rw [Instr.fill]
  have hsz : cells.size = off + (n + post.length) := by
    rw [← Array.length_toList, hc]; simp [h1, h2]
  simp only [hp]
  rw [if_neg (by simp [hv]; omega)]
  congr 1
  have := splice v.cells.toList pre mid post 0 (by simp [h2, hv])
  rcases this with this | this
  · simp only [Nat.sub_zero] at this
    rw [← this, ← hc, ← h1]
    rw [← Array.foldl_toList]
    simp [Array.toList_zipIdx]
  · omega

theorem vParts_sound {t : TypeId} {env : Env} {M : Mem} {ν : Nu} {a : Act} {place : Nat → Option (Nat × Nat)} (hpl : ∀ i off n ty, prtT P t i = some (off, n, ty) → place i = some (off, n)) :
    ∀ (parts : List (Nat × Operand)) (cs cs' : List Cell) (cells : Array Value), (∀ p ∈ parts, ∀ ty u, ev P env ty p.2 = some u → u.rep M ν (a.eval p.2)) → vParts P t env parts cs = some cs' → Cell.reps M ν cs cells.toList →
      ∃ cells', Instr.fill place cells (parts.map fun (i, x) => (i, a.eval x)) = some cells' ∧ Cell.reps M ν cs' cells'.toList
  | [], cs, cs', cells, _, h, hr => by
    simp only [vParts, Option.some.injEq] at h
    subst h
    exact ⟨cells, rfl, hr⟩
  | (i, x) :: rest, cs, cs', cells, he, h, hr => by
    simp only [vParts] at h
    split at h
    · rename_i off n ty hp
      split at h
      · rename_i u hu
        split at h
        · rename_i part hpart
          cases hl : lenIs n part with
          | false => rw [hl] at h; cases h
          | true =>
            rw [hl] at h
            simp only [cond_true] at h
            split at h
            · rename_i pre y hc1
              split at h
              · rename_i old post hc2
                obtain ⟨e1, l1⟩ := cutC_spec hc1
                obtain ⟨e2, l2⟩ := cutC_spec hc2
                have hrep := cells_of hpart (he (i, x) (by simp) ty u hu)
                rw [e1] at hr
                obtain ⟨w1, w23, ew, hw1, hw23⟩ := Cell.reps_split hr
                rw [e2] at hw23
                obtain ⟨w2, w3, ew2, hw2, hw3⟩ := Cell.reps_split hw23
                have hvl : (a.eval x).cells.size = n := by rw [← Array.length_toList, Cell.reps_length hrep]; exact lenIs_spec hl
                have step := fill_step (place := place) (cells := cells) (i := i) (off := off) (n := n) (v := a.eval x) (rest := rest.map fun (i, x) => (i, a.eval x)) (pre := w1) (mid := w2) (post := w3)
                  (hpl i off n ty hp) hvl (by rw [ew, ew2]) (by rw [Cell.reps_length hw1, l1]) (by rw [Cell.reps_length hw2, l2])
                have hnew : Cell.reps M ν (pre ++ (part ++ post)) (w1 ++ ((a.eval x).cells.toList ++ w3)) := Cell.reps_append hw1 (Cell.reps_append hrep hw3)
                obtain ⟨cells', hf, hr'⟩ := vParts_sound hpl rest _ cs' (w1 ++ ((a.eval x).cells.toList ++ w3)).toArray (fun p hp => he p (List.mem_cons_of_mem _ hp)) h (by simpa using hnew)
                refine ⟨cells', ?_, hr'⟩
                rw [List.map_cons]
                rw [step]; exact hf
              · cases h
            · cases h
        · cases h
      · cases h
    · cases h

theorem mapM_places (fs : List Field) (h : ∀ f ∈ fs, (szT P f.type).isSome = true) (w : World) : (fs.mapM (m := Sem) fun f => do pure (f.offset, ← sizeOf f.type)).run P w = .ok (fs.map fun f => (f.offset, (szT P f.type).getD 0)) w := by
  induction fs with
  | nil => simp
  | cons f fs ih =>
    obtain ⟨n, hn⟩ := Option.isSome_iff_exists.1 (h f (by simp))
    simp only [List.mapM_cons, Sem.run_bind, run_sz hn, Result.andThen_ok, Sem.run_pure, ih fun g hg => h g (List.mem_cons_of_mem _ hg)]
    simp [hn]

theorem vBuild_sound {t : TypeId} {parts : List (Nat × Operand)} {env : Env} {B : Bx} {o : Oper} {K : T → Prop} (ho : o.op = .build t parts.toArray)
    (h : vBuild P t env parts K) : ∃ u, OpP P o env B u ∧ K u := by
  have hex : ∀ (a : Act), execOp a.eval o = (do pure (.value (← Instr.build t (parts.map fun (i, x) => (i, a.eval x)).toArray))) := by
    intro a; unfold execOp; rw [ho]; simp
  unfold vBuild at h
  split at h
  · rename_i zs hz
    split at h
    · rename_i cs hp
      obtain ⟨hf, hK⟩ := h
      obtain ⟨z, hzr, hzm⟩ := zeroT_spec hz
      refine ⟨_, OpP.of_val fun κ M ν ac w B' hB he hs => ?_, hK⟩
      have hops : ∀ p ∈ parts, ∀ ty u, ev P env ty p.2 = some u → u.rep M ν (ac.eval p.2) := by
        intro p hp ty u hu
        refine ev_rep he ?_ hu
        rw [ho]
        simp only [Op.operands]
        simp
        exact ⟨p.1, by cases p; exact hp⟩
      have hz0 : Cell.reps M ν (zs.map .dat) z.cells.toList := Cell.reps_map_c.2 (zmatch_spec hzm)
      unfold fieldsOk at hf
      split at hf
      · rename_i fs hu
        have hpl : ∀ i off n ty, prtT P t i = some (off, n, ty) → ((fs.toList.map fun f => (f.offset, (szT P f.type).getD 0))[i]?) = some (off, n) := by
          intro i off n ty hprt
          unfold prtT at hprt
          rw [hu] at hprt
          simp only [] at hprt
          split at hprt
          · rename_i fd hfd
            cases hsz : szT P fd.type with
            | none => simp [hsz] at hprt
            | some m =>
              simp only [hsz, Option.map_some, Option.some.injEq, Prod.mk.injEq] at hprt
              rw [List.getElem?_map, Array.getElem?_toList, hfd]
              simp [hsz, hprt.1, hprt.2.1]
          · cases hprt
        obtain ⟨cells', hfill, hrep⟩ := vParts_sound (place := fun i => ((fs.toList.map fun f => (f.offset, (szT P f.type).getD 0))[i]?)) hpl parts _ cs z.cells hops hp hz0
        refine ⟨.agg cells', exec_v (hex ac) ?_, mkAgg_rep hrep⟩
        have hm := mapM_places (P := P) fs.toList (List.all_eq_true.1 hf) w
        unfold Instr.build
        simp only [Sem.run_bind, hzr, Result.andThen_ok, run_underlying hu]
        have hm2 : (fs.mapM (m := Sem) fun f => do pure (f.offset, ← sizeOf f.type)).run P w = .ok (fs.toList.map fun f => (f.offset, (szT P f.type).getD 0)).toArray w := by
          rw [Array.mapM_eq_mapM_toList]
          simp only [Sem.run_map, hm, Result.andThen_ok]
        simp only [hm2, Result.andThen_ok]
        have : (fun (x : Nat) => ((fs.toList.map fun f => (f.offset, (szT P f.type).getD 0)).toArray[x]?)) = fun (i : Nat) => ((fs.toList.map fun f => (f.offset, (szT P f.type).getD 0))[i]?) := by
          funext i; simp
        rw [this, hfill]
        rfl
      · rename_i len e hu
        obtain ⟨n, hn⟩ := Option.isSome_iff_exists.1 hf
        have hpl : ∀ i off m ty, prtT P t i = some (off, m, ty) → (fun i => some (i * n, n)) i = some (off, m) := by
          intro i off m ty hprt
          unfold prtT at hprt
          rw [hu] at hprt
          simp only [hn, Option.map_some, Option.some.injEq, Prod.mk.injEq] at hprt ⊢
          exact ⟨hprt.1, hprt.2.1⟩
        obtain ⟨cells', hfill, hrep⟩ := vParts_sound hpl parts _ cs z.cells hops hp hz0
        refine ⟨.agg cells', exec_v (hex ac) ?_, mkAgg_rep hrep⟩
        unfold Instr.build
        simp only [Sem.run_bind, hzr, Result.andThen_ok, run_underlying hu, run_sz hn, hfill, Sem.run_pure]
      · cases hf
    · exact h.elim
  · exact h.elim

end Go.Sx
