/- A part of the proof: lemmas about the walk of the program and about plain integers and lists. No conditions beyond those that each lemma states. -/
import Derived.Test.YtmpfdejckbceiaaOp7
/-! append to a row of the call's own. -/
set_option linter.unusedVariables false
set_option linter.unusedSimpArgs false
namespace Go.Sx
variable {P : Program}

theorem growBy_le (need : Nat) : ∀ (r c : Nat), c ≤ need → Builtin.growBy need r c ≤ need + (need + 768) / 4
  | 0, c, h => by unfold Builtin.growBy; omega
  | r + 1, c, h => by
    unfold Builtin.growBy
    split
    · omega
    · by_cases hc : c + (c + 768) / 4 ≤ need
      · exact growBy_le need r _ hc
      · have : ∀ r, Builtin.growBy need r (c + (c + 768) / 4) = c + (c + 768) / 4 := by
          intro r
          cases r with
          | zero => rfl
          | succ r => unfold Builtin.growBy; rw [if_pos (by omega)]
        rw [this]; omega
theorem nextcap_le {need cap : Nat} (h : cap < need) : Builtin.nextslicecap need cap ≤ 2 * need + 192 := by
  unfold Builtin.nextslicecap
  split
  · omega
  · split
    · omega
    · have := growBy_le need 4 cap (by omega); omega

def byT (P : Program) (t : TypeId) : Option Nat :=
  match P.underlying t with
  | some (.slice e) => (P.info? e).map (·.bytes)
  | _ => none
theorem byT_spec {t e n : Nat} (h : byT P t = some n) (hu : P.underlying t = some (.slice e)) : ∃ i, P.info? e = some i ∧ i.bytes = n := by
  unfold byT at h
  rw [hu] at h
  simp only [] at h
  cases hi : P.info? e with
  | none => simp [hi] at h
  | some i => exact ⟨i, rfl, by simpa [hi] using h⟩

/-- the rows that a source of an append gives -/
def srcRows (n : Nat) (x : Option T) : Option (List (List C)) :=
  match x with
  | some (.one (.dat (.sl n' ys))) => bif n' == n then some ys else none
  | some (.one (.dat (.str l))) => bif n == 1 then some (l.map fun b => [.int .u8 b.toNat]) else none
  | _ => none

theorem firstCells_at {w : World} {b off : Nat} {vs : List Value} {n m cap : Nat} (h : At (w.heap[b]?) off vs) (hl : vs.length = m * n) {k : Nat} : (Builtin.firstCells n m (.slice (some ⟨b, off, none⟩) k cap)).run P w = .ok vs.toArray w := by
  unfold Builtin.firstCells
  rw [← hl]
  exact h.load

theorem repRows_bytes {M : Mem} : ∀ l : List UInt8, repRows M 1 (l.map fun b => [C.int .u8 b.toNat]) (l.map fun b => Value.int .u8 b.toNat)
  | [] => by simp only [List.map_nil, repRows]
  | b :: l => by
    simp only [List.map_cons, repRows]
    exact ⟨[.int .u8 b.toNat], _, rfl, rfl, by simp only [repRow, C.rep]; exact ⟨_, [], rfl, rfl, rfl⟩, repRows_bytes l⟩

theorem src_run {M : Mem} {ν : Nu} {n : Nat} {x : T} {v : Value} {ys : List (List C)} (h : srcRows n (some x) = some ys) (hr : x.rep M ν v) :
    ∃ new : List Value, repRows M n ys new ∧ ∀ w : World, (∀ b o, M b = some o → w.heap[b]? = some o) → (Builtin.lenOf v).run P w = .ok ys.length w ∧ (Builtin.firstCells n ys.length v).run P w = .ok new.toArray w := by
  unfold srcRows at h
  split at h
  · rename_i n' ys' e
    cases hn : (n' == n) with
    | false => rw [hn] at h; cases h
    | true =>
      have hn' : n' = n := by simpa using hn
      subst hn'
      simp only [hn, cond_true, Option.some.injEq] at h e
      subst h; subst e
      simp only [T.rep, Cell.rep, C.rep] at hr
      obtain ⟨a, cap, mid, ev, hc1, hc2, hrows, hor⟩ := hr
      refine ⟨mid, hrows, fun w hf => ⟨by rw [ev]; rfl, ?_⟩⟩
      rw [ev]
      rcases hor with hnil | ⟨b, off, ea, hat⟩
      · subst hnil
        simp only [repRows] at hrows
        subst hrows
        cases a with
        | none => rfl
        | some a => simp [Builtin.firstCells, loadCells, loadCellsFrom]
      · rw [ea]
        refine firstCells_at ?_ (repRows_length hrows)
        obtain ⟨c, et, fz, pre, post, e, e2, e3⟩ := hat
        exact ⟨c, et, fz, pre, post, hf _ _ e, e2, e3⟩
  · rename_i l e
    cases hn : (n == 1) with
    | false => rw [hn] at h; cases h
    | true =>
      have hn' : n = 1 := by simpa using hn
      subst hn'
      simp only [hn, cond_true, Option.some.injEq] at h e
      subst h; subst e
      have ev := rep_str.1 hr
      refine ⟨l.map fun b => .int .u8 b.toNat, repRows_bytes l, fun w hf => ⟨?_, ?_⟩⟩
      · rw [ev]; simp [Builtin.lenOf, size_mk]
      · rw [ev]
        simp only [Builtin.firstCells, Sem.run_pure, List.length_map]
        congr 1
        have : (ByteArray.mk l.toArray).extract 0 l.length = ByteArray.mk l.toArray := by
          rw [extract_mk]; simp
        rw [this]
        simp
  · cases h

def notInt (P : Program) (t : TypeId) : Bool :=
  match kdT P t with
  | some .other => true
  | some .str => true
  | _ => false
theorem notInt_run {t : TypeId} (h : notInt P t = true) (w : World) : ∃ d, (underlying t).run P w = .ok d w ∧ (d matches .int _) = false := by
  unfold notInt at h
  split at h
  · rename_i hk
    unfold kdT at hk
    split at hk <;> try (cases hk; done)
    rename_i d _ _ _ hu
    refine ⟨d, run_underlying hu w, ?_⟩
    cases d <;> first | rfl | (rename_i hni _ _; exact absurd rfl (hni _))
  · rename_i hk
    exact ⟨_, run_underlying (kdT_str hk) w, rfl⟩
  · cases h

theorem zeroCells_size (z : Array Value) (k : Nat) : (Builtin.zeroCells z k).size = k * z.size := by simp [Builtin.zeroCells]

/-- what append does, the row's own cells known -/
theorem append_run {t1 t2 e n by_ : Nat} {i : TypeInfo} (hu : P.underlying t1 = some (.slice e)) (hsz : szT P e = some n) (hi : P.info? e = some i) (hby : i.bytes = by_) {z : Value} (hz : ∀ w, (zeroValue e).run P w = .ok z w) (hzs : z.cells.size = n)
    (hn2 : notInt P t2 = true) {ty : TypeId} {base : Option Addr} {sLen sCap : Nat} {x : Value} {m : Nat} {new old : List Value} {w : World} (hlen : (Builtin.lenOf x).run P w = .ok m w) (hm : sLen + m ≤ maxLen) (hroom : (2 * (sLen + m) + 192) * by_ ≤ 281474976710656)
    (hnew : ∀ d, (Builtin.firstCells n m x).run P { w with drawn := d } = .ok new.toArray { w with drawn := d }) (hold : ∀ d, (Builtin.firstCells n sLen (.slice base sLen sCap)).run P { w with drawn := d } = .ok old.toArray { w with drawn := d }) (hb0 : 0 < by_) :
    (sLen + m ≤ sCap → (match base with | some a => (storeCells (a.add (sLen * n)) new).run P w | none => .ok () w) = .ok () w → (Builtin.append_ #[t1, t2] ty #[.slice base sLen sCap, x]).run P w = .ok (.slice base (sLen + m) sCap) w) ∧
    (∀ w', sLen + m ≤ sCap → (match base with | some a => (storeCells (a.add (sLen * n)) new).run P w | none => .ok () w) = .ok () w' → (Builtin.append_ #[t1, t2] ty #[.slice base sLen sCap, x]).run P w = .ok (.slice base (sLen + m) sCap) w') ∧
    (¬ sLen + m ≤ sCap → ∃ (cap : Nat) (d : Nat) (rest : Array Value), w.drawn ≤ d ∧ sLen + m ≤ cap ∧ cap ≤ maxLen ∧ rest.size = (cap - (sLen + m)) * n ∧
      (Builtin.append_ #[t1, t2] ty #[.slice base sLen sCap, x]).run P w = .ok (.slice (some ⟨w.heap.size, 0, none⟩) (sLen + m) cap) { w with drawn := d, heap := w.heap.push (.cells ((old ++ new).toArray ++ rest) e) }) := by
  obtain ⟨d2, hd2, hd2i⟩ := notInt_run hn2 w
  have hti : ∀ w, (typeInfo e).run P w = .ok i w := fun w => by simp [typeInfo, hi]
  have hnew0 := hnew w.drawn
  have hold0 := hold w.drawn
  have part2 : ∀ w', sLen + m ≤ sCap → (match base with | some a => (storeCells (a.add (sLen * n)) new).run P w | none => .ok () w) = .ok () w' → (Builtin.append_ #[t1, t2] ty #[.slice base sLen sCap, x]).run P w = .ok (.slice base (sLen + m) sCap) w' := by
    intro w' hle hst
    have hfc : (Builtin.firstCells n m x).run P w = .ok new.toArray w := hnew0
    unfold Builtin.append_
    cases d2 <;> first
      | (cases hd2i; done)
      | (simp only [List.getElem?_toArray, List.getElem?_cons_zero, List.getElem?_cons_succ, Sem.run_bind, run_underlying hu, Result.andThen_ok, run_sz hsz, hd2, Sem.run_pure, Bool.false_eq_true, if_false, hlen, hle, if_true, Bool.not_false, hfc]
         cases base with
         | none =>
           simp only [] at hst
           cases hst
           simp
         | some a =>
           simp only [] at hst
           simp only [Sem.run_bind, hst, Result.andThen_ok, Sem.run_pure])
  refine ⟨fun hle hst => part2 w hle hst, part2, fun hgt => ?_⟩
  have hnc := nextcap_le (need := sLen + m) (cap := sCap) (by omega)
  have hnb : ¬ Builtin.nextslicecap (sLen + m) sCap * by_ > 2 ^ 48 := by
    have := Nat.mul_le_mul_right by_ hnc
    omega
  have hforced : (Question.appendCap (sLen + m) sCap e).forced = false := rfl
  let cap := (Question.appendCap (sLen + m) sCap e).cut (w.tape w.drawn (.appendCap (sLen + m) sCap e))
  have hcap : sLen + m ≤ cap ∧ cap ≤ maxLen := by
    show _ ≤ _ + _ % _ ∧ _ + _ % _ ≤ _
    unfold maxLen at hm ⊢
    have : 0 < 2 ^ 63 - (sLen + m) := by omega
    have := Nat.mod_lt (w.tape w.drawn (.appendCap (sLen + m) sCap e)) this
    omega
  refine ⟨cap, w.drawn + 1, Builtin.zeroCells z.cells (cap - (sLen + m)), Nat.le_succ _, hcap.1, hcap.2, by rw [zeroCells_size, hzs], ?_⟩
  unfold Builtin.append_
  have hnb2 : ¬ Builtin.nextslicecap (sLen + m) sCap * i.bytes > 2 ^ 48 := by rw [hby]; exact hnb
  have hb2 : ¬ i.bytes = 0 := by omega
  have h1 := hold (w.drawn + 1)
  have h2 := hnew (w.drawn + 1)
  cases d2 <;> first
    | (cases hd2i; done)
    | (simp only [List.getElem?_toArray, List.getElem?_cons_zero, List.getElem?_cons_succ, Sem.run_bind, run_underlying hu, Result.andThen_ok, run_sz hsz, hd2, Sem.run_pure, Bool.false_eq_true, if_false, hlen, hgt, Bool.not_false, if_true, hti, hnb2, hb2, or_false, and_false, run_choose, hforced, run_askRoom, h1, h2, hz, newRow, run_newObj]
       congr 4
       simp
       rfl)

/-- the name is the call's own -/
def lowN (k : Nat) : Bool := decide (k < 1000000)
theorem lowN_spec {k : Nat} (h : lowN k = true) : k < pin := by simpa [lowN, pin] using h

def vAppend (P : Program) (j : Nat) (t1 t2 : TypeId) (s x : Option T) (env : Env) (B : Bx) (K : T → Bx → Prop) : Prop :=
  match bsT P t1, byT P t1 with
  | some (_, n), some (by_ + 1) => match srcRows n x with
    | some ys => notInt P t2 = true ∧ Env.fresh j env = true ∧ Bx.fresh j B = true ∧ (match s with
      | some (.one (.dat (.nil _))) => (2 * ys.length + 192) * (by_ + 1) ≤ 281474976710656 ∧ K (.one (.own j ys.length)) ((j, .row n ys) :: B)
      | some (.one (.own k m)) => match B.lookup k with
        | some (.row n' rows) => n' = n ∧ m = rows.length ∧ lowN k = true ∧ (2 * (rows.length + ys.length) + 192) * (by_ + 1) ≤ 281474976710656 ∧ K (.one (.own j (rows ++ ys).length)) ((j, .row n (rows ++ ys)) :: Bx.drop k B)
        | _ => False
      | _ => False)
    | none => False
  | _, _ => False

theorem Sat.drop {κ : Kap} {M : Mem} {ν : Nu} {B B' : Bx} {w : World} (h : Sat κ M ν B w) (hs : ∀ x ∈ B', x ∈ B) (hn : (B'.map (·.1)).Nodup) : Sat κ M ν B' w :=
  ⟨h.os, h.tape, h.output, h.dr, h.size, h.unch, h.fro, fun k r hm => h.res k r (hs _ hm), fun k r b hm => h.away k r b (hs _ hm), fun k r k' r' b hm hm' => h.inj k r k' r' b (hs _ hm) (hs _ hm'), hn⟩

theorem Sat.drawn {κ : Kap} {M : Mem} {ν : Nu} {B : Bx} {w : World} (h : Sat κ M ν B w) (d : Nat) (hd : w.drawn ≤ d) : Sat κ M ν B { w with drawn := d } :=
  ⟨h.os, h.tape, h.output, Nat.le_trans h.dr hd, h.size, h.unch, h.fro, fun k r hm => Res.ok_mono (Mem.le.refl M) (fun b x e _ => e) (h.res k r hm), h.away, h.inj, h.nodup⟩

theorem Bx.fresh_drop {j k : Nat} {B : Bx} (h : Bx.fresh j B = true) : Bx.fresh j (Bx.drop k B) = true := by
  induction B with
  | nil => rfl
  | cons p B ih =>
    simp only [Bx.fresh, Bool.and_eq_true] at h
    unfold Bx.drop
    cases hp : (p.1 == k) with
    | true => exact h.2
    | false => simp only [cond_false, Bx.fresh, Bool.and_eq_true]; exact ⟨h.1, ih h.2⟩

/-- the same block under a new name -/
theorem Sat.rename {κ : Kap} {M : Mem} {ν : Nu} {B : Bx} {w : World} {j k : Nat} {sz : Nat} {rows : List (List C)} (h : Sat κ M ν B w) (hk : (k, .row sz rows) ∈ B) (hf : Bx.fresh j B = true) (hlow : k < pin) :
    Sat κ M (ν.set j (ν k)) ((j, .row sz rows) :: Bx.drop k B) w where
  os := h.os
  tape := h.tape
  output := h.output
  dr := h.dr
  size := h.size
  unch := h.unch
  fro := h.fro
  res := fun i q hm => by
    rcases List.mem_cons.1 hm with e | hm
    · cases e
      have := h.res k _ hk
      simp only [Res.ok] at this ⊢
      rw [Nu.set_self]; exact this
    · obtain ⟨hm, _⟩ := Bx.mem_drop h.nodup hm
      obtain ⟨hj, hc⟩ := Bx.fresh_spec hf hm
      exact Res.ok_fresh Nu.set_other hj hc (h.res i q hm)
  away := fun i q b hm hb => by
    rcases List.mem_cons.1 hm with e | hm
    · cases e; rw [Nu.set_self] at hb
      have h1 := h.away k _ b hk hb
      exact ⟨h1.1, h1.2.imp id fun h2 => absurd h2.1 (by omega)⟩
    · obtain ⟨hm, _⟩ := Bx.mem_drop h.nodup hm
      obtain ⟨hj, hc⟩ := Bx.fresh_spec hf hm
      rw [Nu.set_other i hj] at hb
      exact h.away i q b hm hb
  inj := fun i q i' q' b hm hm' hb hb' => by
    rcases List.mem_cons.1 hm with e | hm <;> rcases List.mem_cons.1 hm' with e' | hm'
    · cases e; cases e'; rfl
    · cases e
      obtain ⟨hm', hne⟩ := Bx.mem_drop h.nodup hm'
      obtain ⟨hj, hc⟩ := Bx.fresh_spec hf hm'
      rw [Nu.set_self] at hb
      rw [Nu.set_other i' hj] at hb'
      exact absurd (h.inj i' q' k _ b hm' hk hb' hb) hne
    · cases e'
      obtain ⟨hm, hne⟩ := Bx.mem_drop h.nodup hm
      obtain ⟨hj, hc⟩ := Bx.fresh_spec hf hm
      rw [Nu.set_self] at hb'
      rw [Nu.set_other i hj] at hb
      exact absurd (h.inj i q k _ b hm hk hb hb') hne
    · obtain ⟨hm, _⟩ := Bx.mem_drop h.nodup hm
      obtain ⟨hm', _⟩ := Bx.mem_drop h.nodup hm'
      obtain ⟨hj, _⟩ := Bx.fresh_spec hf hm
      obtain ⟨hj', _⟩ := Bx.fresh_spec hf hm'
      rw [Nu.set_other i hj] at hb
      rw [Nu.set_other i' hj'] at hb'
      exact h.inj i q i' q' b hm hm' hb hb'
  nodup := by
    simp only [List.map_cons, List.nodup_cons]
    refine ⟨fun hm => ?_, Bx.drop_nodup k h.nodup⟩
    obtain ⟨x, hx, e⟩ := List.mem_map.1 hm
    obtain ⟨hx, _⟩ := Bx.mem_drop h.nodup hx
    exact (Bx.fresh_spec (j := x.1) (r := x.2) hf hx).1 e

theorem vAppend_sound {t1 t2 ty1 ty2 : TypeId} {s x : Operand} {env : Env} {B : Bx} {o : Oper} {K : T → Bx → Prop} (ho : o.op = .call { callee := .builtin .append, args := #[s, x], argTypes := #[t1, t2] })
    (h : vAppend P (dstN o) t1 t2 (ev P env ty1 s) (softO (ev P env ty2 x)) env B K) :
    ∃ t B', OpG P o env B (dstN o) t B' ∧ Env.fresh (dstN o) env = true ∧ K t B' := by
  have hs : s ∈ o.op.operands := by rw [ho]; simp [Op.operands, Call.operands]
  have hx : x ∈ o.op.operands := by rw [ho]; simp [Op.operands, Call.operands]
  have hex : ∀ (a : Act), execOp a.eval o = (do pure (.value (← Builtin.append_ #[t1, t2] o.type #[a.eval s, a.eval x]))) := by
    intro a; rw [exec_builtin ho]; simp [builtin]
  unfold vAppend at h
  split at h
  · rename_i e n by_ hbs hbyt
    obtain ⟨hu, hsz, ⟨z, hz, hzs⟩, hn0⟩ := bsT_spec hbs
    obtain ⟨i, hi, hib⟩ := byT_spec hbyt hu
    split at h
    · rename_i ys hsrc
      obtain ⟨hn2, hf, hfB, h⟩ := h
      cases hxe : softO (ev P env ty2 x) with
      | none => rw [hxe] at hsrc; cases hsrc
      | some xt =>
      rw [hxe] at hsrc
      split at h
      · rename_i n' es
        obtain ⟨hroom, hK⟩ := h
        refine ⟨_, _, OpG.of_run fun κ M ν a w he hsat => ?_, hf, hK⟩
        obtain ⟨new, hrows, hrun⟩ := src_run (P := P) hsrc (softO_rep he hx hxe)
        have hsv := ev_rep he hs es
        simp only [T.rep, Cell.rep, C.rep] at hsv
        have hyb : ys.length ≤ maxLen := by
          have : 1 ≤ by_ + 1 := by omega
          have := Nat.mul_le_mul_left (2 * ys.length + 192) this
          unfold maxLen; omega
        obtain ⟨_, hin, hout⟩ := append_run (t2 := t2) (ty := o.type) hu hsz hi hib hz hzs hn2 (base := none) (sLen := 0) (sCap := 0) (x := a.eval x) (m := ys.length) (new := new) (old := []) (w := w) (hrun w hsat.fro).1 (by omega) (by simpa using hroom)
          (fun d => (hrun { w with drawn := d } hsat.fro).2) (fun d => rfl) (by omega)
        by_cases h0 : 0 + ys.length ≤ 0
        · have hnil : ys = [] := List.length_eq_zero_iff.1 (by omega)
          subst hnil
          refine ⟨_, w, M, ν.set (dstN o) ⟨none, 0⟩, exec_v (hex a) (by rw [hsv]; exact hin w (by simp) rfl), Mem.ext.refl κ M, Nu.set_other, ?_, ?_⟩
          · simp only [T.rep, Cell.rep, Nu.set_self]
            rfl
          · refine ⟨hsat.os, hsat.tape, hsat.output, hsat.dr, hsat.size, hsat.unch, hsat.fro, ?_, ?_, ?_, ?_⟩
            · intro k r hm
              rcases List.mem_cons.1 hm with e | hm
              · cases e; simp only [Res.ok, Nu.set_self]; exact ⟨Nat.le_refl _, Nat.zero_le _, .inl (by simp)⟩
              · obtain ⟨hj, hc⟩ := Bx.fresh_spec hfB hm
                exact Res.ok_fresh Nu.set_other hj hc (hsat.res k r hm)
            · intro k r b hm hb
              rcases List.mem_cons.1 hm with e | hm
              · cases e; rw [Nu.set_self] at hb; cases hb
              · obtain ⟨hj, hc⟩ := Bx.fresh_spec hfB hm
                rw [Nu.set_other k hj] at hb
                exact hsat.away k r b hm hb
            · intro k r k' r' b hm hm' hb hb'
              rcases List.mem_cons.1 hm with e | hm <;> rcases List.mem_cons.1 hm' with e' | hm'
              · cases e; cases e'; rfl
              · cases e; rw [Nu.set_self] at hb; cases hb
              · cases e'; rw [Nu.set_self] at hb'; cases hb'
              · obtain ⟨hj, _⟩ := Bx.fresh_spec hfB hm
                obtain ⟨hj', _⟩ := Bx.fresh_spec hfB hm'
                rw [Nu.set_other k hj] at hb
                rw [Nu.set_other k' hj'] at hb'
                exact hsat.inj k r k' r' b hm hm' hb hb'
            · simp only [List.map_cons, List.nodup_cons]
              refine ⟨fun hm => ?_, hsat.nodup⟩
              obtain ⟨x, hx, e⟩ := List.mem_map.1 hm
              exact (Bx.fresh_spec (j := x.1) (r := x.2) hfB hx).1 e
        · obtain ⟨cap, d, rest, hdr, hc1, hc2, hrs, hr⟩ := hout h0
          refine ⟨_, _, M, ν.set (dstN o) ⟨some w.heap.size, cap⟩, exec_v (hex a) (by rw [hsv]; exact hr), Mem.ext.refl κ M, Nu.set_other, ?_, ?_⟩
          · simp only [T.rep, Cell.rep, Nu.set_self, Nat.zero_add]
            rfl
          · refine Sat.new_box (w := { w with drawn := d }) (hsat.drawn d hdr) hfB ?_
            simp only [Res.ok, Nu.set_self]
            refine ⟨by omega, hc2, .inr ⟨w.heap.size, _, e, new, rest.toList, rfl, push_new, by simp, hrows, ?_⟩⟩
            have := repRows_length hrows
            simp only [List.nil_append, Array.size_append, List.size_toArray, this, hrs, Nat.zero_add]
            rw [← Nat.add_mul]
            congr 1
            omega
      · rename_i k m es
        split at h
        · rename_i n' rows hb
          obtain ⟨rfl, rfl, hlow, hroom, hK⟩ := h
          refine ⟨_, _, OpG.of_run fun κ M ν a w he hsat => ?_, hf, hK⟩
          obtain ⟨new, hrows, hrun⟩ := src_run (P := P) hsrc (softO_rep he hx hxe)
          have hsv := ev_rep he hs es
          simp only [T.rep, Cell.rep] at hsv
          have hyb : rows.length + ys.length ≤ maxLen := by
            have : 1 ≤ by_ + 1 := by omega
            have := Nat.mul_le_mul_left (2 * (rows.length + ys.length) + 192) this
            unfold maxLen; omega
          have hmem := lookup_box hb
          have hres := hsat.res k _ hmem
          simp only [Res.ok] at hres
          obtain ⟨hcap1, hcap2, hres⟩ := hres
          have hlenapp : (rows ++ ys).length = rows.length + ys.length := List.length_append
          rcases hres with ⟨hnone, hc0⟩ | ⟨b, c, et, mid, spare, hb1, hheap, htl, hrows0, hcs⟩
          · -- an empty row without a block
            have hr0 : rows = [] := List.length_eq_zero_iff.1 (by omega)
            subst hr0
            have hsv' : a.eval s = .slice none 0 0 := by rw [hsv, hnone, hc0]; rfl
            obtain ⟨_, hin, hout⟩ := append_run (t2 := t2) (ty := o.type) hu hsz hi hib hz hzs hn2 (base := none) (sLen := 0) (sCap := 0) (x := a.eval x) (m := ys.length) (new := new) (old := []) (w := w) (hrun w hsat.fro).1 (by simpa using hyb) (by simpa using hroom)
              (fun d => (hrun { w with drawn := d } hsat.fro).2) (fun d => rfl) (by omega)
            by_cases h0 : 0 + ys.length ≤ 0
            · have hnil : ys = [] := List.length_eq_zero_iff.1 (by omega)
              subst hnil
              refine ⟨_, w, M, ν.set (dstN o) (ν k), exec_v (hex a) (by rw [hsv']; exact hin w (by simp) rfl), Mem.ext.refl κ M, Nu.set_other, ?_, by simpa using hsat.rename hmem hfB (lowN_spec hlow)⟩
              simp only [T.rep, Cell.rep, Nu.set_self, hnone, hc0]
              rfl
            · obtain ⟨cap, d, rest, hdr, hc1, hc2, hrs, hr⟩ := hout h0
              refine ⟨_, _, M, ν.set (dstN o) ⟨some w.heap.size, cap⟩, exec_v (hex a) (by rw [hsv']; exact hr), Mem.ext.refl κ M, Nu.set_other, ?_, ?_⟩
              · simp only [T.rep, Cell.rep, Nu.set_self, Nat.zero_add, List.nil_append]
                rfl
              · refine Sat.new_box (w := { w with drawn := d }) ((hsat.drop (fun x hx => (Bx.mem_drop hsat.nodup hx).1) (Bx.drop_nodup k hsat.nodup)).drawn d hdr) (Bx.fresh_drop hfB) ?_
                simp only [Res.ok, Nu.set_self, List.nil_append]
                refine ⟨by omega, hc2, .inr ⟨w.heap.size, _, e, new, rest.toList, rfl, push_new, by simp, hrows, ?_⟩⟩
                have := repRows_length hrows
                simp only [List.nil_append, Array.size_append, List.size_toArray, this, hrs, Nat.zero_add]
                rw [← Nat.add_mul]
                congr 1
                omega
          · have hsv' : a.eval s = .slice (some ⟨b, 0, none⟩) rows.length (ν k).cap := by rw [hsv, hb1]; rfl
            have hat : At (w.heap[b]?) 0 mid := ⟨c, et, (0, 0), [], spare, hheap, by simpa using htl, rfl⟩
            obtain ⟨_, hin, hout⟩ := append_run (t2 := t2) (ty := o.type) hu hsz hi hib hz hzs hn2 (base := some ⟨b, 0, none⟩) (sLen := rows.length) (sCap := (ν k).cap) (x := a.eval x) (m := ys.length) (new := new) (old := mid) (w := w) (hrun w hsat.fro).1 hyb hroom
              (fun d => (hrun { w with drawn := d } hsat.fro).2) (fun d => firstCells_at (w := { w with drawn := d }) hat (repRows_length hrows0)) (by omega)
            by_cases h0 : rows.length + ys.length ≤ (ν k).cap
            · -- in place
              have hnl := repRows_length hrows
              have hml := repRows_length hrows0
              have hcl : mid.length + spare.length = (ν k).cap * n' := by rw [← hcs, ← Array.length_toList (xs := c), htl, List.length_append]
              have hsp : new.length ≤ spare.length := by
                have h3 : (rows.length + ys.length) * n' ≤ (ν k).cap * n' := Nat.mul_le_mul_right n' h0
                rw [Nat.add_mul] at h3
                omega
              have hst := run_storeAt (P := P) b (rows.length * n') et new 0 c w mid (spare.take new.length) (spare.drop new.length) hheap (by rw [List.take_append_drop]; exact htl) (by rw [hml]; rfl) (by rw [List.length_take]; omega)
                (fun v hv => by
                  have : ∀ {rs : List (List C)} {vs : List Value}, repRows M n' rs vs → ∀ v ∈ vs, v.oneCell' = true := by
                    intro rs
                    induction rs with
                    | nil => intro vs h v hv; simp only [repRows] at h; subst h; cases hv
                    | cons r rs ih =>
                      intro vs h v hv
                      simp only [repRows] at h
                      obtain ⟨v1, v2, e, _, h1, h2⟩ := h
                      subst e
                      rcases List.mem_append.1 hv with hv | hv
                      · exact Cell.reps_oneCell (ν := ν) (Cell.reps_map_c.2 h1) v hv
                      · exact ih h2 v hv
                  exact this hrows v hv)
              have hsat1 := hsat.rename (j := dstN o) hmem hfB (lowN_spec hlow)
              refine ⟨_, _, M, ν.set (dstN o) (ν k), exec_v (hex a) (by rw [hsv']; exact hin _ h0 (by simp only [addr_add, Nat.zero_add]; exact hst)), Mem.ext.refl κ M, Nu.set_other, ?_, ?_⟩
              · simp only [T.rep, Cell.rep, Nu.set_self, hb1, hlenapp]
                rfl
              · have hw := hsat1.write (k := dstN o) (b := b) (r := .row n' rows) (r' := .row n' (rows ++ ys)) (c' := (mid ++ (new ++ spare.drop new.length)).toArray) (List.mem_cons_self ..) (by rw [Nu.set_self]; exact hb1) (by
                  simp only [Res.ok, Nu.set_self]
                  refine ⟨by rw [hlenapp]; exact h0, hcap2, .inr ⟨b, _, et, mid ++ new, spare.drop new.length, hb1, setRow_heap w b c _ et _ hheap, by simp, repRows_append hrows0 hrows, ?_⟩⟩
                  simp only [List.size_toArray, List.length_append, List.length_drop]
                  omega)
                simpa [Bx.put] using hw
            · obtain ⟨cap, d, rest, hdr, hc1, hc2, hrs, hr⟩ := hout h0
              refine ⟨_, _, M, ν.set (dstN o) ⟨some w.heap.size, cap⟩, exec_v (hex a) (by rw [hsv']; exact hr), Mem.ext.refl κ M, Nu.set_other, ?_, ?_⟩
              · simp only [T.rep, Cell.rep, Nu.set_self, hlenapp]
                rfl
              · refine Sat.new_box (w := { w with drawn := d }) ((hsat.drop (fun x hx => (Bx.mem_drop hsat.nodup hx).1) (Bx.drop_nodup k hsat.nodup)).drawn d hdr) (Bx.fresh_drop hfB) ?_
                simp only [Res.ok, Nu.set_self]
                refine ⟨by rw [hlenapp]; omega, hc2, .inr ⟨w.heap.size, _, e, mid ++ new, rest.toList, rfl, push_new, by simp, repRows_append hrows0 hrows, ?_⟩⟩
                have h1 := repRows_length hrows
                have h2 := repRows_length hrows0
                simp only [Array.size_append, List.size_toArray, List.length_append, h1, h2, hrs]
                rw [← Nat.add_mul, ← Nat.add_mul]
                congr 1
                omega
        · exact h.elim
      · exact h.elim
    · exact h.elim
  · exact h.elim

end Go.Sx
/-! A row of the call's own is frozen: from then on it is data. -/
set_option linter.unusedVariables false
set_option linter.unusedSimpArgs false
namespace Go.Sx
variable {P : Program}

mutual
/-- the row k, that has len elements, is spoken of at its full length -/
def Cell.frOk (k len : Nat) : Cell → Prop
  | .own j m => (j == k) = true → m = len
  | .clo _ caps => Cell.frOks k len caps
  | _ => True
def Cell.frOks (k len : Nat) : List Cell → Prop
  | [] => True
  | c :: cs => Cell.frOk k len c ∧ Cell.frOks k len cs
end
mutual
def Cell.fr (k sz : Nat) (rows : List (List C)) : Cell → Cell
  | .own j m => bif j == k then .dat (.sl sz rows) else .own j m
  | .clo f caps => .clo f (Cell.frs k sz rows caps)
  | .dat c => .dat c
  | .ptr j o => .ptr j o
  | .rp j s i f => .rp j s i f
  | .arr j n => .arr j n
  | .ref r => .ref r
def Cell.frs (k sz : Nat) (rows : List (List C)) : List Cell → List Cell
  | [] => []
  | c :: cs => Cell.fr k sz rows c :: Cell.frs k sz rows cs
end
mutual
def T.frOk (k len : Nat) : T → Prop
  | .one c => c.frOk k len
  | .agg cs => Cell.frOks k len cs
  | .tup ts => T.frOks k len ts
  | _ => True
def T.frOks (k len : Nat) : List T → Prop
  | [] => True
  | t :: ts => T.frOk k len t ∧ T.frOks k len ts
end
mutual
def T.fr (k sz : Nat) (rows : List (List C)) : T → T
  | .one c => .one (c.fr k sz rows)
  | .agg cs => mkAgg (Cell.frs k sz rows cs)
  | .tup ts => .tup (T.frs k sz rows ts)
  | .st r => .st r
  | .un => .un
def T.frs (k sz : Nat) (rows : List (List C)) : List T → List T
  | [] => []
  | t :: ts => T.fr k sz rows t :: T.frs k sz rows ts
end

/-- what is known of a frozen row -/
def FrRow (M M' : Mem) (ν : Nu) (k sz : Nat) (rows : List (List C)) : Prop :=
  M.le M' ∧ (C.sl sz rows).rep M' (.slice ((ν k).blk.map fun b => ⟨b, 0, none⟩) rows.length (ν k).cap)

mutual
theorem Cell.rep_fr {M M' : Mem} {ν : Nu} {k sz : Nat} {rows : List (List C)} (hF : FrRow M M' ν k sz rows) : ∀ (c : Cell) (v : Value), c.frOk k rows.length → c.rep M ν v → (c.fr k sz rows).rep M' ν v
  | .own j m, v, hok, h => by
    simp only [Cell.frOk] at hok
    simp only [Cell.fr]
    cases hj : (j == k) with
    | false => simp only [cond_false]; simpa only [Cell.rep] using h
    | true =>
      have hjk : j = k := by simpa using hj
      have hm := hok hj
      subst hm; subst hjk
      simp only [Cell.rep] at h
      simp only [cond_true, Cell.rep]
      rw [h]; exact hF.2
  | .clo f caps, v, hok, h => by
    simp only [Cell.frOk] at hok
    simp only [Cell.rep] at h
    simp only [Cell.fr, Cell.rep]
    obtain ⟨vs, e, h⟩ := h
    exact ⟨vs, e, Cell.reps_fr hF caps vs hok h⟩
  | .dat c, v, _, h => by simp only [Cell.fr]; exact Cell.rep_mono hF.1 _ _ h
  | .ptr j o, v, _, h => by simp only [Cell.fr]; exact Cell.rep_mono hF.1 _ _ h
  | .rp j s i f, v, _, h => by simp only [Cell.fr]; exact Cell.rep_mono hF.1 _ _ h
  | .arr j n, v, _, h => by simp only [Cell.fr]; exact Cell.rep_mono hF.1 _ _ h
  | .ref r, v, _, h => by simp only [Cell.fr]; exact Cell.rep_mono hF.1 _ _ h
theorem Cell.reps_fr {M M' : Mem} {ν : Nu} {k sz : Nat} {rows : List (List C)} (hF : FrRow M M' ν k sz rows) : ∀ (cs : List Cell) (vs : List Value), Cell.frOks k rows.length cs → Cell.reps M ν cs vs → Cell.reps M' ν (Cell.frs k sz rows cs) vs
  | [], vs, _, h => by simpa only [Cell.frs, Cell.reps] using h
  | c :: cs, vs, hok, h => by
    simp only [Cell.frOks] at hok
    simp only [Cell.reps] at h
    simp only [Cell.frs, Cell.reps]
    obtain ⟨v, vs', e, h1, h2⟩ := h
    exact ⟨v, vs', e, Cell.rep_fr hF c v hok.1 h1, Cell.reps_fr hF cs vs' hok.2 h2⟩
end
mutual
theorem T.rep_fr {M M' : Mem} {ν : Nu} {k sz : Nat} {rows : List (List C)} (hF : FrRow M M' ν k sz rows) : ∀ (t : T) (v : Value), t.frOk k rows.length → t.rep M ν v → (t.fr k sz rows).rep M' ν v
  | .one c, v, hok, h => by simp only [T.frOk] at hok; simp only [T.fr, T.rep] at h ⊢; exact Cell.rep_fr hF c v hok h
  | .agg cs, v, hok, h => by
    simp only [T.frOk] at hok
    simp only [T.rep] at h
    obtain ⟨a, e, h⟩ := h
    subst e
    simp only [T.fr]
    exact mkAgg_rep (Cell.reps_fr hF cs _ hok h)
  | .tup ts, v, hok, h => by
    simp only [T.frOk] at hok
    simp only [T.rep] at h
    obtain ⟨a, e, h⟩ := h
    simp only [T.fr, T.rep]
    exact ⟨a, e, T.reps_fr hF ts a hok h⟩
  | .st r, v, _, h => by simp only [T.fr]; exact T.rep_mono hF.1 _ _ h
  | .un, v, _, h => by simp only [T.fr]; exact T.rep_mono hF.1 _ _ h
theorem T.reps_fr {M M' : Mem} {ν : Nu} {k sz : Nat} {rows : List (List C)} (hF : FrRow M M' ν k sz rows) : ∀ (ts : List T) (vs : List Value), T.frOks k rows.length ts → T.reps M ν ts vs → T.reps M' ν (T.frs k sz rows ts) vs
  | [], vs, _, h => by simpa only [T.frs, T.reps] using h
  | t :: ts, vs, hok, h => by
    simp only [T.frOks] at hok
    simp only [T.reps] at h
    simp only [T.frs, T.reps]
    obtain ⟨v, vs', e, h1, h2⟩ := h
    exact ⟨v, vs', e, T.rep_fr hF t v hok.1 h1, T.reps_fr hF ts vs' hok.2 h2⟩
end

def Mem.put (M : Mem) (b : Nat) (o : Obj) : Mem := fun i => if i = b then some o else M i

theorem Sat.freeze {κ : Kap} {M : Mem} {ν : Nu} {B : Bx} {w : World} {k sz : Nat} {rows : List (List C)} (h : Sat κ M ν B w) (hk : (k, .row sz rows) ∈ B) (hlow : k < pin) :
    ∃ M', M.ext κ M' ∧ Sat κ M' ν (Bx.drop k B) w ∧ FrRow M M' ν k sz rows := by
  have hr := h.res k _ hk
  simp only [Res.ok] at hr
  obtain ⟨hc1, hc2, hr⟩ := hr
  have hd := h.drop (B' := Bx.drop k B) (fun x hx => (Bx.mem_drop h.nodup hx).1) (Bx.drop_nodup k h.nodup)
  rcases hr with ⟨hn, hc0⟩ | ⟨b, c, et, mid, post, hb, hheap, htl, hrows, hsz⟩
  · have hr0 : rows = [] := List.length_eq_zero_iff.1 (by omega)
    subst hr0
    refine ⟨M, Mem.ext.refl κ M, hd, Mem.le.refl M, ?_⟩
    simp only [C.rep]
    exact ⟨_, (ν k).cap, [], rfl, by simp, hc2, by simp only [repRows], .inl trivial⟩
  · obtain ⟨ha1, ha2⟩ := h.away k _ b hk hb
    have hb2 : κ.w.heap.size ≤ b := ha2.elim id fun h2 => absurd h2.1 (by omega)
    have hle : M.le (M.put b (.cells c et (0, 0))) := by
      intro i x e
      unfold Mem.put
      split
      · rename_i hi; subst hi; rw [ha1] at e; cases e
      · exact e
    refine ⟨M.put b (.cells c et (0, 0)), ⟨hle, fun i x e => ?_⟩, ?_, hle, ?_⟩
    · unfold Mem.put at e
      split at e
      · rename_i hi; subst hi; exact .inr hb2
      · exact .inl e
    · refine ⟨hd.os, hd.tape, hd.output, hd.dr, hd.size, hd.unch, ?_, fun j r hm => Res.ok_mono hle (fun b x e _ => e) (hd.res j r hm), ?_, hd.inj, hd.nodup⟩
      · intro i x e
        unfold Mem.put at e
        split at e
        · rename_i hi; subst hi; cases e; exact hheap
        · exact h.fro _ _ e
      · intro j r b' hm hb'
        obtain ⟨hm', hne⟩ := Bx.mem_drop h.nodup hm
        obtain ⟨h1, h2⟩ := h.away j r b' hm' hb'
        refine ⟨?_, h2⟩
        unfold Mem.put
        rw [if_neg]
        · exact h1
        · intro e; subst e
          exact hne (h.inj j r k _ b' hm' hk hb' hb)
    · simp only [C.rep]
      refine ⟨_, (ν k).cap, mid, rfl, hc1, hc2, repRows_mono hle sz rows mid hrows, .inr ⟨b, 0, by rw [hb]; rfl, ?_⟩⟩
      refine ⟨c, et, (0, 0), [], post, ?_, by simpa using htl, rfl⟩
      simp [Mem.put]

/-! ### calls that are handed rows of the call's own: they are frozen -/
def ownCell : List Cell → Option Nat
  | [] => none
  | .own k _ :: _ => some k
  | _ :: cs => ownCell cs
def ownIn : List T → Option Nat
  | [] => none
  | .one (.own k _) :: _ => some k
  | .agg cs :: ts => match ownCell cs with
    | some k => some k
    | none => ownIn ts
  | _ :: ts => ownIn ts
def vCallZ0 (P : Program) (g : FuncId) (us : List T) (B : Bx) (K : T → Bx → Prop) : Prop := ∃ r, PC P g us r ∧ K r B
def vFr (us : List T) (B : Bx) (N : List T → Bx → Prop) : Prop :=
  match ownIn us with
  | none => N us B
  | some k => match B.lookup k with
    | some (.row sz rows) => lowN k = true ∧ T.frOks k rows.length us ∧ N (T.frs k sz rows us) (Bx.drop k B)
    | _ => False
/-- up to three rows -/
def vCallZ (P : Program) (g : FuncId) (us : List T) (B : Bx) (K : T → Bx → Prop) : Prop :=
  vFr us B fun us B => vFr us B fun us B => vFr us B fun us B => vCallZ0 P g us B K

theorem vFr_sound {us : List T} {B : Bx} {N : List T → Bx → Prop} (h : vFr us B N) :
    ∃ us' B', N us' B' ∧ ∀ κ M ν w vs, Sat κ M ν B w → T.reps M ν us vs → ∃ M', M.ext κ M' ∧ Sat κ M' ν B' w ∧ T.reps M' ν us' vs := by
  unfold vFr at h
  split at h
  · exact ⟨us, B, h, fun κ M ν w vs hs hr => ⟨M, Mem.ext.refl κ M, hs, hr⟩⟩
  · rename_i k hk
    split at h
    · rename_i sz rows hb
      obtain ⟨hlow, hok, hN⟩ := h
      refine ⟨_, _, hN, fun κ M ν w vs hs hr => ?_⟩
      obtain ⟨M', h1, h2, h3⟩ := hs.freeze (lookup_box hb) (lowN_spec hlow)
      exact ⟨M', h1, h2, T.reps_fr h3 us vs hok hr⟩
    · exact h.elim

theorem vCallZ_sound {ty : TypeId} {f : Operand} {args : List Operand} {ts : Array TypeId} {env : Env} {B : Bx} {o : Oper} {K : T → Bx → Prop} {g : FuncId} {caps us : List T} (ho : o.op = .call { callee := .value f, args := args.toArray, argTypes := ts })
    (hf : calleeT (ev P env ty f) = some (g, caps)) (hu : evs P env args ts.toList = some us) (h : vCallZ P g (us ++ caps) B K) : ∃ u B', OpE P o env B u B' ∧ K u B' := by
  obtain ⟨us1, B1, h, h1⟩ := vFr_sound h
  obtain ⟨us2, B2, h, h2⟩ := vFr_sound h
  obtain ⟨us3, B3, h, h3⟩ := vFr_sound h
  obtain ⟨r, hpc, hK⟩ := h
  refine ⟨r, B3, ?_, hK⟩
  intro κ M ν a w he hs
  obtain ⟨vs, hrun, hreps⟩ := exec_call ho he hf hu hpc.1 w
  obtain ⟨M1, e1, s1, r1⟩ := h1 κ M ν w vs hs hreps
  obtain ⟨M2, e2, s2, r2⟩ := h2 κ M1 ν w vs s1 r1
  obtain ⟨M3, e3, s3, r3⟩ := h3 κ M2 ν w vs s2 r2
  unfold Oper.wp
  rw [hrun]
  simp only [Oper.upon]
  refine Calls.mono (hpc.2 M3 ν w vs (s3.nil _ _) r3) ?_
  rintro e w' ⟨v, M', rfl, hext, hr, hs'⟩
  obtain ⟨k1, k2⟩ := s3.call (B1 := []) (B1' := []) (B' := B3) (fun x hx => by cases hx) hs' rfl (fun b h => h) (fun _ _ h => by cases h) hext (fun x hx => .inr ⟨hx, by simp⟩) (fun x hx => List.mem_map.2 ⟨x, hx, rfl⟩) s3.nodup
  exact ⟨v, M', rfl, ((e1.trans e2).trans e3).trans k2, hr, k1⟩
end Go.Sx
