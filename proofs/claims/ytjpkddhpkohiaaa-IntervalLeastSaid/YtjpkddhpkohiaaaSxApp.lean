/- A part of the proof: lemmas about the walk of the program and about plain integers and lists. No conditions beyond those that each lemma states. -/
import Derived.Test.YtjpkddhpkohiaaaSxEff
/-! append to a row of the call's own. -/
set_option linter.unusedVariables false
set_option linter.unusedSimpArgs false
namespace Go.Sx
variable {P : Program}

theorem growBy_le (need : Nat) : ∀ (r c : Nat), c ≤ need → Builtin.growBy need r c ≤ need + (need + 768) / 4
  | 0, c, h => by unfold Builtin.growBy; omega
  | r + 1, c, h => by
    unfold Builtin.growBy
    split
    · omega
    · by_cases hc : c + (c + 768) / 4 ≤ need
      · exact growBy_le need r _ hc
      · have : ∀ r, Builtin.growBy need r (c + (c + 768) / 4) = c + (c + 768) / 4 := by
          intro r
          cases r with
          | zero => rfl
          | succ r => unfold Builtin.growBy; rw [if_pos (by omega)]
        rw [this]; omega
theorem nextcap_le {need cap : Nat} (h : cap < need) : Builtin.nextslicecap need cap ≤ 2 * need + 192 := by
  unfold Builtin.nextslicecap
  split
  · omega
  · split
    · omega
    · have := growBy_le need 4 cap (by omega); omega

def byT (P : Program) (t : TypeId) : Option Nat :=
  match P.underlying t with
  | some (.slice e) => (P.info? e).map (·.bytes)
  | _ => none
theorem byT_spec {t e n : Nat} (h : byT P t = some n) (hu : P.underlying t = some (.slice e)) : ∃ i, P.info? e = some i ∧ i.bytes = n := by
  unfold byT at h
  rw [hu] at h
  simp only [] at h
  cases hi : P.info? e with
  | none => simp [hi] at h
  | some i => exact ⟨i, rfl, by simpa [hi] using h⟩

/-- the rows that a source of an append gives -/
def srcRows (n : Nat) (x : Option T) : Option (List (List C)) :=
  match x with
  | some (.one (.dat (.sl n' ys))) => bif n' == n then some ys else none
  | some (.one (.dat (.str l))) => bif n == 1 then some (l.map fun b => [.int .u8 b.toNat]) else none
  | _ => none

theorem firstCells_at {w : World} {b off : Nat} {vs : List Value} {n m cap : Nat} (h : At (w.heap[b]?) off vs) (hl : vs.length = m * n) {k : Nat} : (Builtin.firstCells n m (.slice (some ⟨b, off, none⟩) k cap)).run P w = .ok vs.toArray w := by
  unfold Builtin.firstCells
  rw [← hl]
  exact h.load

theorem repRows_bytes {M : Mem} : ∀ l : List UInt8, repRows M 1 (l.map fun b => [C.int .u8 b.toNat]) (l.map fun b => Value.int .u8 b.toNat)
  | [] => by simp only [List.map_nil, repRows]
  | b :: l => by
    simp only [List.map_cons, repRows]
    exact ⟨[.int .u8 b.toNat], _, rfl, rfl, by simp only [repRow, C.rep]; exact ⟨_, [], rfl, rfl, rfl⟩, repRows_bytes l⟩

theorem src_run {M : Mem} {ν : Nu} {n : Nat} {x : T} {v : Value} {ys : List (List C)} (h : srcRows n (some x) = some ys) (hr : x.rep M ν v) :
    ∃ new : List Value, repRows M n ys new ∧ ∀ w : World, (∀ b o, M b = some o → w.heap[b]? = some o) → (Builtin.lenOf v).run P w = .ok ys.length w ∧ (Builtin.firstCells n ys.length v).run P w = .ok new.toArray w := by
  unfold srcRows at h
  split at h
  · rename_i n' ys' e
    cases hn : (n' == n) with
    | false => rw [hn] at h; cases h
    | true =>
      have hn' : n' = n := by simpa using hn
      subst hn'
      simp only [hn, cond_true, Option.some.injEq] at h e
      subst h; subst e
      simp only [T.rep, Cell.rep, C.rep] at hr
      obtain ⟨a, cap, mid, ev, hc1, hc2, hrows, hor⟩ := hr
      refine ⟨mid, hrows, fun w hf => ⟨by rw [ev]; rfl, ?_⟩⟩
      rw [ev]
      rcases hor with hnil | ⟨b, off, ea, hat⟩
      · subst hnil
        simp only [repRows] at hrows
        subst hrows
        cases a with
        | none => rfl
        | some a => simp [Builtin.firstCells, loadCells, loadCellsFrom]
      · rw [ea]
        refine firstCells_at ?_ (repRows_length hrows)
        obtain ⟨c, et, fz, pre, post, e, e2, e3⟩ := hat
        exact ⟨c, et, fz, pre, post, hf _ _ e, e2, e3⟩
  · rename_i l e
    cases hn : (n == 1) with
    | false => rw [hn] at h; cases h
    | true =>
      have hn' : n = 1 := by simpa using hn
      subst hn'
      simp only [hn, cond_true, Option.some.injEq] at h e
      subst h; subst e
      have ev := rep_str.1 hr
      refine ⟨l.map fun b => .int .u8 b.toNat, repRows_bytes l, fun w hf => ⟨?_, ?_⟩⟩
      · rw [ev]; simp [Builtin.lenOf, size_mk]
      · rw [ev]
        simp only [Builtin.firstCells, Sem.run_pure, List.length_map]
        congr 1
        have : (ByteArray.mk l.toArray).extract 0 l.length = ByteArray.mk l.toArray := by
          rw [extract_mk]; simp
        rw [this]
        simp
  · cases h

def notInt (P : Program) (t : TypeId) : Bool :=
  match kdT P t with
  | some .other => true
  | some .str => true
  | _ => false
theorem notInt_run {t : TypeId} (h : notInt P t = true) (w : World) : ∃ d, (underlying t).run P w = .ok d w ∧ (d matches .int _) = false := by
  unfold notInt at h
  split at h
  · rename_i hk
    unfold kdT at hk
    split at hk <;> try (cases hk; done)
    rename_i d _ _ _ hu
    refine ⟨d, run_underlying hu w, ?_⟩
    cases d <;> first | rfl | (rename_i hni _ _; exact absurd rfl (hni _))
  · rename_i hk
    exact ⟨_, run_underlying (kdT_str hk) w, rfl⟩
  · cases h

theorem zeroCells_size (z : Array Value) (k : Nat) : (Builtin.zeroCells z k).size = k * z.size := by simp [Builtin.zeroCells]

/-- what append does, the row's own cells known -/
theorem append_run {t1 t2 e n by_ : Nat} {i : TypeInfo} (hu : P.underlying t1 = some (.slice e)) (hsz : szT P e = some n) (hi : P.info? e = some i) (hby : i.bytes = by_) {z : Value} (hz : ∀ w, (zeroValue e).run P w = .ok z w) (hzs : z.cells.size = n)
    (hn2 : notInt P t2 = true) {ty : TypeId} {base : Option Addr} {sLen sCap : Nat} {x : Value} {m : Nat} {new old : List Value} {w : World} (hlen : (Builtin.lenOf x).run P w = .ok m w) (hm : sLen + m ≤ maxLen) (hroom : (2 * (sLen + m) + 192) * by_ ≤ 281474976710656)
    (hnew : ∀ d, (Builtin.firstCells n m x).run P { w with drawn := d } = .ok new.toArray { w with drawn := d }) (hold : ∀ d, (Builtin.firstCells n sLen (.slice base sLen sCap)).run P { w with drawn := d } = .ok old.toArray { w with drawn := d }) (hb0 : 0 < by_) :
    (sLen + m ≤ sCap → (match base with | some a => (storeCells (a.add (sLen * n)) new).run P w | none => .ok () w) = .ok () w → (Builtin.append_ #[t1, t2] ty #[.slice base sLen sCap, x]).run P w = .ok (.slice base (sLen + m) sCap) w) ∧
    (∀ w', sLen + m ≤ sCap → (match base with | some a => (storeCells (a.add (sLen * n)) new).run P w | none => .ok () w) = .ok () w' → (Builtin.append_ #[t1, t2] ty #[.slice base sLen sCap, x]).run P w = .ok (.slice base (sLen + m) sCap) w') ∧
    (¬ sLen + m ≤ sCap → ∃ (cap : Nat) (d : Nat) (rest : Array Value), w.drawn ≤ d ∧ sLen + m ≤ cap ∧ cap ≤ maxLen ∧ rest.size = (cap - (sLen + m)) * n ∧
      (Builtin.append_ #[t1, t2] ty #[.slice base sLen sCap, x]).run P w = .ok (.slice (some ⟨w.heap.size, 0, none⟩) (sLen + m) cap) { w with drawn := d, heap := w.heap.push (.cells ((old ++ new).toArray ++ rest) e) }) := by
  obtain ⟨d2, hd2, hd2i⟩ := notInt_run hn2 w
  have hti : ∀ w, (typeInfo e).run P w = .ok i w := fun w => by simp [typeInfo, hi]
  have hnew0 := hnew w.drawn
  have hold0 := hold w.drawn
  have part2 : ∀ w', sLen + m ≤ sCap → (match base with | some a => (storeCells (a.add (sLen * n)) new).run P w | none => .ok () w) = .ok () w' → (Builtin.append_ #[t1, t2] ty #[.slice base sLen sCap, x]).run P w = .ok (.slice base (sLen + m) sCap) w' := by
    intro w' hle hst
    have hfc : (Builtin.firstCells n m x).run P w = .ok new.toArray w := hnew0
    unfold Builtin.append_
    cases d2 <;> first
      | (cases hd2i; done)
      | (simp only [List.getElem?_toArray, List.getElem?_cons_zero, List.getElem?_cons_succ, Sem.run_bind, run_underlying hu, Result.andThen_ok, run_sz hsz, hd2, Sem.run_pure, Bool.false_eq_true, if_false, hlen, hle, if_true, Bool.not_false, hfc]
         cases base with
         | none =>
           simp only [] at hst
           cases hst
           simp
         | some a =>
           simp only [] at hst
           simp only [Sem.run_bind, hst, Result.andThen_ok, Sem.run_pure])
  refine ⟨fun hle hst => part2 w hle hst, part2, fun hgt => ?_⟩
  have hnc := nextcap_le (need := sLen + m) (cap := sCap) (by omega)
  have hnb : ¬ Builtin.nextslicecap (sLen + m) sCap * by_ > 2 ^ 48 := by
    have := Nat.mul_le_mul_right by_ hnc
    omega
  have hforced : (Question.appendCap (sLen + m) sCap e).forced = false := rfl
  let cap := (Question.appendCap (sLen + m) sCap e).cut (w.tape w.drawn (.appendCap (sLen + m) sCap e))
  have hcap : sLen + m ≤ cap ∧ cap ≤ maxLen := by
    show _ ≤ _ + _ % _ ∧ _ + _ % _ ≤ _
    unfold maxLen at hm ⊢
    have : 0 < 2 ^ 63 - (sLen + m) := by omega
    have := Nat.mod_lt (w.tape w.drawn (.appendCap (sLen + m) sCap e)) this
    omega
  refine ⟨cap, w.drawn + 1, Builtin.zeroCells z.cells (cap - (sLen + m)), Nat.le_succ _, hcap.1, hcap.2, by rw [zeroCells_size, hzs], ?_⟩
  unfold Builtin.append_
  have hnb2 : ¬ Builtin.nextslicecap (sLen + m) sCap * i.bytes > 2 ^ 48 := by rw [hby]; exact hnb
  have hb2 : ¬ i.bytes = 0 := by omega
  have h1 := hold (w.drawn + 1)
  have h2 := hnew (w.drawn + 1)
  cases d2 <;> first
    | (cases hd2i; done)
    | (simp only [List.getElem?_toArray, List.getElem?_cons_zero, List.getElem?_cons_succ, Sem.run_bind, run_underlying hu, Result.andThen_ok, run_sz hsz, hd2, Sem.run_pure, Bool.false_eq_true, if_false, hlen, hgt, Bool.not_false, if_true, hti, hnb2, hb2, or_false, and_false, run_choose, hforced, run_askRoom, h1, h2, hz, newRow, run_newObj]
       congr 4
       simp
       rfl)

/-- the name is the call's own -/
def lowN (k : Nat) : Bool := decide (k < 1000000)
theorem lowN_spec {k : Nat} (h : lowN k = true) : k < pin := by simpa [lowN, pin] using h

def vAppend (P : Program) (j : Nat) (t1 t2 : TypeId) (s x : Option T) (env : Env) (B : Bx) (K : T → Bx → Prop) : Prop :=
  match bsT P t1, byT P t1 with
  | some (_, n), some (by_ + 1) => match srcRows n x with
    | some ys => notInt P t2 = true ∧ Env.fresh j env = true ∧ Bx.fresh j B = true ∧ (match s with
      | some (.one (.dat (.nil _))) => (2 * ys.length + 192) * (by_ + 1) ≤ 281474976710656 ∧ K (.one (.own j ys.length)) ((j, .row n ys) :: B)
      | some (.one (.own k m)) => match B.lookup k with
        | some (.row n' rows) => n' = n ∧ m = rows.length ∧ lowN k = true ∧ (2 * (rows.length + ys.length) + 192) * (by_ + 1) ≤ 281474976710656 ∧ K (.one (.own j (rows ++ ys).length)) ((j, .row n (rows ++ ys)) :: Bx.drop k B)
        | _ => False
      | _ => False)
    | none => False
  | _, _ => False

theorem Sat.drop {κ : Kap} {M : Mem} {ν : Nu} {B B' : Bx} {w : World} (h : Sat κ M ν B w) (hs : ∀ x ∈ B', x ∈ B) (hn : (B'.map (·.1)).Nodup) : Sat κ M ν B' w :=
  ⟨h.os, h.tape, h.output, h.dr, h.size, h.unch, h.fro, fun k r hm => h.res k r (hs _ hm), fun k r b hm => h.away k r b (hs _ hm), fun k r k' r' b hm hm' => h.inj k r k' r' b (hs _ hm) (hs _ hm'), hn⟩

theorem Sat.drawn {κ : Kap} {M : Mem} {ν : Nu} {B : Bx} {w : World} (h : Sat κ M ν B w) (d : Nat) (hd : w.drawn ≤ d) : Sat κ M ν B { w with drawn := d } :=
  ⟨h.os, h.tape, h.output, Nat.le_trans h.dr hd, h.size, h.unch, h.fro, fun k r hm => Res.ok_mono (Mem.le.refl M) (fun b x e _ => e) (h.res k r hm), h.away, h.inj, h.nodup⟩

theorem Bx.fresh_drop {j k : Nat} {B : Bx} (h : Bx.fresh j B = true) : Bx.fresh j (Bx.drop k B) = true := by
  induction B with
  | nil => rfl
  | cons p B ih =>
    simp only [Bx.fresh, Bool.and_eq_true] at h
    unfold Bx.drop
    cases hp : (p.1 == k) with
    | true => exact h.2
    | false => simp only [cond_false, Bx.fresh, Bool.and_eq_true]; exact ⟨h.1, ih h.2⟩

/-- the same block under a new name -/
theorem Sat.rename {κ : Kap} {M : Mem} {ν : Nu} {B : Bx} {w : World} {j k : Nat} {sz : Nat} {rows : List (List C)} (h : Sat κ M ν B w) (hk : (k, .row sz rows) ∈ B) (hf : Bx.fresh j B = true) (hlow : k < pin) :
    Sat κ M (ν.set j (ν k)) ((j, .row sz rows) :: Bx.drop k B) w where
  os := h.os
  tape := h.tape
  output := h.output
  dr := h.dr
  size := h.size
  unch := h.unch
  fro := h.fro
  res := fun i q hm => by
    rcases List.mem_cons.1 hm with e | hm
    · cases e
      have := h.res k _ hk
      simp only [Res.ok] at this ⊢
      rw [Nu.set_self]; exact this
    · obtain ⟨hm, _⟩ := Bx.mem_drop h.nodup hm
      obtain ⟨hj, hc⟩ := Bx.fresh_spec hf hm
      exact Res.ok_fresh Nu.set_other hj hc (h.res i q hm)
  away := fun i q b hm hb => by
    rcases List.mem_cons.1 hm with e | hm
    · cases e; rw [Nu.set_self] at hb
      have h1 := h.away k _ b hk hb
      exact ⟨h1.1, h1.2.imp id fun h2 => absurd h2.1 (by omega)⟩
    · obtain ⟨hm, _⟩ := Bx.mem_drop h.nodup hm
      obtain ⟨hj, hc⟩ := Bx.fresh_spec hf hm
      rw [Nu.set_other i hj] at hb
      exact h.away i q b hm hb
  inj := fun i q i' q' b hm hm' hb hb' => by
    rcases List.mem_cons.1 hm with e | hm <;> rcases List.mem_cons.1 hm' with e' | hm'
    · cases e; cases e'; rfl
    · cases e
      obtain ⟨hm', hne⟩ := Bx.mem_drop h.nodup hm'
      obtain ⟨hj, hc⟩ := Bx.fresh_spec hf hm'
      rw [Nu.set_self] at hb
      rw [Nu.set_other i' hj] at hb'
      exact absurd (h.inj i' q' k _ b hm' hk hb' hb) hne
    · cases e'
      obtain ⟨hm, hne⟩ := Bx.mem_drop h.nodup hm
      obtain ⟨hj, hc⟩ := Bx.fresh_spec hf hm
      rw [Nu.set_self] at hb'
      rw [Nu.set_other i hj] at hb
      exact absurd (h.inj i q k _ b hm hk hb hb') hne
    · obtain ⟨hm, _⟩ := Bx.mem_drop h.nodup hm
      obtain ⟨hm', _⟩ := Bx.mem_drop h.nodup hm'
      obtain ⟨hj, _⟩ := Bx.fresh_spec hf hm
      obtain ⟨hj', _⟩ := Bx.fresh_spec hf hm'
      rw [Nu.set_other i hj] at hb
      rw [Nu.set_other i' hj'] at hb'
      exact h.inj i q i' q' b hm hm' hb hb'
  nodup := by
    simp only [List.map_cons, List.nodup_cons]
    refine ⟨fun hm => ?_, Bx.drop_nodup k h.nodup⟩
    obtain ⟨x, hx, e⟩ := List.mem_map.1 hm
    obtain ⟨hx, _⟩ := Bx.mem_drop h.nodup hx
    exact (Bx.fresh_spec (j := x.1) (r := x.2) hf hx).1 e

theorem vAppend_sound {t1 t2 ty1 ty2 : TypeId} {s x : Operand} {env : Env} {B : Bx} {o : Oper} {K : T → Bx → Prop} (ho : o.op = .call { callee := .builtin .append, args := #[s, x], argTypes := #[t1, t2] })
    (h : vAppend P (dstN o) t1 t2 (ev P env ty1 s) (softO (ev P env ty2 x)) env B K) :
    ∃ t B', OpG P o env B (dstN o) t B' ∧ Env.fresh (dstN o) env = true ∧ K t B' := by
  have hs : s ∈ o.op.operands := by rw [ho]; simp [Op.operands, Call.operands]
  have hx : x ∈ o.op.operands := by rw [ho]; simp [Op.operands, Call.operands]
  have hex : ∀ (a : Act), execOp a.eval o = (do pure (.value (← Builtin.append_ #[t1, t2] o.type #[a.eval s, a.eval x]))) := by
    intro a; rw [exec_builtin ho]; simp [builtin]
  unfold vAppend at h
  split at h
  · rename_i e n by_ hbs hbyt
    obtain ⟨hu, hsz, ⟨z, hz, hzs⟩, hn0⟩ := bsT_spec hbs
    obtain ⟨i, hi, hib⟩ := byT_spec hbyt hu
    split at h
    · rename_i ys hsrc
      obtain ⟨hn2, hf, hfB, h⟩ := h
      cases hxe : softO (ev P env ty2 x) with
      | none => rw [hxe] at hsrc; cases hsrc
      | some xt =>
      rw [hxe] at hsrc
      split at h
      · rename_i n' es
        obtain ⟨hroom, hK⟩ := h
        refine ⟨_, _, OpG.of_run fun κ M ν a w he hsat => ?_, hf, hK⟩
        obtain ⟨new, hrows, hrun⟩ := src_run (P := P) hsrc (softO_rep he hx hxe)
        have hsv := ev_rep he hs es
        simp only [T.rep, Cell.rep, C.rep] at hsv
        have hyb : ys.length ≤ maxLen := by
          have : 1 ≤ by_ + 1 := by omega
          have := Nat.mul_le_mul_left (2 * ys.length + 192) this
          unfold maxLen; omega
        obtain ⟨_, hin, hout⟩ := append_run (t2 := t2) (ty := o.type) hu hsz hi hib hz hzs hn2 (base := none) (sLen := 0) (sCap := 0) (x := a.eval x) (m := ys.length) (new := new) (old := []) (w := w) (hrun w hsat.fro).1 (by omega) (by simpa using hroom)
          (fun d => (hrun { w with drawn := d } hsat.fro).2) (fun d => rfl) (by omega)
        by_cases h0 : 0 + ys.length ≤ 0
        · have hnil : ys = [] := List.length_eq_zero_iff.1 (by omega)
          subst hnil
          refine ⟨_, w, M, ν.set (dstN o) ⟨none, 0⟩, exec_v (hex a) (by rw [hsv]; exact hin w (by simp) rfl), Mem.ext.refl κ M, Nu.set_other, ?_, ?_⟩
          · simp only [T.rep, Cell.rep, Nu.set_self]
            rfl
          · refine ⟨hsat.os, hsat.tape, hsat.output, hsat.dr, hsat.size, hsat.unch, hsat.fro, ?_, ?_, ?_, ?_⟩
            · intro k r hm
              rcases List.mem_cons.1 hm with e | hm
              · cases e; simp only [Res.ok, Nu.set_self]; exact ⟨Nat.le_refl _, Nat.zero_le _, .inl (by simp)⟩
              · obtain ⟨hj, hc⟩ := Bx.fresh_spec hfB hm
                exact Res.ok_fresh Nu.set_other hj hc (hsat.res k r hm)
            · intro k r b hm hb
              rcases List.mem_cons.1 hm with e | hm
              · cases e; rw [Nu.set_self] at hb; cases hb
              · obtain ⟨hj, hc⟩ := Bx.fresh_spec hfB hm
                rw [Nu.set_other k hj] at hb
                exact hsat.away k r b hm hb
            · intro k r k' r' b hm hm' hb hb'
              rcases List.mem_cons.1 hm with e | hm <;> rcases List.mem_cons.1 hm' with e' | hm'
              · cases e; cases e'; rfl
              · cases e; rw [Nu.set_self] at hb; cases hb
              · cases e'; rw [Nu.set_self] at hb'; cases hb'
              · obtain ⟨hj, _⟩ := Bx.fresh_spec hfB hm
                obtain ⟨hj', _⟩ := Bx.fresh_spec hfB hm'
                rw [Nu.set_other k hj] at hb
                rw [Nu.set_other k' hj'] at hb'
                exact hsat.inj k r k' r' b hm hm' hb hb'
            · simp only [List.map_cons, List.nodup_cons]
              refine ⟨fun hm => ?_, hsat.nodup⟩
              obtain ⟨x, hx, e⟩ := List.mem_map.1 hm
              exact (Bx.fresh_spec (j := x.1) (r := x.2) hfB hx).1 e
        · obtain ⟨cap, d, rest, hdr, hc1, hc2, hrs, hr⟩ := hout h0
          refine ⟨_, _, M, ν.set (dstN o) ⟨some w.heap.size, cap⟩, exec_v (hex a) (by rw [hsv]; exact hr), Mem.ext.refl κ M, Nu.set_other, ?_, ?_⟩
          · simp only [T.rep, Cell.rep, Nu.set_self, Nat.zero_add]
            rfl
          · refine Sat.new_box (w := { w with drawn := d }) (hsat.drawn d hdr) hfB ?_
            simp only [Res.ok, Nu.set_self]
            refine ⟨by omega, hc2, .inr ⟨w.heap.size, _, e, new, rest.toList, rfl, push_new, by simp, hrows, ?_⟩⟩
            have := repRows_length hrows
            simp only [List.nil_append, Array.size_append, List.size_toArray, this, hrs, Nat.zero_add]
            rw [← Nat.add_mul]
            congr 1
            omega
      · rename_i k m es
        split at h
        · rename_i n' rows hb
          obtain ⟨rfl, rfl, hlow, hroom, hK⟩ := h
          refine ⟨_, _, OpG.of_run fun κ M ν a w he hsat => ?_, hf, hK⟩
          obtain ⟨new, hrows, hrun⟩ := src_run (P := P) hsrc (softO_rep he hx hxe)
          have hsv := ev_rep he hs es
          simp only [T.rep, Cell.rep] at hsv
          have hyb : rows.length + ys.length ≤ maxLen := by
            have : 1 ≤ by_ + 1 := by omega
            have := Nat.mul_le_mul_left (2 * (rows.length + ys.length) + 192) this
            unfold maxLen; omega
          have hmem := lookup_box hb
          have hres := hsat.res k _ hmem
          simp only [Res.ok] at hres
          obtain ⟨hcap1, hcap2, hres⟩ := hres
          have hlenapp : (rows ++ ys).length = rows.length + ys.length := List.length_append
          rcases hres with ⟨hnone, hc0⟩ | ⟨b, c, et, mid, spare, hb1, hheap, htl, hrows0, hcs⟩
          · -- an empty row without a block
            have hr0 : rows = [] := List.length_eq_zero_iff.1 (by omega)
            subst hr0
            have hsv' : a.eval s = .slice none 0 0 := by rw [hsv, hnone, hc0]; rfl
            obtain ⟨_, hin, hout⟩ := append_run (t2 := t2) (ty := o.type) hu hsz hi hib hz hzs hn2 (base := none) (sLen := 0) (sCap := 0) (x := a.eval x) (m := ys.length) (new := new) (old := []) (w := w) (hrun w hsat.fro).1 (by simpa using hyb) (by simpa using hroom)
              (fun d => (hrun { w with drawn := d } hsat.fro).2) (fun d => rfl) (by omega)
            by_cases h0 : 0 + ys.length ≤ 0
            · have hnil : ys = [] := List.length_eq_zero_iff.1 (by omega)
              subst hnil
              refine ⟨_, w, M, ν.set (dstN o) (ν k), exec_v (hex a) (by rw [hsv']; exact hin w (by simp) rfl), Mem.ext.refl κ M, Nu.set_other, ?_, by simpa using hsat.rename hmem hfB (lowN_spec hlow)⟩
              simp only [T.rep, Cell.rep, Nu.set_self, hnone, hc0]
              rfl
            · obtain ⟨cap, d, rest, hdr, hc1, hc2, hrs, hr⟩ := hout h0
              refine ⟨_, _, M, ν.set (dstN o) ⟨some w.heap.size, cap⟩, exec_v (hex a) (by rw [hsv']; exact hr), Mem.ext.refl κ M, Nu.set_other, ?_, ?_⟩
              · simp only [T.rep, Cell.rep, Nu.set_self, Nat.zero_add, List.nil_append]
                rfl
              · refine Sat.new_box (w := { w with drawn := d }) ((hsat.drop (fun x hx => (Bx.mem_drop hsat.nodup hx).1) (Bx.drop_nodup k hsat.nodup)).drawn d hdr) (Bx.fresh_drop hfB) ?_
                simp only [Res.ok, Nu.set_self, List.nil_append]
                refine ⟨by omega, hc2, .inr ⟨w.heap.size, _, e, new, rest.toList, rfl, push_new, by simp, hrows, ?_⟩⟩
                have := repRows_length hrows
                simp only [List.nil_append, Array.size_append, List.size_toArray, this, hrs, Nat.zero_add]
                rw [← Nat.add_mul]
                congr 1
                omega
          · have hsv' : a.eval s = .slice (some ⟨b, 0, none⟩) rows.length (ν k).cap := by rw [hsv, hb1]; rfl
            have hat : At (w.heap[b]?) 0 mid := ⟨c, et, (0, 0), [], spare, hheap, by simpa using htl, rfl⟩
            obtain ⟨_, hin, hout⟩ := append_run (t2 := t2) (ty := o.type) hu hsz hi hib hz hzs hn2 (base := some ⟨b, 0, none⟩) (sLen := rows.length) (sCap := (ν k).cap) (x := a.eval x) (m := ys.length) (new := new) (old := mid) (w := w) (hrun w hsat.fro).1 hyb hroom
              (fun d => (hrun { w with drawn := d } hsat.fro).2) (fun d => firstCells_at (w := { w with drawn := d }) hat (repRows_length hrows0)) (by omega)
            by_cases h0 : rows.length + ys.length ≤ (ν k).cap
            · -- in place
              have hnl := repRows_length hrows
              have hml := repRows_length hrows0
              have hcl : mid.length + spare.length = (ν k).cap * n' := by rw [← hcs, ← Array.length_toList (xs := c), htl, List.length_append]
              have hsp : new.length ≤ spare.length := by
                have h3 : (rows.length + ys.length) * n' ≤ (ν k).cap * n' := Nat.mul_le_mul_right n' h0
                rw [Nat.add_mul] at h3
                omega
              have hst := run_storeAt (P := P) b (rows.length * n') et new 0 c w mid (spare.take new.length) (spare.drop new.length) hheap (by rw [List.take_append_drop]; exact htl) (by rw [hml]; rfl) (by rw [List.length_take]; omega)
                (fun v hv => by
                  have : ∀ {rs : List (List C)} {vs : List Value}, repRows M n' rs vs → ∀ v ∈ vs, v.oneCell' = true := by
                    intro rs
                    induction rs with
                    | nil => intro vs h v hv; simp only [repRows] at h; subst h; cases hv
                    | cons r rs ih =>
                      intro vs h v hv
                      simp only [repRows] at h
                      obtain ⟨v1, v2, e, _, h1, h2⟩ := h
                      subst e
                      rcases List.mem_append.1 hv with hv | hv
                      · exact Cell.reps_oneCell (ν := ν) (Cell.reps_map_c.2 h1) v hv
                      · exact ih h2 v hv
                  exact this hrows v hv)
              have hsat1 := hsat.rename (j := dstN o) hmem hfB (lowN_spec hlow)
              refine ⟨_, _, M, ν.set (dstN o) (ν k), exec_v (hex a) (by rw [hsv']; exact hin _ h0 (by simp only [addr_add, Nat.zero_add]; exact hst)), Mem.ext.refl κ M, Nu.set_other, ?_, ?_⟩
              · simp only [T.rep, Cell.rep, Nu.set_self, hb1, hlenapp]
                rfl
              · have hw := hsat1.write (k := dstN o) (b := b) (r := .row n' rows) (r' := .row n' (rows ++ ys)) (c' := (mid ++ (new ++ spare.drop new.length)).toArray) (List.mem_cons_self ..) (by rw [Nu.set_self]; exact hb1) (by
                  simp only [Res.ok, Nu.set_self]
                  refine ⟨by rw [hlenapp]; exact h0, hcap2, .inr ⟨b, _, et, mid ++ new, spare.drop new.length, hb1, setRow_heap w b c _ et _ hheap, by simp, repRows_append hrows0 hrows, ?_⟩⟩
                  simp only [List.size_toArray, List.length_append, List.length_drop]
                  omega)
                simpa [Bx.put] using hw
            · obtain ⟨cap, d, rest, hdr, hc1, hc2, hrs, hr⟩ := hout h0
              refine ⟨_, _, M, ν.set (dstN o) ⟨some w.heap.size, cap⟩, exec_v (hex a) (by rw [hsv']; exact hr), Mem.ext.refl κ M, Nu.set_other, ?_, ?_⟩
              · simp only [T.rep, Cell.rep, Nu.set_self, hlenapp]
                rfl
              · refine Sat.new_box (w := { w with drawn := d }) ((hsat.drop (fun x hx => (Bx.mem_drop hsat.nodup hx).1) (Bx.drop_nodup k hsat.nodup)).drawn d hdr) (Bx.fresh_drop hfB) ?_
                simp only [Res.ok, Nu.set_self]
                refine ⟨by rw [hlenapp]; omega, hc2, .inr ⟨w.heap.size, _, e, mid ++ new, rest.toList, rfl, push_new, by simp, repRows_append hrows0 hrows, ?_⟩⟩
                have h1 := repRows_length hrows
                have h2 := repRows_length hrows0
                simp only [Array.size_append, List.size_toArray, List.length_append, h1, h2, hrs]
                rw [← Nat.add_mul, ← Nat.add_mul]
                congr 1
                omega
        · exact h.elim
      · exact h.elim
    · exact h.elim
  · exact h.elim

end Go.Sx
