/- A part of the proof: lemmas about the walk of the program and about plain integers and lists. No conditions beyond those that each lemma states. -/
import Derived.Test.YthpndlinlhapgaaDq3
import Derived.MapKept
set_option linter.unusedVariables false
set_option linter.unusedSimpArgs false
namespace Go.Sx
variable {P : Program}
/-- the element at a key; an element laid at a key -/
def assoc (k : List UInt8) : List (List UInt8 × List C) → Option (List C)
  | [] => none
  | p :: es => bif decide (p.1 = k) then some p.2 else assoc k es
def putA (k : List UInt8) (r : List C) : List (List UInt8 × List C) → List (List UInt8 × List C)
  | [] => [(k, r)]
  | p :: es => bif decide (p.1 = k) then (k, r) :: es else p :: putA k r es
def isAggV : Value → Bool
  | .agg _ => true
  | _ => false
/-- the zero value of a map's elements, and their form -/
def mpT (P : Program) (t : TypeId) : Option (List C × Bool) :=
  match P.underlying t with
  | some (.map kt et) => match P.underlying kt, zeroT P et, (P.info? et).bind (·.zero), aggT P et with
    | some .string, some zs, some z, some ag => bif isAggV z == ag then some (zs, ag) else none
    | _, _, _, _ => none
  | _ => none
theorem mpT_spec {t : TypeId} {zs : List C} {ag : Bool} (h : mpT P t = some (zs, ag)) : ∃ kt et z, P.underlying t = some (.map kt et) ∧ P.underlying kt = some .string ∧ (∀ w, (zeroValue et).run P w = .ok z w) ∧ ∀ M, repVal M ag zs z := by
  unfold mpT at h
  split at h
  · rename_i kt et hu
    split at h
    · rename_i zs' z ag' hk hz hi ha
      cases hb : isAggV z == ag' with
      | false => rw [hb] at h; cases h
      | true =>
        rw [hb] at h
        simp only [cond_true, Option.some.injEq, Prod.mk.injEq] at h
        obtain ⟨rfl, rfl⟩ := h
        have hz1 : ∀ w, (zeroValue et).run P w = .ok z w := by
          obtain ⟨i, hi1, hi2⟩ := Option.bind_eq_some_iff.1 hi
          exact fun w => by simp [zeroValue, typeInfo, hi1, hi2]
        have hz2 : zmatch zs' z.cells.toList = true := by
          unfold zeroT at hz
          rw [hi] at hz
          split at hz
          · rename_i zs2 z2 h1 h2
            cases h2
            cases hm : zmatch zs2 z.cells.toList with
            | false => rw [hm] at hz; cases hz
            | true => rw [hm] at hz; cases hz; exact hm
          · cases hz
        refine ⟨kt, et, z, hu, hk, hz1, fun M => ?_⟩
        have hm := zmatch_spec (M := M) hz2
        unfold repVal
        have hag : isAggV z = ag' := by simpa using hb
        subst hag
        cases z <;> simp only [isAggV, cond_true, cond_false, Value.cells] at hm ⊢
        case agg a => exact ⟨a, rfl, hm⟩
        all_goals exact hm
    · cases h
  · cases h
/-- what comes out of a map -/
def valT (ag : Bool) (r : List C) : T := bif ag then .st r else .one (.dat (r.headD .fnil))
theorem valT_rep {M : Mem} {ν : Nu} {ag : Bool} {r : List C} {v : Value} (h : repVal M ag r v) : (valT ag r).rep M ν v := by
  unfold repVal at h
  unfold valT
  cases ag with
  | true => simpa only [cond_true, T.rep] using h
  | false =>
    simp only [cond_false] at h ⊢
    cases r with
    | nil => simp only [repRow] at h; cases h
    | cons c r =>
      simp only [repRow] at h
      obtain ⟨v', vs', e, h1, _⟩ := h
      cases e
      simpa only [T.rep, Cell.rep, List.headD_cons] using h1
theorem str_eq {k s : List UInt8} : ((⟨k.toArray⟩ : ByteArray) == ⟨s.toArray⟩) = decide (s = k) := by
  rw [Bool.eq_iff_iff, MapKept.bytes_beq, decide_eq_true_iff]
  constructor
  · intro e
    have : k.toArray = s.toArray := congrArg ByteArray.data e
    simpa using this.symm
  · rintro rfl; rfl
/-- the entries and the key that is looked for -/
theorem find_ents {M : Mem} {ag : Bool} (k : List UInt8) : ∀ (es : List (List UInt8 × List C)) (ents : List MapEntry) (i : Nat), repEnts M ag es ents →
    (assoc k es = none ∧ Instr.findNow .string (.string ⟨k.toArray⟩) ents i = some none) ∨
    ∃ r j e, assoc k es = some r ∧ Instr.findNow .string (.string ⟨k.toArray⟩) ents i = some (some (i + j, e.val)) ∧ ents[j]? = some e ∧ e.key = .string ⟨k.toArray⟩ ∧ repVal M ag r e.val ∧
      ∀ r' v', repVal M ag r' v' → repEnts M ag (putA k r' es) (ents.modify j fun e => { e with key := .string ⟨k.toArray⟩, val := v' })
  | [], ents, i, h => by
    simp only [repEnts] at h
    subst h
    exact .inl ⟨rfl, rfl⟩
  | p :: es, ents, i, h => by
    obtain ⟨e, es', rfl, hk, hv, hr⟩ := h
    by_cases hp : p.1 = k
    · right
      refine ⟨p.2, 0, e, by simp [assoc, hp], ?_, rfl, by rw [hk, hp], hv, fun r' v' hv' => ?_⟩
      · simp only [Instr.findNow, hk, Instr.sameNow, str_eq, hp, decide_true, Nat.add_zero]
      · simp only [putA, hp, decide_true, cond_true, List.modify_zero_cons, repEnts]
        exact ⟨_, _, rfl, rfl, hv', hr⟩
    · rcases find_ents k es es' (i + 1) hr with ⟨h1, h2⟩ | ⟨r, j, e', h1, h2, h3, h4, h5, h6⟩
      · left
        refine ⟨by simp [assoc, hp, h1], ?_⟩
        simp only [Instr.findNow, hk, Instr.sameNow, str_eq, hp, decide_false]
        exact h2
      · right
        refine ⟨r, j + 1, e', by simp [assoc, hp, h1], ?_, by simpa using h3, h4, h5, fun r' v' hv' => ?_⟩
        · simp only [Instr.findNow, hk, Instr.sameNow, str_eq, hp, decide_false]
          rw [h2, show i + 1 + j = i + (j + 1) by omega]
        · simp only [putA, hp, decide_false, cond_false, List.modify_succ_cons, repEnts]
          exact ⟨_, _, rfl, hk, hv, h6 r' v' hv'⟩
theorem push_ents {M : Mem} {ag : Bool} {k : List UInt8} {r : List C} {v : Value} (hv : repVal M ag r v) (clock : Nat) : ∀ (es : List (List UInt8 × List C)) (ents : List MapEntry), assoc k es = none → repEnts M ag es ents →
    repEnts M ag (putA k r es) (ents ++ [{ key := .string ⟨k.toArray⟩, val := v, born := clock }])
  | [], ents, _, h => by
    simp only [repEnts] at h
    subst h
    simp only [putA, List.nil_append, repEnts]
    exact ⟨_, _, rfl, rfl, hv, rfl⟩
  | p :: es, ents, ha, h => by
    obtain ⟨e, es', rfl, hk, hv', hr⟩ := h
    by_cases hp : p.1 = k
    · simp [assoc, hp] at ha
    · simp only [assoc, hp, decide_false, cond_false] at ha
      simp only [putA, hp, decide_false, cond_false, List.cons_append, repEnts]
      exact ⟨e, _, rfl, hk, hv', push_ents hv clock es es' ha hr⟩
theorem Sat.new_map {κ : Kap} {M : Mem} {ν : Nu} {B : Bx} {w : World} {k : Nat} {r : Res} {o : Obj} (h : Sat κ M ν B w) (hf : Bx.fresh k B = true)
    (hr : r.ok M (ν.set k ⟨some w.heap.size, 0⟩) { w with heap := w.heap.push o } k) :
    Sat κ M (ν.set k ⟨some w.heap.size, 0⟩) ((k, r) :: B) { w with heap := w.heap.push o } where
  os := h.os
  tape := h.tape
  output := h.output
  dr := Nat.zero_le _
  size := by simp; have := h.size; omega
  unch := fun b hb hD => by
    rw [← h.unch b hb hD]
    exact push_old (Nat.lt_of_lt_of_le hb h.size)
  fro := fun b x e => push_get (h.fro _ _ e)
  res := fun j q hm => by
    rcases List.mem_cons.1 hm with e | hm
    · cases e; exact hr
    · obtain ⟨hj, hc⟩ := Bx.fresh_spec hf hm
      exact Res.ok_fresh Nu.set_other hj hc (Res.ok_mono (Mem.le.refl M) (fun b x e _ => push_get e) (h.res j q hm))
  away := fun j q b hm hb => by
    rcases List.mem_cons.1 hm with e | hm
    · cases e
      rw [Nu.set_self] at hb
      simp only [Option.some.injEq] at hb
      subst hb
      refine ⟨?_, .inl h.size⟩
      cases hM : M w.heap.size with
      | none => rfl
      | some o => have := h.fro _ _ hM; simp at this
    · obtain ⟨hj, _⟩ := Bx.fresh_spec hf hm
      rw [Nu.set_other j hj] at hb
      exact h.away j q b hm hb
  inj := fun j q j' q' b hm hm' hb hb' => by
    rcases List.mem_cons.1 hm with e | hm <;> rcases List.mem_cons.1 hm' with e' | hm'
    · cases e; cases e'; rfl
    · cases e
      obtain ⟨hj, _⟩ := Bx.fresh_spec hf hm'
      rw [Nu.set_self] at hb
      rw [Nu.set_other j' hj] at hb'
      simp only [Option.some.injEq] at hb
      have := Res.blk_lt (h.res j' q' hm') hb'
      omega
    · cases e'
      obtain ⟨hj, _⟩ := Bx.fresh_spec hf hm
      rw [Nu.set_self] at hb'
      rw [Nu.set_other j hj] at hb
      simp only [Option.some.injEq] at hb'
      have := Res.blk_lt (h.res j q hm) hb
      omega
    · obtain ⟨hj, _⟩ := Bx.fresh_spec hf hm
      obtain ⟨hj', _⟩ := Bx.fresh_spec hf hm'
      rw [Nu.set_other j hj] at hb
      rw [Nu.set_other j' hj'] at hb'
      exact h.inj j q j' q' b hm hm' hb hb'
  nodup := by
    simp only [List.map_cons, List.nodup_cons]
    refine ⟨fun hm => ?_, h.nodup⟩
    obtain ⟨x, hx, e⟩ := List.mem_map.1 hm
    exact (Bx.fresh_spec (j := x.1) (r := x.2) hf hx).1 e
def vMakeMap (P : Program) (k : Nat) (t : TypeId) (env : Env) (B : Bx) (K : T → Bx → Prop) : Prop :=
  match mpT P t with
  | some (_, ag) => Env.fresh k env = true ∧ Bx.fresh k B = true ∧ K (.one (.mp k)) ((k, .mp ag []) :: B)
  | none => False
theorem vMakeMap_sound {t : TypeId} {env : Env} {B : Bx} {o : Oper} {K : T → Bx → Prop} (ho : o.op = .makeMap t none) (h : vMakeMap P (dstN o) t env B K) :
    ∃ t B', OpG P o env B (dstN o) t B' ∧ Env.fresh (dstN o) env = true ∧ K t B' := by
  unfold vMakeMap at h
  split at h
  · rename_i zs ag hz
    obtain ⟨hf, hfB, hK⟩ := h
    refine ⟨_, _, OpG.of_run fun κ M ν a w he hs => ?_, hf, hK⟩
    refine ⟨.map (some w.heap.size), _, M, ν.set (dstN o) ⟨some w.heap.size, 0⟩, exec_v (s := Instr.makeMap t none) (by unfold execOp; rw [ho]; rfl) ?_, Mem.ext.refl κ M, Nu.set_other, ?_, Sat.new_map (o := .map #[] 0) hs hfB ?_⟩
    · rfl
    · simp only [T.rep, Cell.rep]
      exact ⟨w.heap.size, by rw [Nu.set_self], rfl⟩
    · simp only [Res.ok]
      exact ⟨w.heap.size, #[], 0, by rw [Nu.set_self], push_new, rfl⟩
  · exact h.elim
def vLookup (P : Program) (t : TypeId) (B : Bx) (x ix : Option T) (ok : Bool) (K : T → Prop) : Prop :=
  match mpT P t with
  | some (zs, ag) => match x, ix with
    | some (.one (.mp k)), some (.one (.dat (.str s))) => match B.lookup k with
      | some (.mp ag' es) => ag' = ag ∧ K (bif ok then .tup [valT ag ((assoc s es).getD zs), .one (.dat (.bool (assoc s es).isSome))] else valT ag ((assoc s es).getD zs))
      | _ => False
    | _, _ => False
  | none => False
theorem lookup_run {M : Mem} {t kt et : TypeId} {zs : List C} {z : Value} {ag : Bool} {s : List UInt8} {es : List (List UInt8 × List C)} {ents : Array MapEntry} {clock b : Nat} {w : World} (ok : Bool) (hu : P.underlying t = some (.map kt et)) (hk : P.underlying kt = some .string)
    (hz : ∀ w, (zeroValue et).run P w = .ok z w) (hzr : repVal M ag zs z) (hb : w.heap[b]? = some (.map ents clock)) (hr : repEnts M ag es ents.toList) :
    ∃ v, (Instr.lookup t (.map (some b)) (.string ⟨s.toArray⟩) ok).run P w = .ok (if ok then .tuple #[v, .bool (assoc s es).isSome] else v) w ∧ repVal M ag ((assoc s es).getD zs) v := by
  have hkey : MapKept.IsKey .string (.string ⟨s.toArray⟩) := by trivial
  rcases find_ents s es ents.toList 0 hr with ⟨h1, h2⟩ | ⟨r, j, e, h1, h2, h3, h4, h5, h6⟩
  · refine ⟨z, ?_, by rw [h1]; exact hzr⟩
    simp [Instr.lookup, run_underlying hu, MapKept.run_getObj_map hb, MapKept.run_checkKey hk hkey, MapKept.run_findKey hk h2, hz, h1, Result.andThen]
  · refine ⟨e.val, ?_, by rw [h1]; exact h5⟩
    simp [Instr.lookup, run_underlying hu, MapKept.run_getObj_map hb, MapKept.run_checkKey hk hkey, MapKept.run_findKey hk h2, h1, Result.andThen]
theorem vLookup_sound {t tx ti : TypeId} {x ix : Operand} {ok : Bool} {env : Env} {B : Bx} {o : Oper} {K : T → Prop} (ho : o.op = .lookup t x ix ok) (h : vLookup P t B (ev P env tx x) (ev P env ti ix) ok K) : ∃ u, OpP P o env B u ∧ K u := by
  have hx : x ∈ o.op.operands := by rw [ho]; simp [Op.operands]
  have hi : ix ∈ o.op.operands := by rw [ho]; simp [Op.operands]
  unfold vLookup at h
  split at h
  · rename_i zs ag hm
    obtain ⟨kt, et, z, hu, hk, hz, hzr⟩ := mpT_spec hm
    split at h
    · rename_i k s ex ei
      split at h
      · rename_i ag' es hb
        obtain ⟨rfl, hK⟩ := h
        refine ⟨_, OpP.of_val fun κ M ν a w B' hB he hs => ?_, hK⟩
        have hr := ev_rep he hx ex
        have hr2 := ev_rep he hi ei
        simp only [T.rep, Cell.rep] at hr hr2
        simp only [C.rep] at hr2
        obtain ⟨b, hb1, ep⟩ := hr
        have hres := hs.res k _ (hB _ (lookup_box hb))
        simp only [Res.ok] at hres
        obtain ⟨b', ents, clock, hb2, hheap, hents⟩ := hres
        rw [hb1] at hb2; cases hb2
        obtain ⟨v, hrun, hv⟩ := lookup_run (s := s) ok hu hk hz (hzr M) hheap hents
        refine ⟨_, exec_v (s := Instr.lookup t (a.eval x) (a.eval ix) ok) (by unfold execOp; rw [ho]) (by rw [ep, hr2]; exact hrun), ?_⟩
        cases ok with
        | true =>
          simp only [cond_true, if_true, T.rep]
          exact ⟨[v, .bool (assoc s es).isSome], rfl, v, _, rfl, valT_rep hv, _, [], rfl, by simp only [T.rep, Cell.rep, C.rep], rfl⟩
        | false =>
          simp only [cond_false, Bool.false_eq_true, if_false]
          exact valT_rep hv
      · exact h.elim
    · exact h.elim
  · exact h.elim
/-- the object of a box's block is replaced -/
theorem Sat.setObj {κ : Kap} {M : Mem} {ν : Nu} {B : Bx} {w : World} {k b : Nat} {r r' : Res} {o : Obj} (h : Sat κ M ν B w) (hk : (k, r) ∈ B) (hb : (ν k).blk = some b)
    (hr : r'.ok M ν { w with heap := w.heap.setIfInBounds b o } k) : Sat κ M ν (Bx.put k r' B) { w with heap := w.heap.setIfInBounds b o } where
  os := h.os
  tape := h.tape
  output := h.output
  dr := Nat.zero_le _
  size := by simp; exact h.size
  unch := fun d hd hD => by
    rw [← h.unch d hd hD]
    refine Array.getElem?_setIfInBounds_ne (fun e => ?_)
    subst e
    rcases (h.away k r b hk hb).2 with h2 | h2
    · omega
    · exact hD h2
  fro := fun d x e => by
    have hne : b ≠ d := fun e2 => by subst e2; rw [(h.away k r b hk hb).1] at e; cases e
    show (w.heap.setIfInBounds b o)[d]? = _
    rw [Array.getElem?_setIfInBounds_ne hne]
    exact h.fro _ _ e
  res := fun j q hm => by
    rcases Bx.mem_put h.nodup hm with e | ⟨hm, hj⟩
    · cases e; exact hr
    · refine Res.ok_mono (Mem.le.refl M) (fun d x e hd => ?_) (h.res j q hm)
      have hne : b ≠ d := fun e2 => by subst e2; exact hj (h.inj j q k r b hm hk hd hb)
      show (w.heap.setIfInBounds b o)[d]? = _
      rw [Array.getElem?_setIfInBounds_ne hne]
      exact e
  away := fun j q d hm hd => by
    rcases Bx.mem_put h.nodup hm with e | ⟨hm, hj⟩
    · cases e; exact h.away k r d hk hd
    · exact h.away j q d hm hd
  inj := fun j q j' q' d hm hm' hd hd' => by
    have f : ∀ i p, (i, p) ∈ Bx.put k r' B → ∃ p', (i, p') ∈ B := by
      intro i p hp
      rcases Bx.mem_put h.nodup hp with e | ⟨hp, _⟩
      · cases e; exact ⟨r, hk⟩
      · exact ⟨p, hp⟩
    obtain ⟨p, hp⟩ := f j q hm
    obtain ⟨p', hp'⟩ := f j' q' hm'
    exact h.inj j p j' p' d hp hp' hd hd'
  nodup := by rw [Bx.put_keys]; exact h.nodup
/-- what a value is for a map's element: its form and its cells -/
def rowOfT (u : T) : Option (Bool × List C) :=
  match u with
  | .st r => some (true, r)
  | .one (.dat c) => some (false, [c.soft])
  | _ => none
theorem rowOfT_spec {u : T} {ag : Bool} {r : List C} {M : Mem} {ν : Nu} {v : Value} (h : rowOfT u = some (ag, r)) (hr : u.rep M ν v) : repVal M ag r v := by
  unfold rowOfT at h
  split at h
  · cases h
    unfold repVal
    simpa only [T.rep, cond_true] using hr
  · cases h
    simp only [T.rep, Cell.rep] at hr
    unfold repVal
    simp only [cond_false, repRow]
    exact ⟨v, [], rfl, C.rep_soft hr, rfl⟩
  · cases h
def vMapPut (P : Program) (t : TypeId) (x ix y : Option T) (B : Bx) (K : Bx → Prop) : Prop :=
  match mpT P t with
  | some (_, ag) => match x, ix, y with
    | some (.one (.mp k)), some (.one (.dat (.str s))), some u => match rowOfT u, B.lookup k with
      | some (ag', r), some (.mp ag2 es) => ag' = ag ∧ ag2 = ag ∧ K (Bx.put k (.mp ag (putA s r es)) B)
      | _, _ => False
    | _, _, _ => False
  | none => False
theorem put_run {M : Mem} {t kt et : TypeId} {ag : Bool} {s : List UInt8} {r : List C} {v : Value} {es : List (List UInt8 × List C)} {ents : Array MapEntry} {clock b : Nat} {w : World} (hu : P.underlying t = some (.map kt et)) (hk : P.underlying kt = some .string)
    (hv : repVal M ag r v) (hb : w.heap[b]? = some (.map ents clock)) (hr : repEnts M ag es ents.toList) :
    ∃ ents' clock', (Instr.mapUpdate t (.map (some b)) (.string ⟨s.toArray⟩) v).run P w = .ok () { w with heap := w.heap.setIfInBounds b (.map ents' clock') } ∧ repEnts M ag (putA s r es) ents'.toList := by
  have hkey : MapKept.IsKey .string (.string ⟨s.toArray⟩) := by trivial
  rcases find_ents s es ents.toList 0 hr with ⟨h1, h2⟩ | ⟨r0, j, e, h1, h2, h3, h4, h5, h6⟩
  · refine ⟨ents.push { key := .string ⟨s.toArray⟩, val := v, born := clock }, clock + 1, ?_, ?_⟩
    · simp [Instr.mapUpdate, run_underlying hu, MapKept.run_getObj_map hb, MapKept.run_checkKey hk hkey, MapKept.run_findKey hk h2, MapKept.run_setObj_map _ hb, Result.andThen]
    · rw [Array.toList_push]
      exact push_ents hv clock es _ h1 hr
  · have h3' : ents[j]? = some e := by simpa using h3
    refine ⟨ents.modify j fun e => { e with key := .string ⟨s.toArray⟩, val := v }, clock, ?_, ?_⟩
    · have hst := MapKept.run_keyThatStays (P := P) (w := w) hkey
      rw [Nat.zero_add] at h2
      simp [Instr.mapUpdate, run_underlying hu, MapKept.run_getObj_map hb, MapKept.run_checkKey hk hkey, MapKept.run_findKey hk h2, h3', h4, hst, MapKept.run_setObj_map _ hb, Result.andThen]
    · rw [Array.toList_modify]
      exact h6 r v hv
theorem vMapPut_sound {t tx ti ty : TypeId} {x ix y : Operand} {env : Env} {B : Bx} {o : Oper} {K : Bx → Prop} (ho : o.op = .mapUpdate t x ix y ∨ o.op = .insert t x ix y) (h : vMapPut P t (ev P env tx x) (ev P env ti ix) (ev P env ty y) B K) :
    ∃ B', OpE P o env B undefT B' ∧ K B' := by
  have hx : x ∈ o.op.operands := by rcases ho with ho | ho <;> (rw [ho]; simp [Op.operands])
  have hi : ix ∈ o.op.operands := by rcases ho with ho | ho <;> (rw [ho]; simp [Op.operands])
  have hy : y ∈ o.op.operands := by rcases ho with ho | ho <;> (rw [ho]; simp [Op.operands])
  unfold vMapPut at h
  split at h
  · rename_i zs ag hm
    obtain ⟨kt, et, z, hu, hk, hz, hzr⟩ := mpT_spec hm
    split at h
    · rename_i k s u ex ei ey
      split at h
      · rename_i ag' r ag2 es hrow hb
        obtain ⟨rfl, rfl, hK⟩ := h
        refine ⟨_, OpE.of_skip fun κ M ν a w he hs => ?_, hK⟩
        have hr := ev_rep he hx ex
        have hr2 := ev_rep he hi ei
        have hr3 := rowOfT_spec hrow (ev_rep he hy ey)
        simp only [T.rep, Cell.rep] at hr hr2
        simp only [C.rep] at hr2
        obtain ⟨b, hb1, ep⟩ := hr
        have hres := hs.res k _ (lookup_box hb)
        simp only [Res.ok] at hres
        obtain ⟨b', ents, clock, hb2, hheap, hents⟩ := hres
        rw [hb1] at hb2; cases hb2
        obtain ⟨ents', clock', hrun, hents'⟩ := put_run (P := P) (s := s) hu hk hr3 hheap hents
        refine ⟨_, ?_, hs.setObj (o := .map ents' clock') (lookup_box hb) hb1 ?_⟩
        · unfold execOp
          rcases ho with ho | ho
          all_goals (rw [ho]; simp only [ep, hr2]; simp only [Sem.run_bind, hrun, Result.andThen_ok, Sem.run_pure])
        · simp only [Res.ok]
          refine ⟨b, ents', clock', hb1, ?_, hents'⟩
          simp [(Array.getElem?_eq_some_iff.1 hheap).1]
      · exact h.elim
    · exact h.elim
  · exact h.elim
end Go.Sx
set_option linter.unusedVariables false
set_option linter.unusedSimpArgs false
namespace Go.Sx
mutual
def Cell.inP (p : Nat → Bool) : Cell → Bool
  | .dat _ => true
  | .ptr j _ => p j
  | .own j _ => p j
  | .rp j _ _ _ => p j
  | .arr j _ => p j
  | .ref _ => true
  | .mp j => p j
  | .clo _ caps => Cell.allInP p caps
def Cell.allInP (p : Nat → Bool) : List Cell → Bool
  | [] => true
  | c :: cs => Cell.inP p c && Cell.allInP p cs
end
mutual
def T.inP (p : Nat → Bool) : T → Bool
  | .one c => c.inP p
  | .st _ => true
  | .agg cs => Cell.allInP p cs
  | .tup ts => T.allInP p ts
  | .un => true
def T.allInP (p : Nat → Bool) : List T → Bool
  | [] => true
  | t :: ts => T.inP p t && T.allInP p ts
end
def bxInP (p : Nat → Bool) : Bx → Bool
  | [] => true
  | x :: B => (match x.2 with | .cells cs => Cell.allInP p cs | .row _ _ => true | .mp _ _ => true) && bxInP p B
mutual
theorem Cell.rep_inP {M : Mem0} {ν ν' : Nu} {p : Nat → Bool} (hν : ∀ j, p j = true → ν' j = ν j) : ∀ (c : Cell) (v : Value), c.inP p = true → c.rep M ν' v → c.rep M ν v
  | .dat c, v, _, h => by simpa only [Cell.rep] using h
  | .ptr j off, v, hf, h => by simp only [Cell.inP] at hf; simp only [Cell.rep] at h ⊢; rw [← hν j hf]; exact h
  | .own j m, v, hf, h => by simp only [Cell.inP] at hf; simp only [Cell.rep] at h ⊢; rw [← hν j hf]; exact h
  | .rp j sz i f, v, hf, h => by simp only [Cell.inP] at hf; simp only [Cell.rep] at h ⊢; rw [← hν j hf]; exact h
  | .arr j n, v, hf, h => by simp only [Cell.inP] at hf; simp only [Cell.rep] at h ⊢; rw [← hν j hf]; exact h
  | .ref r, v, _, h => by simpa only [Cell.rep] using h
  | .mp j, v, hf, h => by simp only [Cell.inP] at hf; simp only [Cell.rep] at h ⊢; rw [← hν j hf]; exact h
  | .clo f caps, v, hf, h => by
    simp only [Cell.inP] at hf
    simp only [Cell.rep] at h ⊢
    obtain ⟨vs, e, h⟩ := h
    exact ⟨vs, e, Cell.reps_inP hν caps vs hf h⟩
theorem Cell.reps_inP {M : Mem0} {ν ν' : Nu} {p : Nat → Bool} (hν : ∀ j, p j = true → ν' j = ν j) : ∀ (cs : List Cell) (vs : List Value), Cell.allInP p cs = true → Cell.reps M ν' cs vs → Cell.reps M ν cs vs
  | [], vs, _, h => by simpa only [Cell.reps] using h
  | c :: cs, vs, hf, h => by
    simp only [Cell.allInP, Bool.and_eq_true] at hf
    simp only [Cell.reps] at h ⊢
    obtain ⟨v, vs', e, h1, h2⟩ := h
    exact ⟨v, vs', e, Cell.rep_inP hν c v hf.1 h1, Cell.reps_inP hν cs vs' hf.2 h2⟩
end
mutual
theorem T.rep_inP {M : Mem0} {ν ν' : Nu} {p : Nat → Bool} (hν : ∀ j, p j = true → ν' j = ν j) : ∀ (c : T) (v : Value), c.inP p = true → c.rep M ν' v → c.rep M ν v
  | .one c, v, hf, h => by simp only [T.rep] at h ⊢; exact Cell.rep_inP hν c v (by simpa only [T.inP] using hf) h
  | .st r, v, _, h => by simpa only [T.rep] using h
  | .un, v, _, h => by simpa only [T.rep] using h
  | .agg cs, v, hf, h => by
    simp only [T.rep] at h ⊢
    obtain ⟨a, e, h⟩ := h
    exact ⟨a, e, Cell.reps_inP hν cs _ (by simpa only [T.inP] using hf) h⟩
  | .tup ts, v, hf, h => by
    simp only [T.rep] at h ⊢
    obtain ⟨a, e, h⟩ := h
    exact ⟨a, e, T.reps_inP hν ts _ (by simpa only [T.inP] using hf) h⟩
theorem T.reps_inP {M : Mem0} {ν ν' : Nu} {p : Nat → Bool} (hν : ∀ j, p j = true → ν' j = ν j) : ∀ (cs : List T) (vs : List Value), T.allInP p cs = true → T.reps M ν' cs vs → T.reps M ν cs vs
  | [], vs, _, h => by simpa only [T.reps] using h
  | c :: cs, vs, hf, h => by
    simp only [T.allInP, Bool.and_eq_true] at hf
    simp only [T.reps] at h ⊢
    obtain ⟨v, vs', e, h1, h2⟩ := h
    exact ⟨v, vs', e, T.rep_inP hν c v hf.1 h1, T.reps_inP hν cs vs' hf.2 h2⟩
end
theorem bxInP_spec {p : Nat → Bool} : ∀ {B : Bx} {k : Nat} {r : Res}, bxInP p B = true → (k, r) ∈ B → ∀ cs, r = .cells cs → Cell.allInP p cs = true
  | x :: B, k, r, h, hm, cs, e => by
    simp only [bxInP, Bool.and_eq_true] at h
    rcases List.mem_cons.1 hm with rfl | hm
    · subst e; exact h.1
    · exact bxInP_spec h.2 hm cs e
theorem Res.ok_inP {M : Mem0} {ν ν' : Nu} {w : World} {j : Nat} {p : Nat → Bool} (hν : ∀ i, p i = true → ν' i = ν i) (hj : p j = true) : ∀ {r : Res}, (∀ cs, r = .cells cs → Cell.allInP p cs = true) → r.ok M ν' w j → r.ok M ν w j
  | .cells cs, hf, h => by
    simp only [Res.ok] at h ⊢
    rw [hν j hj] at h
    obtain ⟨b, c, et, e1, e2, e3⟩ := h
    exact ⟨b, c, et, e1, e2, Cell.reps_inP hν cs _ (hf cs rfl) e3⟩
  | .row sz rows, hf, h => by
    simp only [Res.ok] at h ⊢
    rw [hν j hj] at h; exact h
  | .mp ag es, hf, h => by
    simp only [Res.ok] at h ⊢
    rw [hν j hj] at h; exact h
theorem Cell.inP_aux {js : List Nat} {k : Nat} (h : ∀ j ∈ js, k ≠ j) : (!js.contains k) = true := by
  simp only [Bool.not_eq_true']
  cases hc : js.contains k with
  | false => rfl
  | true => exact absurd rfl (h k (List.contains_iff_mem.1 hc))
mutual
theorem Cell.inP_of_fresh {js : List Nat} : ∀ (c : Cell), (∀ j ∈ js, c.fresh j = true) → c.inP (fun i => !js.contains i) = true
  | .dat _, _ => rfl
  | .ptr k _, h => Cell.inP_aux fun j hj => by have := h j hj; simp only [Cell.fresh, bne_iff_ne] at this; exact this
  | .own k _, h => Cell.inP_aux fun j hj => by have := h j hj; simp only [Cell.fresh, bne_iff_ne] at this; exact this
  | .rp k _ _ _, h => Cell.inP_aux fun j hj => by have := h j hj; simp only [Cell.fresh, bne_iff_ne] at this; exact this
  | .arr k _, h => Cell.inP_aux fun j hj => by have := h j hj; simp only [Cell.fresh, bne_iff_ne] at this; exact this
  | .ref _, _ => rfl
  | .mp k, h => Cell.inP_aux fun j hj => by have := h j hj; simp only [Cell.fresh, bne_iff_ne] at this; exact this
  | .clo f caps, h => by
    simp only [Cell.inP]
    exact Cell.inP_of_freshs caps fun j hj => by simpa only [Cell.fresh] using h j hj
theorem Cell.inP_of_freshs {js : List Nat} : ∀ (cs : List Cell), (∀ j ∈ js, Cell.freshs j cs = true) → Cell.allInP (fun i => !js.contains i) cs = true
  | [], _ => rfl
  | c :: cs, h => by
    simp only [Cell.allInP, Bool.and_eq_true]
    exact ⟨Cell.inP_of_fresh c fun j hj => by have := h j hj; simp only [Cell.freshs, Bool.and_eq_true] at this; exact this.1, Cell.inP_of_freshs cs fun j hj => by have := h j hj; simp only [Cell.freshs, Bool.and_eq_true] at this; exact this.2⟩
end
end Go.Sx
set_option linter.unusedVariables false
set_option linter.unusedSimpArgs false
namespace Go.Sx
variable {P : Program} {n : Nat} {σ : AS} {Q : Exit → AS → Prop}
mutual
def T.hasPtr : T → Bool
  | .one (.ptr _ _) => true
  | .one (.clo _ caps) => capsPtr caps
  | .one (.mp _) => true
  | .one _ => false
  | .st _ => false
  | .agg _ => false
  | .tup ts => T.anyPtr ts
  | .un => false
def T.anyPtr : List T → Bool
  | [] => false
  | t :: ts => T.hasPtr t || T.anyPtr ts
def capsPtr : List Cell → Bool
  | [] => false
  | .ptr _ _ :: _ => true
  | _ :: cs => capsPtr cs
end
/-- the contract of a function that turns one box, the box under the caller's name for it -/
def PCBk (P : Program) (f : FuncId) (args : List T) (k : Nat) (res : Res) (r : T) (res' : Res) : Prop :=
  ∃ args0 res0 r0 res0', PCB P f args0 [(pin, res0)] r0 [(pin, res0')] ∧ args = T.rens (fun _ => k) args0 ∧ res = res0.ren (fun _ => k) ∧ r = r0.ren (fun _ => k) ∧ res' = res0'.ren (fun _ => k)
theorem Res.ok_ren {M : Mem} {ν : Nu} {w : World} {k j : Nat} : ∀ {r : Res}, (r.ren (fun _ => k)).ok M ν w k ↔ r.ok M (fun _ => ν k) w j
  | .cells cs => by
    simp only [Res.ren, Res.ok]
    constructor
    · rintro ⟨b, c, et, h1, h2, h3⟩; exact ⟨b, c, et, h1, h2, (Cell.reps_ren cs _).1 h3⟩
    · rintro ⟨b, c, et, h1, h2, h3⟩; exact ⟨b, c, et, h1, h2, (Cell.reps_ren cs _).2 h3⟩
  | .row sz rows => by simp only [Res.ren, Res.ok]
  | .mp ag es => by simp only [Res.ren, Res.ok]
def vCall1 (P : Program) (g : FuncId) (us : List T) (B : Bx) (K : T → Bx → Prop) : Prop :=
  ∃ k res r res', PCBk P g us k res r res' ∧ B.lookup k = some res ∧ K r (Bx.put k res' B)
theorem vCall1_sound {ty : TypeId} {f : Operand} {args : List Operand} {ts : Array TypeId} {env : Env} {B : Bx} {o : Oper} {K : T → Bx → Prop} {g : FuncId} {caps us : List T} (ho : o.op = .call { callee := .value f, args := args.toArray, argTypes := ts })
    (hf : calleeT (ev P env ty f) = some (g, caps)) (hu : evs P env args ts.toList = some us) (h : vCall1 P g (us ++ caps) B K) : ∃ u B', OpE P o env B u B' ∧ (∃ k r, B' = Bx.put k r B ∧ B.lookup k ≠ none) ∧ K u B' := by
  obtain ⟨k, res, r, res', ⟨args0, res0, r0, res0', hpc, ea, e1, e2, e3⟩, hb, hK⟩ := h
  refine ⟨r, _, ?_, ⟨k, res', rfl, by rw [hb]; simp⟩, hK⟩
  intro κ M ν a w he hs
  obtain ⟨vs, hrun, hreps⟩ := exec_call ho he hf hu hpc.1 w
  unfold Oper.wp
  rw [hrun]
  simp only [Oper.upon]
  have hmem := lookup_box hb
  subst e1 e2 e3
  have hs1 : Sat ⟨w, boxBlocks [(pin, res0)] (fun _ => ν k), fun _ => ν k⟩ M (fun _ => ν k) [(pin, res0)] w := by
    refine ⟨rfl, rfl, rfl, Nat.zero_le _, Nat.le_refl _, fun _ _ _ => rfl, hs.fro, ?_, ?_, ?_, by simp⟩
    · intro j q hm
      simp only [List.mem_singleton] at hm
      cases hm
      exact Res.ok_ren.1 (hs.res k _ hmem)
    · intro j q b hm hb
      have hm' := hm
      simp only [List.mem_singleton] at hm'
      cases hm'
      exact ⟨(hs.away k _ b hmem hb).1, .inr ⟨pin, res0, hm, hb⟩⟩
    · intro j q j' q' b hm hm' _ _
      simp only [List.mem_singleton] at hm hm'
      cases hm; cases hm'; rfl
  rw [ea] at hreps
  refine Calls.mono (hpc.2 M _ w vs hs1 ((T.reps_ren _ _).1 hreps)) ?_
  rintro e w' ⟨v, M', rfl, hext, hr, hs'⟩
  obtain ⟨h1, h2⟩ := hs.call (B1 := [(k, res0.ren fun _ => k)]) (B1' := [(k, res0'.ren fun _ => k)]) (B' := Bx.put k (res0'.ren fun _ => k) B) (fun x hx => by simp only [List.mem_singleton] at hx; subst hx; exact hmem) hs' rfl
    (fun b hb => by
      obtain ⟨j, q, hm, hb⟩ := hb
      exact ⟨k, _, List.mem_singleton.2 rfl, hb⟩)
    (fun j q hm => by
      simp only [List.mem_singleton] at hm
      cases hm
      exact Res.ok_ren.2 (hs'.res pin res0' (List.mem_singleton.2 rfl))) hext (fun j q b hm hb => by
      simp only [List.mem_singleton] at hm
      cases hm
      exact (hs'.away pin res0' b (List.mem_singleton.2 rfl) hb).1) (fun x hx => by
    rcases Bx.mem_put hs.nodup hx with e | ⟨h1, h2⟩
    · exact .inl (by simp [e])
    · exact .inr ⟨h1, by simpa using h2⟩) (fun x hx => by rw [← Bx.put_keys k (res0'.ren fun _ => k) B]; exact List.mem_map.2 ⟨x, hx, rfl⟩) (by rw [Bx.put_keys]; exact hs.nodup)
  exact ⟨v, M', rfl, h2, (T.rep_ren _ _).2 hr, h1⟩
def ifcT (P : Program) (t : TypeId) : Bool :=
  match P.underlying t with
  | some (.interface _) => true
  | _ => false
def vErr (P : Program) (op : BinOp) (ty : TypeId) (x : Option T) (K : T → Prop) : Prop :=
  match x with
  | some (.one (.dat (.err a))) => ifcT P ty = true ∧ (match op with
    | .eql => K (Bo (!a))
    | .neq => K (Bo a)
    | _ => False)
  | _ => False
theorem run_equalIn_ifc (d : Nat) {ty : TypeId} {ms : _} (hu : P.underlying ty = some (.interface ms)) {b : Bool} {a : Value} (ha : bif b then ∃ te pe, a = .iface te pe else a = .nilIface) (w : World) : (Op.equalIn (d + 1) ty a .nilIface).run P w = .ok (!b) w := by
  cases b
  · rw [show a = _ from ha]
    simp only [Op.equalIn, Sem.run_bind, run_underlying hu, Result.andThen_ok]
    rfl
  · obtain ⟨te, pe, rfl⟩ := ha
    simp only [Op.equalIn, Sem.run_bind, run_underlying hu, Result.andThen_ok]
    rfl
theorem vErr_sound {op : BinOp} {ty yt : TypeId} {x : Operand} {env : Env} {B : Bx} {o : Oper} {K : T → Prop} (ho : o.op = .binOp op ty x (.const .nilIface) yt)
    (h : vErr P op ty (ev P env ty x) K) : ∃ u, OpP P o env B u ∧ K u := by
  have hx : x ∈ o.op.operands := by rw [ho]; simp [Op.operands]
  have hrun : ∀ (a : Act) (w : World), (execOp a.eval o).run P w = ((eqGuard op ty x (.const .nilIface) (a.eval x) .nilIface).run P w).andThen fun _ w => ((binOp op ty (a.eval x) .nilIface).run P w).andThen fun v w => .ok (.value v) w := by
    intro a w
    unfold execOp
    rw [ho]
    simp only [Sem.run_bind, Sem.run_pure]
    show (((eqGuard op ty x (.const .nilIface) (a.eval x) .nilIface).run P w).andThen _).andThen _ = _
    cases (eqGuard op ty x (.const .nilIface) (a.eval x) .nilIface).run P w <;> rfl
  unfold vErr at h
  split at h
  · rename_i b ex
    obtain ⟨hi, h⟩ := h
    unfold ifcT at hi
    split at hi
    · rename_i ms hu
      have key : ∀ (a : Value), (bif b then ∃ te pe, a = .iface te pe else a = .nilIface) → ∀ w, (eqGuard op ty x (.const .nilIface) a .nilIface).run P w = .ok () w ∧ (Op.equalIn 10000 ty a .nilIface).run P w = .ok (!b) w ∧ (binOp .eql ty a .nilIface).run P w = ((Op.equalIn 10000 ty a .nilIface).run P w).andThen (fun c w' => .ok (.bool c) w') ∧ (binOp .neq ty a .nilIface).run P w = ((Op.equalIn 10000 ty a .nilIface).run P w).andThen (fun c w' => .ok (.bool (!c)) w') := by
        intro a ha w
        refine ⟨?_, run_equalIn_ifc 9999 hu ha w, ?_, ?_⟩
        · cases b
          · rw [show a = _ from ha]
            unfold eqGuard
            cases op <;> simp
          · obtain ⟨te, pe, rfl⟩ := ha
            unfold eqGuard
            cases op <;> simp
        · cases b
          · rw [show a = _ from ha]; simp only [binOp, Sem.run_bind, Sem.run_pure]; rfl
          · obtain ⟨te, pe, rfl⟩ := ha; simp only [binOp, Sem.run_bind, Sem.run_pure]; rfl
        · cases b
          · rw [show a = _ from ha]; simp only [binOp, Sem.run_bind, Sem.run_pure]; rfl
          · obtain ⟨te, pe, rfl⟩ := ha; simp only [binOp, Sem.run_bind, Sem.run_pure]; rfl
      cases op <;> simp only [] at h <;> try exact h.elim
      all_goals
        refine ⟨_, OpP.of_val fun κ M ν ac w B' hB he hs => ⟨_, ?_, rep_bool.2 rfl⟩, h⟩
        have hr := ev_rep he hx ex
        simp only [T.rep, Cell.rep, C.rep] at hr
        obtain ⟨h1, h2, h3, h4⟩ := key _ hr w
        rw [hrun, h1]
        simp only [Result.andThen_ok, h3, h4, h2, Bool.not_not]
    · cases hi
  · exact h.elim
/-- what is to be shown of an operation that turns no box; K: of what it yields -/
def pureVC (P : Program) (o : Oper) (env : Env) (B : Bx) (K : T → Prop) : Prop :=
  match o.op with
  | .move x => vMove (ev P env o.type x) K
  | .assign x => vMove (ev P env o.type x) K
  | .pick c a b => vPick (ev P env 0 c) (ev P env o.type a) (ev P env o.type b) K
  | .binOp op ty x (.const .nilIface) _ => vErr P op ty (ev P env ty x) K
  | .binOp op ty x y yt => vBinE P op ty (ev P env ty x) (ev P env yt y) K
  | .unOp op ty x => vUn op (ev P env ty x) K
  | .load t x => vLoad P t B (ev P env 0 x) K
  | .fieldAddr s x f => vFieldAddr P s f (ev P env 0 x) K
  | .indexAddr t x ix => vIndexAddr P t B (ev P env t x) (ev P env 0 ix) K
  | .index t x ix => vIndex P t (ev P env t x) (ev P env 0 ix) K
  | .field s x f => vField P s f (ev P env s x) K
  | .extract x i => vExtract (ev P env 0 x) i K
  | .slice t x lo hi none => vSlice P t (ev P env t x) (lo.map (ev P env 0)) (hi.map (ev P env 0)) K
  | .nilCheck x => vNil (ev P env 0 x) K
  | .convert s d x => vConv P s d B (ev P env s x) K
  | .build t parts => vBuild P t env parts.toList K
  | .buildSlice t len parts => vBuildSlice P t len env parts.toList K
  | .call { callee := .builtin .len, args := ⟨[x]⟩, argTypes := ⟨[t]⟩ } => vLen P t (softO (ev P env t x)) K
  | .call { callee := .builtin .max, args := ⟨[x, y]⟩, argTypes := _ } => vMinMax true (ev P env 0 x) (ev P env 0 y) K
  | .call { callee := .builtin .min, args := ⟨[x, y]⟩, argTypes := _ } => vMinMax false (ev P env 0 x) (ev P env 0 y) K
  | .call { callee := .value f, args := args, argTypes := ts } => vCall P 0 f args.toList ts.toList env K
  | .makeFunc fn first captured => vMakeFunc P fn first.toList captured.toList env K
  | .lookup t x ix ok => vLookup P t B (ev P env t x) (ev P env 0 ix) ok K
  | _ => False
theorem vMove_sound {x : Operand} {ty : TypeId} {env : Env} {B : Bx} {o : Oper} {K : T → Prop} (ho : o.op = .move x ∨ o.op = .assign x) (h : vMove (ev P env ty x) K) : ∃ u, OpP P o env B u ∧ K u := by
  have hx : x ∈ o.op.operands := by rcases ho with ho | ho <;> rw [ho] <;> simp [Op.operands]
  obtain ⟨u, hu, hK⟩ := vMove_some h
  refine ⟨u, OpP.of_val fun κ M ν a w B' hB he hs => ⟨_, ?_, ev_rep he hx hu⟩, hK⟩
  unfold execOp
  rcases ho with ho | ho <;> rw [ho] <;> rfl
theorem vPick_sound {c x y : Operand} {t1 t2 : TypeId} {env : Env} {B : Bx} {o : Oper} {K : T → Prop} (ho : o.op = .pick c x y) (h : vPick (ev P env t1 c) (ev P env t2 x) (ev P env t2 y) K) : ∃ u, OpP P o env B u ∧ K u := by
  have hc : c ∈ o.op.operands := by rw [ho]; simp [Op.operands]
  have hx : x ∈ o.op.operands := by rw [ho]; simp [Op.operands]
  have hy : y ∈ o.op.operands := by rw [ho]; simp [Op.operands]
  unfold vPick at h
  split at h
  · rename_i b eb
    cases b with
    | true =>
      simp only [cond_true] at h
      obtain ⟨u, hu, hK⟩ := vMove_some h
      refine ⟨u, OpP.of_val fun κ M ν a w B' hB he hs => ⟨_, ?_, ev_rep he hx hu⟩, hK⟩
      have := rep_bool.1 (ev_rep he hc eb)
      unfold execOp; rw [ho]; simp [this, asBool]
    | false =>
      simp only [cond_false] at h
      obtain ⟨u, hu, hK⟩ := vMove_some h
      refine ⟨u, OpP.of_val fun κ M ν a w B' hB he hs => ⟨_, ?_, ev_rep he hy hu⟩, hK⟩
      have := rep_bool.1 (ev_rep he hc eb)
      unfold execOp; rw [ho]; simp [this, asBool]
  · exact h.elim
theorem pureVC_sound {o : Oper} {env : Env} {B : Bx} {K : T → Prop} (h : pureVC P o env B K) : ∃ u, OpP P o env B u ∧ K u := by
  unfold pureVC at h
  split at h
  · rename_i x ho; exact vMove_sound (.inl ho) h
  · rename_i x ho; exact vMove_sound (.inr ho) h
  · rename_i c a b ho; exact vPick_sound ho h
  · rename_i ho; exact vErr_sound ho h
  · rename_i ho; exact vBinE_sound ho h
  · rename_i ho; exact vUn_sound ho h
  · rename_i ho; exact vLoad_sound ho h
  · rename_i ho; exact vFieldAddr_sound ho h
  · rename_i ho; exact vIndexAddr_sound ho h
  · rename_i ho; exact vIndex_sound ho h
  · rename_i ho; exact vField_sound ho h
  · rename_i ho; exact vExtract_sound ho h
  · rename_i ho; exact vSlice_sound ho h
  · rename_i ho; exact vNil_sound ho h
  · rename_i ho; exact vConv_sound ho h
  · rename_i t parts ho; exact vBuild_sound (parts := parts.toList) (by rw [ho]) h
  · rename_i t len parts ho; exact vBuildSlice_sound (parts := parts.toList) (by rw [ho]) h
  · rename_i x t ho; exact vLen_sound ho h
  · rename_i x y ts ho; exact vMinMax_sound (isMax := true) (ts := ts) ho h
  · rename_i x y ts ho; exact vMinMax_sound (isMax := false) (ts := ts) ho h
  · rename_i f args ts ho; exact vCall_sound (args := args.toList) (by rw [ho]) h
  · rename_i fn first captured ho; exact vMakeFunc_sound (first := first.toList) (captured := captured.toList) (by rw [ho]) h
  · rename_i ho; exact vLookup_sound ho h
  · exact h.elim
def vCallE (P : Program) (g : FuncId) (us : List T) (B : Bx) (K : T → Bx → Prop) : Prop :=
  match ownIn us with
  | none => ∃ r, PC P g us r ∧ K r B
  | some _ => vCallZ P g us B K ∨ vCall1 P g us B K
/-- what is to be shown of an operation that may turn boxes -/
def effVC (P : Program) (o : Oper) (env : Env) (B : Bx) (K : T → Bx → Prop) : Prop :=
  match o.op with
  | .alloc e => vAlloc P (dstN o) e env B K
  | .box e x => vBox P (dstN o) e (ev P env e x) env B K
  | .store t x y => vStore P t (ev P env 0 x) (ev P env t y) B (fun B' => K undefT B')
  | .call { callee := .builtin .append, args := ⟨[s, x]⟩, argTypes := ⟨[t1, t2]⟩ } => vAppend P (dstN o) t1 t2 (ev P env t1 s) (softO (ev P env t2 x)) env B K
  | .call { callee := .value f, args := args, argTypes := ts } =>
    match calleeT (ev P env 0 f), evs P env args.toList ts.toList with
    | some (g, caps), some us => bif T.anyPtr (us ++ caps) then vCall1 P g (us ++ caps) B K else vCallE P g (us ++ caps) B K
    | _, _ => False
  | .buildSlice t len parts => vBuildSlice P t len env parts.toList (fun t => K t B) ∨ vBuildOwn P (dstN o) t len env parts.toList B K
  | .makeMap t none => vMakeMap P (dstN o) t env B K
  | .makeSlice t x y => vMakeSl P (dstN o) t (ev P env 0 x) (ev P env 0 y) env B K
  | .mapUpdate t x ix y => vMapPut P t (ev P env t x) (ev P env 0 ix) (ev P env 0 y) B (fun B' => K undefT B')
  | .insert t x ix y => vMapPut P t (ev P env t x) (ev P env 0 ix) (ev P env 0 y) B (fun B' => K undefT B')
  | _ => pureVC P o env B (fun t => K t B)
theorem effVC_sound {o : Oper} {env : Env} {B : Bx} {K : T → Bx → Prop} (h : effVC P o env B K) :
    (∃ t, OpP P o env B t ∧ K t B) ∨ (∃ t B', OpE P o env B t B' ∧ K t B') ∨ (∃ t B', OpG P o env B (dstN o) t B' ∧ Env.fresh (dstN o) env = true ∧ K t B') := by
  unfold effVC at h
  split at h
  · rename_i e ho; exact .inr (.inr (vAlloc_sound ho h))
  · rename_i e x ho; exact .inr (.inr (vBox_sound ho h))
  · rename_i t x y ho
    obtain ⟨B', h1, h2⟩ := vStore_sound ho h
    exact .inr (.inl ⟨_, B', h1, h2⟩)
  · rename_i s x t1 t2 ho; exact .inr (.inr (vAppend_sound ho h))
  · rename_i f args ts ho
    split at h
    · rename_i g caps us hf hu
      cases hp : T.anyPtr (us ++ caps) with
      | true =>
        rw [hp] at h
        obtain ⟨u, B', h1, _, h2⟩ := vCall1_sound (args := args.toList) (by rw [ho]) hf hu h
        exact .inr (.inl ⟨u, B', h1, h2⟩)
      | false =>
        rw [hp] at h
        simp only [cond_false] at h
        unfold vCallE at h
        split at h
        · exact .inl (vCall_sound (ty := 0) (args := args.toList) (by rw [ho]) (K := fun t => K t B) (by unfold vCall; rw [hf, hu]; exact h))
        · rcases h with h | h
          · exact .inr (.inl (vCallZ_sound (args := args.toList) (by rw [ho]) hf hu h))
          · obtain ⟨u, B', h1, _, h2⟩ := vCall1_sound (args := args.toList) (by rw [ho]) hf hu h
            exact .inr (.inl ⟨u, B', h1, h2⟩)
    · exact h.elim
  · rename_i t len parts ho
    rcases h with h | h
    · exact .inl (vBuildSlice_sound (parts := parts.toList) (by rw [ho]) h)
    · exact .inr (.inr (vBuildOwn_sound (parts := parts.toList) (by rw [ho]) h))
  · rename_i t ho; exact .inr (.inr (vMakeMap_sound ho h))
  · rename_i t x y ho; exact .inr (.inr (vMakeSl_sound ho h))
  · rename_i t x ix y ho
    obtain ⟨B', h1, h2⟩ := vMapPut_sound (.inl ho) h
    exact .inr (.inl ⟨_, B', h1, h2⟩)
  · rename_i t x ix y ho
    obtain ⟨B', h1, h2⟩ := vMapPut_sound (.inr ho) h
    exact .inr (.inl ⟨_, B', h1, h2⟩)
  · exact .inl (pureVC_sound h)
/-- a box of blocks that are new since the world of the calling -/
theorem Sat.add {κ : Kap} {M : Mem} {ν : Nu} {B : Bx} {w : World} {k s : Nat} {nm : Nm} {r : Res} (h : Sat κ M ν B w) (hf : Bx.fresh k B = true) (hr : r.ok M (ν.set k nm) w k)
    (hM : ∀ b, nm.blk = some b → M b = none ∧ s ≤ b) (hk : κ.w.heap.size ≤ s) (hold : ∀ j q b, (j, q) ∈ B → (ν j).blk = some b → b < s) : Sat κ M (ν.set k nm) ((k, r) :: B) w where
  os := h.os
  tape := h.tape
  output := h.output
  dr := Nat.zero_le _
  size := h.size
  unch := h.unch
  fro := h.fro
  res := fun j q hm => by
    rcases List.mem_cons.1 hm with e | hm
    · cases e; exact hr
    · obtain ⟨hj, hc⟩ := Bx.fresh_spec hf hm
      exact Res.ok_fresh Nu.set_other hj hc (h.res j q hm)
  away := fun j q b hm hb => by
    rcases List.mem_cons.1 hm with e | hm
    · cases e
      rw [Nu.set_self] at hb
      exact ⟨(hM b hb).1, .inl (Nat.le_trans hk (hM b hb).2)⟩
    · obtain ⟨hj, _⟩ := Bx.fresh_spec hf hm
      rw [Nu.set_other j hj] at hb
      exact h.away j q b hm hb
  inj := fun j q j' q' b hm hm' hb hb' => by
    rcases List.mem_cons.1 hm with e | hm <;> rcases List.mem_cons.1 hm' with e' | hm'
    · cases e; cases e'; rfl
    · cases e
      obtain ⟨hj, _⟩ := Bx.fresh_spec hf hm'
      rw [Nu.set_self] at hb
      rw [Nu.set_other j' hj] at hb'
      have h1 := (hM b hb).2
      have h2 := hold j' q' b hm' hb'
      omega
    · cases e'
      obtain ⟨hj, _⟩ := Bx.fresh_spec hf hm
      rw [Nu.set_self] at hb'
      rw [Nu.set_other j hj] at hb
      have h1 := (hM b hb').2
      have h2 := hold j q b hm hb
      omega
    · obtain ⟨hj, _⟩ := Bx.fresh_spec hf hm
      obtain ⟨hj', _⟩ := Bx.fresh_spec hf hm'
      rw [Nu.set_other j hj] at hb
      rw [Nu.set_other j' hj'] at hb'
      exact h.inj j q j' q' b hm hm' hb hb'
  nodup := by
    simp only [List.map_cons, List.nodup_cons]
    refine ⟨fun hm => ?_, h.nodup⟩
    obtain ⟨⟨j, q⟩, hm, e⟩ := List.mem_map.1 hm
    exact (Bx.fresh_spec hf hm).1 e
/-- called with the arguments, in whatever world, the function gives r, that tells of one new box res (both under any one name) -/
def PCN (P : Program) (f : FuncId) (args : List T) (r : T) (res : Res) : Prop :=
  Ent P f ∧ ∀ M ν w vs, Sat ⟨w, boxBlocks [] ν, ν⟩ M ν [] w → T.reps M ν args vs →
    Calls P f vs.toArray w (fun e w' => ∃ v M' nm, e = .returned v ∧ Mem.ext ⟨w, boxBlocks [] ν, ν⟩ M M' ∧ r.rep M' (fun _ => nm) v ∧ Sat ⟨w, boxBlocks [] ν, ν⟩ M' (fun _ => nm) [(0, res)] w')
def vCallN (P : Program) (k : Nat) (g : FuncId) (us : List T) (env : Env) (B : Bx) (K : T → Bx → Prop) : Prop :=
  ∃ r res, PCN P g us r res ∧ Env.fresh k env = true ∧ Bx.fresh k B = true ∧ K (r.ren fun _ => k) ((k, res.ren fun _ => k) :: B)
theorem vCallN_sound {ty : TypeId} {f : Operand} {args : List Operand} {ts : Array TypeId} {env : Env} {B : Bx} {o : Oper} {K : T → Bx → Prop} {g : FuncId} {caps us : List T} (ho : o.op = .call { callee := .value f, args := args.toArray, argTypes := ts })
    (hf : calleeT (ev P env ty f) = some (g, caps)) (hu : evs P env args ts.toList = some us) (h : vCallN P (dstN o) g (us ++ caps) env B K) : ∃ t B', OpG P o env B (dstN o) t B' ∧ Env.fresh (dstN o) env = true ∧ K t B' := by
  obtain ⟨r, res, hpc, hfr, hfB, hK⟩ := h
  refine ⟨_, _, ?_, hfr, hK⟩
  intro κ M ν a w he hs
  obtain ⟨vs, hrun, hreps⟩ := exec_call ho he hf hu hpc.1 w
  unfold Oper.wp
  rw [hrun]
  simp only [Oper.upon]
  refine Calls.mono (hpc.2 M ν w vs (hs.nil _ _) hreps) ?_
  rintro e w' ⟨v, M', nm, rfl, hext, hr, hs'⟩
  obtain ⟨h1, h2⟩ := hs.call (B1 := []) (B1' := []) (B' := B) (fun x hx => by cases hx) hs' rfl (fun b h => h) (fun _ _ h => by cases h) hext (fun _ _ _ h => by cases h) (fun x hx => .inr ⟨hx, by simp⟩) (fun x hx => List.mem_map.2 ⟨x, hx, rfl⟩) hs.nodup
  refine ⟨v, M', ν.set (dstN o) nm, rfl, h2, fun j hj => Nu.set_other j hj, ?_, ?_⟩
  · rw [T.rep_ren]
    simp only [Nu.set_self]
    exact hr
  · refine Sat.add (s := w.heap.size) h1 hfB ?_ ?_ hs.size ?_
    · rw [Res.ok_ren (j := 0)]
      simp only [Nu.set_self]
      exact hs'.res 0 res (by simp)
    · intro b hb
      have := hs'.away 0 res b (by simp) hb
      refine ⟨this.1, ?_⟩
      rcases this.2 with h | h
      · exact h
      · obtain ⟨_, _, hm, _⟩ := h
        cases hm
    · intro j q b hm hb
      exact Res.blk_lt (hs.res j q hm) hb
/-- called with the arguments, that own the boxes B, the function gives r, that owns the boxes B' (the names of B are gone) -/
def PCX (P : Program) (f : FuncId) (args : List T) (B : Bx) (r : T) (B' : Bx) : Prop :=
  Ent P f ∧ ∀ M ν w vs, Sat ⟨w, boxBlocks B ν, ν⟩ M ν B w → T.reps M ν args vs →
    Calls P f vs.toArray w (fun e w' => ∃ v M' ν', e = .returned v ∧ Mem.ext ⟨w, boxBlocks B ν, ν⟩ M M' ∧ r.rep M' ν' v ∧ Sat ⟨w, boxBlocks B ν, ν⟩ M' ν' B' w')
def Bx.ren (ρ : Nat → Nat) : Bx → Bx
  | [] => []
  | p :: B => (ρ p.1, p.2.ren ρ) :: Bx.ren ρ B
theorem Bx.ren_mem {ρ : Nat → Nat} : ∀ {B : Bx} {x : Nat × Res}, x ∈ Bx.ren ρ B ↔ ∃ p ∈ B, x = (ρ p.1, p.2.ren ρ)
  | [], x => by simp [Bx.ren]
  | p :: B, x => by
    simp only [Bx.ren, List.mem_cons, Bx.ren_mem (B := B)]
    constructor
    · rintro (h | ⟨q, hq, h⟩)
      · exact ⟨p, .inl rfl, h⟩
      · exact ⟨q, .inr hq, h⟩
    · rintro ⟨q, hq | hq, h⟩
      · subst hq; exact .inl h
      · exact .inr ⟨q, hq, h⟩
theorem Bx.ren_keys {ρ : Nat → Nat} : ∀ {B : Bx}, (Bx.ren ρ B).map (·.1) = B.map fun p => ρ p.1
  | [] => rfl
  | p :: B => by simp only [Bx.ren, List.map_cons, Bx.ren_keys (B := B)]
theorem Res.ok_rens {M : Mem} {ν : Nu} {w : World} {ρ : Nat → Nat} {k : Nat} : ∀ {r : Res}, (r.ren ρ).ok M ν w (ρ k) ↔ r.ok M (fun k => ν (ρ k)) w k
  | .cells cs => by
    simp only [Res.ren, Res.ok]
    constructor
    · rintro ⟨b, c, et, h1, h2, h3⟩; exact ⟨b, c, et, h1, h2, (Cell.reps_ren cs _).1 h3⟩
    · rintro ⟨b, c, et, h1, h2, h3⟩; exact ⟨b, c, et, h1, h2, (Cell.reps_ren cs _).2 h3⟩
  | .row sz rows => by simp only [Res.ren, Res.ok]
  | .mp ag es => by simp only [Res.ren, Res.ok]
def nodupN : List Nat → Bool
  | [] => true
  | k :: ks => !ks.contains k && nodupN ks
theorem nodupN_spec : ∀ {l : List Nat}, nodupN l = true → l.Nodup
  | [], _ => by simp
  | k :: ks, h => by
    simp only [nodupN, Bool.and_eq_true, Bool.not_eq_true'] at h
    rw [List.nodup_cons]
    refine ⟨fun hm => ?_, nodupN_spec h.2⟩
    have h1 := List.contains_iff_mem.2 hm
    rw [h.1] at h1
    exact absurd h1 (by decide)
/-- a contract under other names: the taken ones by ρ, the given ones moved by c -/
theorem PCX.ren {f : FuncId} {args : List T} {B : Bx} {r : T} {B' : Bx} (h : PCX P f args B r B') (ρ : Nat → Nat) (c : Nat) {args1 : List T} {B1 : Bx} {r1 : T} {B1' : Bx}
    (hn : nodupN (B.map (·.1)) = true) (e1 : args1 = T.rens ρ args) (e2 : B1 = Bx.ren ρ B) (e3 : r1 = r.ren (· + c)) (e4 : B1' = Bx.ren (· + c) B') : PCX P f args1 B1 r1 B1' := by
  subst e1 e2 e3 e4
  refine ⟨h.1, fun M ν w vs hs hreps => ?_⟩
  have hbb : ∀ b, boxBlocks B (fun k => ν (ρ k)) b ↔ boxBlocks (Bx.ren ρ B) ν b := by
    intro b
    constructor
    · rintro ⟨k, q, hm, hb⟩; exact ⟨ρ k, q.ren ρ, Bx.ren_mem.2 ⟨(k, q), hm, rfl⟩, hb⟩
    · rintro ⟨k, q, hm, hb⟩
      obtain ⟨p, hp, e⟩ := Bx.ren_mem.1 hm
      cases e
      exact ⟨p.1, p.2, hp, hb⟩
  have hnd := hs.nodup
  rw [Bx.ren_keys] at hnd
  have hs1 : Sat ⟨w, boxBlocks B (fun k => ν (ρ k)), fun k => ν (ρ k)⟩ M (fun k => ν (ρ k)) B w := by
    refine ⟨rfl, rfl, rfl, Nat.zero_le _, Nat.le_refl _, fun _ _ _ => rfl, hs.fro, ?_, ?_, ?_, nodupN_spec hn⟩
    · intro k q hm
      exact Res.ok_rens.1 (hs.res _ _ (Bx.ren_mem.2 ⟨(k, q), hm, rfl⟩))
    · intro k q b hm hb
      have := hs.away _ _ b (Bx.ren_mem.2 ⟨(k, q), hm, rfl⟩) hb
      exact ⟨this.1, .inr ⟨k, q, hm, hb⟩⟩
    · intro k q k' q' b hm hm' hb hb'
      have e := hs.inj _ _ _ _ b (Bx.ren_mem.2 ⟨(k, q), hm, rfl⟩) (Bx.ren_mem.2 ⟨(k', q'), hm', rfl⟩) hb hb'
      have := nodup_inj (f := fun p : Nat × Res => ρ p.1) hnd (k, q) hm (k', q') hm' e
      exact congrArg Prod.fst this
  refine Calls.mono (h.2 M _ w vs hs1 ((T.reps_ren _ _).1 hreps)) ?_
  rintro e w' ⟨v, M', ν', rfl, hext, hr, hs'⟩
  refine ⟨v, M', fun j => ν' (j - c), rfl, ⟨hext.1, fun b o e => (hext.2 b o e).imp id fun h => h.imp id (hbb b).1⟩, ?_, ?_⟩
  · rw [T.rep_ren]
    simpa only [Nat.add_sub_cancel] using hr
  · refine ⟨hs'.os, hs'.tape, hs'.output, Nat.zero_le _, hs'.size, fun b hb hD => hs'.unch b hb fun h => hD ((hbb b).1 h), hs'.fro, ?_, ?_, ?_, ?_⟩
    · intro k q hm
      obtain ⟨p, hp, e⟩ := Bx.ren_mem.1 hm
      cases e
      rw [Res.ok_rens (ρ := (· + c)) (k := p.1)]
      simpa only [Nat.add_sub_cancel] using hs'.res p.1 p.2 hp
    · intro k q b hm hb
      obtain ⟨p, hp, e⟩ := Bx.ren_mem.1 hm
      cases e
      simp only [Nat.add_sub_cancel] at hb
      have := hs'.away p.1 p.2 b hp hb
      exact ⟨this.1, this.2.imp id (hbb b).1⟩
    · intro k q k' q' b hm hm' hb hb'
      obtain ⟨p, hp, e⟩ := Bx.ren_mem.1 hm
      cases e
      obtain ⟨p', hp', e⟩ := Bx.ren_mem.1 hm'
      cases e
      simp only [Nat.add_sub_cancel] at hb hb'
      have := hs'.inj p.1 p.2 p'.1 p'.2 b hp hp' hb hb'
      rw [this]
    · rw [Bx.ren_keys]
      have : (B'.map fun p => p.1 + c) = (B'.map (·.1)).map (· + c) := by rw [List.map_map]; rfl
      rw [this]
      have nm : ∀ {l : List Nat}, l.Nodup → (l.map (· + c)).Nodup := fun {l} h => by
        induction l with
        | nil => simp
        | cons a l ih =>
          rw [List.nodup_cons] at h
          rw [List.map_cons, List.nodup_cons]
          refine ⟨fun hm => ?_, ih h.2⟩
          obtain ⟨x, hx, e⟩ := List.mem_map.1 hm
          have : x = a := by simpa using e
          exact h.1 (this ▸ hx)
      exact nm hs'.nodup
def Bx.drops : List Nat → Bx → Bx
  | [], B => B
  | k :: ks, B => Bx.drops ks (Bx.drop k B)
theorem Bx.mem_drops : ∀ {ks : List Nat} {B : Bx} {x : Nat × Res}, (B.map (·.1)).Nodup → x ∈ Bx.drops ks B → x ∈ B ∧ x.1 ∉ ks
  | [], B, x, _, h => ⟨h, by simp⟩
  | k :: ks, B, x, hn, h => by
    obtain ⟨h1, h2⟩ := Bx.mem_drops (ks := ks) (Bx.drop_nodup k hn) h
    obtain ⟨h3, h4⟩ := Bx.mem_drop hn h1
    exact ⟨h3, by simp [h4, h2]⟩
theorem Bx.drops_nodup : ∀ {ks : List Nat} {B : Bx}, (B.map (·.1)).Nodup → ((Bx.drops ks B).map (·.1)).Nodup
  | [], B, h => h
  | k :: ks, B, h => Bx.drops_nodup (ks := ks) (Bx.drop_nodup k h)
def Bx.subL : Bx → Bx → Prop
  | [], _ => True
  | p :: B1, B => B.lookup p.1 = some p.2 ∧ Bx.subL B1 B
theorem Bx.subL_spec : ∀ {B1 B : Bx}, Bx.subL B1 B → ∀ x ∈ B1, x ∈ B
  | p :: B1, B, h, x, hx => by
    rcases List.mem_cons.1 hx with rfl | hx
    · exact lookup_box h.1
    · exact Bx.subL_spec h.2 x hx
/-- the new names are new -/
def newNames (js : List Nat) (env : Env) (B : Bx) : Bool := js.all fun j => Nat.blt j pin && Env.fresh j env && Bx.fresh j B
def vCallX (P : Program) (g : FuncId) (us : List T) (env : Env) (B : Bx) (K : T → Bx → Prop) : Prop :=
  ∃ r B1 B1', PCX P g us B1 r B1' ∧ Bx.subL B1 B ∧ nodupN (B1.map (·.1)) = true ∧ newNames (B1'.map (·.1)) env B = true ∧ r.inP (B1'.map (·.1)).contains = true ∧ bxInP (B1'.map (·.1)).contains B1' = true ∧
    K r (B1' ++ Bx.drops (B1.map (·.1)) B)
theorem vCallX_op {ty : TypeId} {f : Operand} {args : List Operand} {ts : Array TypeId} {env : Env} {B : Bx} {o : Oper} {g : FuncId} {caps us : List T} {r : T} {B1 B1' : Bx} (ho : o.op = .call { callee := .value f, args := args.toArray, argTypes := ts })
    (hf : calleeT (ev P env ty f) = some (g, caps)) (hu : evsH P env args ts.toList = some us) (hpc : PCX P g (us ++ caps) B1 r B1') (hsubL : Bx.subL B1 B) (hnd1 : nodupN (B1.map (·.1)) = true)
    (hnw : ∀ j ∈ B1'.map (·.1), j < pin ∧ Env.fresh j env = true ∧ Bx.fresh j B = true) (hrn : r.inP (B1'.map (·.1)).contains = true) (hbn : bxInP (B1'.map (·.1)).contains B1' = true) :
    OpX P o env B (B1'.map (·.1)) r (B1' ++ Bx.drops (B1.map (·.1)) B) := by
  have hsub := Bx.subL_spec hsubL
  intro κ M ν a w he hs
  obtain ⟨vs, hrun, hreps⟩ := exec_callH ho he hf hu hpc.1 w
  unfold Oper.wp
  rw [hrun]
  simp only [Oper.upon]
  have hs1 : Sat ⟨w, boxBlocks B1 ν, ν⟩ M ν B1 w :=
    ⟨rfl, rfl, rfl, Nat.zero_le _, Nat.le_refl _, fun _ _ _ => rfl, hs.fro, fun k q hm => hs.res k q (hsub _ hm), fun k q b hm hb => ⟨(hs.away k q b (hsub _ hm) hb).1, .inr ⟨k, q, hm, hb⟩⟩,
      fun k q k' q' b hm hm' hb hb' => hs.inj k q k' q' b (hsub _ hm) (hsub _ hm') hb hb', nodupN_spec hnd1⟩
  refine Calls.mono (hpc.2 M ν w vs hs1 hreps) ?_
  rintro e w' ⟨v, M', ν1, rfl, hext, hr, hs'⟩
  have hext' : Mem.ext κ M M' := ⟨hext.1, fun b o e => (hext.2 b o e).elim .inl fun hb => .inr (hb.elim (fun hb => .inl (Nat.le_trans hs.size hb)) fun hd => by
    obtain ⟨k, q, hm, hbk⟩ := hd
    exact (hs.away k q b (hsub _ hm) hbk).2)⟩
  have hsz : w.heap.size ≤ w'.heap.size := hs'.size
  have kept : ∀ k q b, (k, q) ∈ B → k ∉ B1.map (·.1) → (ν k).blk = some b → ¬ boxBlocks B1 ν b := by
    rintro k q b hm hn hb ⟨k', q', hm', hb'⟩
    have := hs.inj k q k' q' b hm (hsub _ hm') hb hb'
    subst this
    exact hn (List.mem_map.2 ⟨(k, q'), hm', rfl⟩)
  let js := B1'.map (·.1)
  let ν' : Nu := fun j => bif js.contains j then ν1 j else ν j
  have hin : ∀ j, js.contains j = true → ν1 j = ν' j := fun j hj => by simp only [ν', hj, cond_true]
  have hout : ∀ j, j ∉ js → ν' j = ν j := fun j hj => by
    have : js.contains j = false := by
      cases h : js.contains j with
      | false => rfl
      | true => exact absurd (List.contains_iff_mem.1 h) hj
    simp only [ν', this, cond_false]
  have hjs : ∀ {k q}, (k, q) ∈ B1' → js.contains k = true := fun {k q} hm => List.contains_iff_mem.2 (List.mem_map.2 ⟨(k, q), hm, rfl⟩)
  have hold : ∀ {k q}, (k, q) ∈ Bx.drops (B1.map (·.1)) B → (k, q) ∈ B ∧ k ∉ B1.map (·.1) ∧ k ∉ js ∧ ∀ cs, q = .cells cs → Cell.allInP (fun i => !js.contains i) cs = true := fun {k q} hm => by
    obtain ⟨h1, h2⟩ := Bx.mem_drops hs.nodup hm
    refine ⟨h1, h2, fun hj => (Bx.fresh_spec (hnw k hj).2.2 h1).1 rfl, fun cs e => ?_⟩
    have hfr : ∀ j ∈ js, Cell.freshs j cs = true := fun j hj => (Bx.fresh_spec (hnw j hj).2.2 h1).2 cs e
    exact Cell.inP_of_freshs cs hfr
  have hag : ∀ i, (!js.contains i) = true → ν i = ν' i := fun i hi => (hout i fun hm => by
    have := List.contains_iff_mem.2 hm
    simp only [Bool.not_eq_true'] at hi
    rw [hi] at this; cases this).symm
  have hnotc : ∀ {k}, k ∉ js → (!js.contains k) = true := fun {k} hk => by
    simp only [Bool.not_eq_true']
    cases h : js.contains k with
    | false => rfl
    | true => exact absurd (List.contains_iff_mem.1 h) hk
  refine ⟨v, M', ν', rfl, hext', hout, T.rep_inP (ν := ν') (ν' := ν1) (p := js.contains) (fun j hj => hin j hj) r v hrn hr, ?_⟩
  refine ⟨hs'.os.trans hs.os, hs'.tape.trans hs.tape, hs'.output.trans hs.output, Nat.zero_le _, Nat.le_trans hs.size hsz, ?_, hs'.fro, ?_, ?_, ?_, ?_⟩
  · intro b hb hD
    rw [← hs.unch b hb hD]
    refine hs'.unch b (Nat.lt_of_lt_of_le hb hs.size) fun hd1 => ?_
    obtain ⟨k, q, hm, hbk⟩ := hd1
    rcases (hs.away k q b (hsub _ hm) hbk).2 with h2 | h2
    · omega
    · exact hD h2
  · intro k q hm
    rcases List.mem_append.1 hm with hm | hm
    · exact Res.ok_inP (ν := ν') (ν' := ν1) (p := js.contains) (fun i hi => hin i hi) (hjs hm) (bxInP_spec hbn hm) (hs'.res k q hm)
    · obtain ⟨h1, h2, h3, h4⟩ := hold hm
      have h5 : q.ok M' ν w' k := by
        refine Res.ok_mono hext.1 (fun b x e hb => ?_) (hs.res k q h1)
        rw [← e]
        exact hs'.unch b (Array.getElem?_eq_some_iff.1 e).1 (fun hd => kept k q b h1 h2 hb hd)
      exact Res.ok_inP (ν := ν') (ν' := ν) (p := fun i => !js.contains i) (fun i hi => hag i hi) (hnotc h3) h4 h5
  · intro k q b hm hb
    rcases List.mem_append.1 hm with hm | hm
    · rw [← hin k (hjs hm)] at hb
      have h := hs'.away k q b hm hb
      refine ⟨h.1, h.2.elim (fun h => .inl (Nat.le_trans hs.size h)) fun hd => ?_⟩
      obtain ⟨k', q', hm', hbk⟩ := hd
      exact (hs.away k' q' b (hsub _ hm') hbk).2
    · obtain ⟨h1, h2, h3, _⟩ := hold hm
      rw [hout k h3] at hb
      obtain ⟨ha, hc⟩ := hs.away k q b h1 hb
      refine ⟨?_, hc⟩
      cases hMb : M' b with
      | none => rfl
      | some o =>
        rcases hext.2 b o hMb with h5 | h5 | h5
        · rw [ha] at h5; cases h5
        · have := Res.blk_lt (hs.res k q h1) hb
          have h5' : w.heap.size ≤ b := h5
          omega
        · exact absurd h5 (kept k q b h1 h2 hb)
  · have cross : ∀ {k q k' q' b}, (k, q) ∈ B1' → (k', q') ∈ Bx.drops (B1.map (·.1)) B → (ν1 k).blk = some b → (ν k').blk = some b → False := fun {k q k' q' b} hm hm' hb hb' => by
      obtain ⟨h1, h2, h3, _⟩ := hold hm'
      rcases (hs'.away k q b hm hb).2 with h5 | h5
      · have := Res.blk_lt (hs.res k' q' h1) hb'
        have h5' : w.heap.size ≤ b := h5
        omega
      · exact kept k' q' b h1 h2 hb' h5
    intro k q k' q' b hm hm' hb hb'
    rcases List.mem_append.1 hm with hm | hm <;> rcases List.mem_append.1 hm' with hm' | hm'
    · rw [← hin k (hjs hm)] at hb
      rw [← hin k' (hjs hm')] at hb'
      exact hs'.inj k q k' q' b hm hm' hb hb'
    · rw [← hin k (hjs hm)] at hb
      rw [hout k' (hold hm').2.2.1] at hb'
      exact (cross hm hm' hb hb').elim
    · rw [← hin k' (hjs hm')] at hb'
      rw [hout k (hold hm).2.2.1] at hb
      exact (cross hm' hm hb' hb).elim
    · rw [hout k (hold hm).2.2.1] at hb
      rw [hout k' (hold hm').2.2.1] at hb'
      exact hs.inj k q k' q' b (hold hm).1 (hold hm').1 hb hb'
  · rw [List.map_append, List.nodup_append]
    refine ⟨hs'.nodup, Bx.drops_nodup hs.nodup, fun x hx y hy e => ?_⟩
    subst e
    obtain ⟨⟨k, q⟩, hm, e⟩ := List.mem_map.1 hy
    simp only at e
    subst e
    exact (hold hm).2.2.1 hx
theorem vCallX_sound {ty : TypeId} {f : Operand} {args : List Operand} {ts : Array TypeId} {env : Env} {B : Bx} {o : Oper} {K : T → Bx → Prop} {g : FuncId} {caps us : List T} (ho : o.op = .call { callee := .value f, args := args.toArray, argTypes := ts })
    (hf : calleeT (ev P env ty f) = some (g, caps)) (hu : evsH P env args ts.toList = some us) (h : vCallX P g (us ++ caps) env B K) :
    ∃ js t B', OpX P o env B js t B' ∧ (∀ j ∈ js, j < pin) ∧ Env.freshL js env = true ∧ K t B' := by
  obtain ⟨r, B1, B1', hpc, hsubL, hnd1, hnew, hrn, hbn, hK⟩ := h
  have hnw : ∀ j ∈ B1'.map (·.1), j < pin ∧ Env.fresh j env = true ∧ Bx.fresh j B = true := by
    intro j hj
    have := List.all_eq_true.1 hnew j hj
    simp only [Bool.and_eq_true] at this
    exact ⟨Nat.le_of_ble_eq_true this.1.1, this.1.2, this.2⟩
  exact ⟨B1'.map (·.1), r, _, vCallX_op ho hf hu hpc hsubL hnd1 hnw hrn hbn, fun j hj => (hnw j hj).1, List.all_eq_true.2 fun j hj => (hnw j hj).2.1, hK⟩
theorem PCB.ren {f : FuncId} {args : List T} {B : Bx} {r : T} {B' : Bx} (h : PCB P f args B r B') (ρ : Nat → Nat) {args1 : List T} {B1 : Bx} {r1 : T} {B1' : Bx}
    (hn : nodupN (B.map (·.1)) = true) (hk : B'.map (·.1) = B.map (·.1)) (e1 : args1 = T.rens ρ args) (e2 : B1 = Bx.ren ρ B) (e3 : r1 = r.ren ρ) (e4 : B1' = Bx.ren ρ B') : PCB P f args1 B1 r1 B1' := by
  subst e1 e2 e3 e4
  refine ⟨h.1, fun M ν w vs hs hreps => ?_⟩
  have hbb : ∀ b, boxBlocks B (fun k => ν (ρ k)) b ↔ boxBlocks (Bx.ren ρ B) ν b := by
    intro b
    constructor
    · rintro ⟨k, q, hm, hb⟩; exact ⟨ρ k, q.ren ρ, Bx.ren_mem.2 ⟨(k, q), hm, rfl⟩, hb⟩
    · rintro ⟨k, q, hm, hb⟩
      obtain ⟨p, hp, e⟩ := Bx.ren_mem.1 hm
      cases e
      exact ⟨p.1, p.2, hp, hb⟩
  have hnd := hs.nodup
  have hnd0 := hnd
  rw [Bx.ren_keys] at hnd
  have hs1 : Sat ⟨w, boxBlocks B (fun k => ν (ρ k)), fun k => ν (ρ k)⟩ M (fun k => ν (ρ k)) B w := by
    refine ⟨rfl, rfl, rfl, Nat.zero_le _, Nat.le_refl _, fun _ _ _ => rfl, hs.fro, ?_, ?_, ?_, nodupN_spec hn⟩
    · intro k q hm
      exact Res.ok_rens.1 (hs.res _ _ (Bx.ren_mem.2 ⟨(k, q), hm, rfl⟩))
    · intro k q b hm hb
      have := hs.away _ _ b (Bx.ren_mem.2 ⟨(k, q), hm, rfl⟩) hb
      exact ⟨this.1, .inr ⟨k, q, hm, hb⟩⟩
    · intro k q k' q' b hm hm' hb hb'
      have e := hs.inj _ _ _ _ b (Bx.ren_mem.2 ⟨(k, q), hm, rfl⟩) (Bx.ren_mem.2 ⟨(k', q'), hm', rfl⟩) hb hb'
      have := nodup_inj (f := fun p : Nat × Res => ρ p.1) hnd (k, q) hm (k', q') hm' e
      exact congrArg Prod.fst this
  refine Calls.mono (h.2 M _ w vs hs1 ((T.reps_ren _ _).1 hreps)) ?_
  rintro e w' ⟨v, M', rfl, hext, hr, hs'⟩
  refine ⟨v, M', rfl, ⟨hext.1, fun b o e => (hext.2 b o e).imp id fun h => h.imp id (hbb b).1⟩, ?_, ?_⟩
  · rw [T.rep_ren]; exact hr
  · refine ⟨hs'.os, hs'.tape, hs'.output, Nat.zero_le _, hs'.size, fun b hb hD => hs'.unch b hb fun h => hD ((hbb b).1 h), hs'.fro, ?_, ?_, ?_, ?_⟩
    · intro k q hm
      obtain ⟨p, hp, e⟩ := Bx.ren_mem.1 hm
      cases e
      rw [Res.ok_rens (ρ := ρ) (k := p.1)]
      exact hs'.res p.1 p.2 hp
    · intro k q b hm hb
      obtain ⟨p, hp, e⟩ := Bx.ren_mem.1 hm
      cases e
      have := hs'.away p.1 p.2 b hp hb
      exact ⟨this.1, this.2.imp id (hbb b).1⟩
    · intro k q k' q' b hm hm' hb hb'
      obtain ⟨p, hp, e⟩ := Bx.ren_mem.1 hm
      cases e
      obtain ⟨p', hp', e⟩ := Bx.ren_mem.1 hm'
      cases e
      have := hs'.inj p.1 p.2 p'.1 p'.2 b hp hp' hb hb'
      rw [this]
    · have e : ∀ C : Bx, (Bx.ren ρ C).map (·.1) = (C.map (·.1)).map ρ := fun C => by rw [Bx.ren_keys, List.map_map]; rfl
      rw [e, hk, ← e]
      exact hnd0
def Bx.puts : Bx → Bx → Bx
  | [], B => B
  | p :: B1, B => Bx.puts B1 (Bx.put p.1 p.2 B)
theorem Bx.puts_keys : ∀ (B1 B : Bx), (Bx.puts B1 B).map (·.1) = B.map (·.1)
  | [], _ => rfl
  | p :: B1, B => by rw [Bx.puts, Bx.puts_keys B1, Bx.put_keys]
theorem Bx.mem_puts : ∀ {B1 B : Bx} {x : Nat × Res}, (B.map (·.1)).Nodup → x ∈ Bx.puts B1 B → x ∈ B1 ∨ (x ∈ B ∧ x.1 ∉ B1.map (·.1))
  | [], _, x, _, h => .inr ⟨h, by simp⟩
  | p :: B1, B, x, hn, h => by
    rcases Bx.mem_puts (B1 := B1) (by rw [Bx.put_keys]; exact hn) h with h | ⟨h, h2⟩
    · exact .inl (by simp [h])
    · rcases Bx.mem_put hn h with e | ⟨h3, h4⟩
      · exact .inl (by simp [e])
      · exact .inr ⟨h3, by simp [h4, h2]⟩
def vCallB0 (P : Program) (g : FuncId) (us : List T) (B : Bx) (K : T → Bx → Prop) : Prop :=
  ∃ B1 r B1', PCB P g us B1 r B1' ∧ Bx.subL B1 B ∧ nodupN (B1.map (·.1)) = true ∧ B1'.map (·.1) = B1.map (·.1) ∧ K r (Bx.puts B1' B)
/-- a row of the call's own that is handed over is frozen -/
def vCallB (P : Program) (g : FuncId) (us : List T) (B : Bx) (K : T → Bx → Prop) : Prop := vFr us B fun us B => vCallB0 P g us B K
theorem vCallB_sound {ty : TypeId} {f : Operand} {args : List Operand} {ts : Array TypeId} {env : Env} {B : Bx} {o : Oper} {K : T → Bx → Prop} {g : FuncId} {caps us : List T} (ho : o.op = .call { callee := .value f, args := args.toArray, argTypes := ts })
    (hf : calleeT (ev P env ty f) = some (g, caps)) (hu : evs P env args ts.toList = some us) (h : vCallB P g (us ++ caps) B K) : ∃ u B', OpE P o env B u B' ∧ K u B' := by
  obtain ⟨us1, B0, h, hfr⟩ := vFr_sound h
  obtain ⟨B1, r, B1', hpc, hsubL, hnd, hk, hK⟩ := h
  have hsub := Bx.subL_spec hsubL
  refine ⟨r, _, ?_, hK⟩
  intro κ M0 ν a w he hs0
  obtain ⟨vs, hrun, hreps0⟩ := exec_call ho he hf hu hpc.1 w
  obtain ⟨M, e0, hs, hreps⟩ := hfr κ M0 ν w vs hs0 hreps0
  unfold Oper.wp
  rw [hrun]
  simp only [Oper.upon]
  have hs1 : Sat ⟨w, boxBlocks B1 ν, ν⟩ M ν B1 w :=
    ⟨rfl, rfl, rfl, Nat.zero_le _, Nat.le_refl _, fun _ _ _ => rfl, hs.fro, fun k q hm => hs.res k q (hsub _ hm), fun k q b hm hb => ⟨(hs.away k q b (hsub _ hm) hb).1, .inr ⟨k, q, hm, hb⟩⟩,
      fun k q k' q' b hm hm' hb hb' => hs.inj k q k' q' b (hsub _ hm) (hsub _ hm') hb hb', nodupN_spec hnd⟩
  refine Calls.mono (hpc.2 M ν w vs hs1 hreps) ?_
  rintro e w' ⟨v, M', rfl, hext, hr, hs'⟩
  obtain ⟨h1, h2⟩ := hs.call (B1 := B1) (B1' := B1') (B' := Bx.puts B1' B0) hsub hs' rfl (fun b hb => hb) (fun k q hm => hs'.res k q hm) hext (fun k q b hm hb => (hs'.away k q b hm hb).1)
    (fun x hx => (Bx.mem_puts hs.nodup hx).imp id fun h => ⟨h.1, by rw [← hk]; exact h.2⟩) (fun x hx => by rw [← Bx.puts_keys B1' B0]; exact List.mem_map.2 ⟨x, hx, rfl⟩) (by rw [Bx.puts_keys]; exact hs.nodup)
  exact ⟨v, M', rfl, e0.trans h2, hr, h1⟩
/-- effVC, and calls that give boxes of their own -/
def effVCN (P : Program) (o : Oper) (env : Env) (B : Bx) (K : T → Bx → Prop) : Prop :=
  match o.op with
  | .call { callee := .value f, args := args, argTypes := ts } =>
    match calleeT (ev P env 0 f), evs P env args.toList ts.toList with
    | some (g, caps), some us => bif T.anyPtr (us ++ caps) then (vCall1 P g (us ++ caps) B K ∨ vCallB P g (us ++ caps) B K) else (vCallE P g (us ++ caps) B K ∨ vCallN P (dstN o) g (us ++ caps) env B K ∨ (∃ uh, evsH P env args.toList ts.toList = some uh ∧ vCallX P g (uh ++ caps) env B K))
    | _, _ => False
  | _ => effVC P o env B K
theorem effVCN_sound {o : Oper} {env : Env} {B : Bx} {K : T → Bx → Prop} (h : effVCN P o env B K) :
    ((∃ t, OpP P o env B t ∧ K t B) ∨ (∃ t B', OpE P o env B t B' ∧ K t B') ∨ (∃ t B', OpG P o env B (dstN o) t B' ∧ Env.fresh (dstN o) env = true ∧ K t B')) ∨
      (∃ js t B', OpX P o env B js t B' ∧ (∀ j ∈ js, j < pin) ∧ Env.freshL js env = true ∧ K t B') := by
  unfold effVCN at h
  split at h
  · rename_i f args ts ho
    split at h
    · rename_i g caps us hf hu
      cases hp : T.anyPtr (us ++ caps) with
      | true =>
        rw [hp] at h
        rcases (h : _ ∨ _) with h | h
        · exact .inl (effVC_sound (by unfold effVC; rw [ho]; simp only [hf, hu, hp]; exact h))
        · exact .inl (.inr (.inl (vCallB_sound (args := args.toList) (by rw [ho]) hf hu h)))
      | false =>
        rw [hp] at h
        simp only [cond_false] at h
        rcases h with h | h | h
        · exact .inl (effVC_sound (by unfold effVC; rw [ho]; simp only [hf, hu, hp, cond_false]; exact h))
        · exact .inl (.inr (.inr (vCallN_sound (ty := 0) (args := args.toList) (by rw [ho]) hf hu h)))
        · obtain ⟨uh, huh, h⟩ := h
          exact .inr (vCallX_sound (ty := 0) (args := args.toList) (by rw [ho]) hf huh h)
    · exact h.elim
  · exact .inl (effVC_sound h)
def dstsOk (n : Nat) (l : List Oper) : Bool := l.all fun o => dstOk n o && Nat.blt (dstN o) pin
def seqVC (P : Program) (all : List Oper) : List Oper → Env → Bx → (Env → Bx → Prop) → Prop
  | [], env, B, K => K env B
  | o :: os, env, B, K => guardT all env o (effVCN P o env B fun t B' => seqVC P all os (putE env o.dst t) B' K) (seqVC P all os (putE env o.dst undefT) B K)
theorem guardT_map {all : List Oper} {env : Env} {o : Oper} {X Y X' Y' : Prop} (h : guardT all env o X Y) (hx : X → X') (hy : Y → Y') : guardT all env o X' Y' := by
  unfold guardT at *
  cases hg : o.guard with
  | none => rw [hg] at h; exact hx h
  | some p =>
    obtain ⟨j, want⟩ := p
    rw [hg] at h
    simp only [] at h ⊢
    split at h
    · rename_i b hb
      cases hbw : (b == want) <;> rw [hbw] at h
      · exact hy h
      · exact hx h
    · exact hy h
    · exact h.elim
theorem put_as (env : Env) (B : Bx) (dst : Option Tmp) (t : T) : AS.put ⟨env, B⟩ dst t = ⟨putE env dst t, B⟩ := by
  cases dst <;> rfl
theorem seqVC_sound (all : List Oper) (K : AS → Prop) : ∀ (l : List Oper) (env : Env) (B : Bx), dstsOk n l = true → seqVC P all l env B (fun e b => K ⟨e, b⟩) → seqSem P n all l ⟨env, B⟩ K
  | [], env, B, _, h => h
  | o :: os, env, B, hd, h => by
    simp only [dstsOk, List.all_cons, Bool.and_eq_true] at hd
    obtain ⟨⟨hd1, hd2⟩, hd3⟩ := hd
    refine guardT_map h (fun h => ?_) (fun h => ⟨hd1, by rw [put_as]; exact seqVC_sound all K os _ B hd3 h⟩)
    rcases effVCN_sound h with (⟨t, h1, h2⟩ | ⟨t, B', h1, h2⟩ | ⟨t, B', h1, hf, h2⟩) | ⟨js, t, B', h1, hj, hf, h2⟩
    · exact .pure t h1 hd1 (by rw [put_as]; exact seqVC_sound all K os _ B hd3 h2)
    · exact .eff t B' h1 hd1 (by rw [put_as]; exact seqVC_sound all K os _ B' hd3 h2)
    · exact .gen (dstN o) t B' h1 (Nat.le_of_ble_eq_true hd2) hf hd1 (by rw [put_as]; exact seqVC_sound all K os _ B' hd3 h2)
    · exact .genx js t B' h1 hj hf hd1 (by rw [put_as]; exact seqVC_sound all K os _ B' hd3 h2)
theorem AWP.seqR {id : Nat} {l : List Oper} {env : Env} {B : Bx} (hd : dstsOk n l = true) (h : ∀ K : Env → Bx → Prop, (∀ e b, Q .normal ⟨e, b⟩ → K e b) → seqVC P l l env B K) : AWP P n (.region id l.toArray false) ⟨env, B⟩ Q :=
  AWP.region_seq fun K hK => seqVC_sound l K l env B hd (h _ fun e b q => hK _ q)
def parVC (P : Program) (all : List Oper) (B : Bx) : List Oper → Env → (Env → Prop) → Prop
  | [], env, K => K env
  | o :: os, env, K => guardT all env o (pureVC P o env B fun t => parVC P all B os (putE env o.dst t) K) (parVC P all B os (putE env o.dst undefT) K)
theorem parVC_sound (all : List Oper) (B : Bx) (K : Env → Prop) : ∀ (l : List Oper) (env : Env), dstsOk n l = true → parVC P all B l env K → parPure P n all B l env K
  | [], env, _, h => h
  | o :: os, env, hd, h => by
    simp only [dstsOk, List.all_cons, Bool.and_eq_true] at hd
    obtain ⟨⟨hd1, hd2⟩, hd3⟩ := hd
    refine guardT_map h (fun h => ?_) (fun h => ⟨hd1, parVC_sound all B K os _ hd3 h⟩)
    obtain ⟨t, h1, h2⟩ := pureVC_sound h
    exact ⟨t, h1, hd1, parVC_sound all B K os _ hd3 h2⟩
/-- the order of a region is open, and it serves to walk in the order of the text -/
def lexOk (n : Nat) (l : List Oper) : Bool := Region.lexB .any l.toArray && dstsOk n l
theorem AWP.parR {id : Nat} {l : List Oper} {env : Env} {B : Bx} (hm : P.follows .mixedOrders = true) (hl : lexOk n l = true) (h : ∀ K : Env → Prop, (∀ e, Q .normal ⟨e, B⟩ → K e) → parVC P l B l env K) : AWP P n (.region id l.toArray true) ⟨env, B⟩ Q := by
  simp only [lexOk, Bool.and_eq_true] at hl
  exact AWP.region_pure hm hl.1 fun K hK => parVC_sound l B _ l env hl.2 (h _ fun e q => hK _ q)
/-- the same, with calls that turn boxes of their own: fixB are those that nobody turns -/
def effCall (P : Program) (o : Oper) (env : Env) : Option (FuncId × List T) :=
  match o.op with
  | .call { callee := .value f, args := args, argTypes := ts } =>
    match calleeT (ev P env 0 f), evs P env args.toList ts.toList with
    | some (g, caps), some us => bif T.anyPtr (us ++ caps) then some (g, us ++ caps) else none
    | _, _ => none
  | _ => none
def notIn (k : Nat) : Bx → Bool
  | [] => true
  | p :: B => (p.1 != k) && notIn k B
theorem notIn_spec {k : Nat} : ∀ {B : Bx} {x : Nat × Res}, notIn k B = true → x ∈ B → x.1 ≠ k
  | p :: B, x, h, hm => by
    simp only [notIn, Bool.and_eq_true, bne_iff_ne] at h
    rcases List.mem_cons.1 hm with rfl | hm
    · exact h.1
    · exact notIn_spec h.2 hm
theorem mem_put_other {k : Nat} {r : Res} : ∀ {B : Bx} {x : Nat × Res}, x ∈ B → x.1 ≠ k → x ∈ Bx.put k r B
  | p :: B, x, hm, hk => by
    unfold Bx.put
    cases hp : (p.1 == k) with
    | true =>
      rcases List.mem_cons.1 hm with rfl | hm
      · exact absurd (by simpa using hp) hk
      · exact List.mem_cons_of_mem _ hm
    | false =>
      rcases List.mem_cons.1 hm with rfl | hm
      · simp
      · exact List.mem_cons_of_mem _ (mem_put_other hm hk)
def ptrName (x : Option T) : Option Nat :=
  match x with
  | some (.one (.ptr k _)) => some k
  | some (.one (.rp k _ _ _)) => some k
  | _ => none
theorem vStore_put {t : TypeId} {x y : Option T} {B : Bx} {K : Bx → Prop} (h : vStore P t x y B K) : vStore P t x y B (fun B' => (∃ k r, ptrName x = some k ∧ B' = Bx.put k r B) ∧ K B') := by
  unfold vStore at *
  split at h
  · split at h
    · rename_i part hp
      simp only []
      split at h
      · split at h
        · split at h
          · split at h
            · exact ⟨h.1, ⟨_, _, rfl, rfl⟩, h.2⟩
            · exact h.elim
          · exact h.elim
        · exact h.elim
      · split at h
        · obtain ⟨h1, r, h2, h⟩ := h
          refine ⟨h1, r, h2, ?_⟩
          split at h
          · split at h
            · split at h
              · exact ⟨h.1, ⟨_, _, rfl, rfl⟩, h.2⟩
              · exact h.elim
            · exact h.elim
          · exact h.elim
        · exact h.elim
      · exact h.elim
    · exact h.elim
  · exact h.elim
def parEVC (P : Program) (all : List Oper) (fixB : Bx) : List Oper → Env → Bx → (Env → Bx → Prop) → Prop
  | [], env, B, K => K env B
  | o :: os, env, B, K => guardT all env o (match o.op with
      | .store t x y => match ptrName (ev P env 0 x) with
        | some k => notIn k fixB = true ∧ vStore P t (ev P env 0 x) (ev P env t y) B (fun B' => parEVC P all fixB os (putE env o.dst undefT) B' K)
        | none => False
      | _ => match effCall P o env with
        | some (g, us) => ∃ k res r res', PCBk P g us k res r res' ∧ B.lookup k = some res ∧ notIn k fixB = true ∧ parEVC P all fixB os (putE env o.dst r) (Bx.put k res' B) K
        | none => pureVC P o env fixB fun t => parEVC P all fixB os (putE env o.dst t) B K) (parEVC P all fixB os (putE env o.dst undefT) B K)
theorem parEVC_sound (all : List Oper) (fixB : Bx) (K : Env → Bx → Prop) : ∀ (l : List Oper) (env : Env) (B : Bx), (∀ x ∈ fixB, x ∈ B) → dstsOk n l = true → parEVC P all fixB l env B K → parSem P n all fixB l env B K
  | [], env, B, _, _, h => h
  | o :: os, env, B, hfix, hd, h => by
    simp only [dstsOk, List.all_cons, Bool.and_eq_true] at hd
    obtain ⟨⟨hd1, hd2⟩, hd3⟩ := hd
    refine guardT_map h (fun h => ?_) (fun h => ⟨hd1, parEVC_sound all fixB K os _ B hfix hd3 h⟩)
    split at h
    · rename_i t x y ho
      split at h
      · rename_i k hk
        obtain ⟨hn, h⟩ := h
        obtain ⟨B', h1, ⟨k', r, hk', rfl⟩, h2⟩ := vStore_sound ho (vStore_put h)
        rw [hk] at hk'; cases hk'
        have hfix' : ∀ x ∈ fixB, x ∈ Bx.put k r B := fun x hx => mem_put_other (hfix x hx) (notIn_spec hn hx)
        exact .eff _ _ (by unfold mayEff; rw [ho]) hfix' h1 hd1 (parEVC_sound all fixB K os _ _ hfix' hd3 h2)
      · exact h.elim
    · split at h
      · rename_i g us he
        obtain ⟨k, res, r, res', hpc, hb, hn, hK⟩ := h
        unfold effCall at he
        split at he
        · rename_i f args ts ho
          split at he
          · rename_i g' caps us' hf hu
            cases hp : T.anyPtr (us' ++ caps) with
            | false => rw [hp] at he; cases he
            | true =>
              rw [hp] at he
              simp only [cond_true, Option.some.injEq, Prod.mk.injEq] at he
              obtain ⟨rfl, rfl⟩ := he
              obtain ⟨u, B', h1, _, h2⟩ := vCall1_sound (args := args.toList) (K := fun u B' => u = r ∧ B' = Bx.put k res' B) (by rw [ho]) hf hu ⟨k, res, r, res', hpc, hb, rfl, rfl⟩
              obtain ⟨rfl, rfl⟩ := h2
              have hfix' : ∀ x ∈ fixB, x ∈ Bx.put k res' B := fun x hx => mem_put_other (hfix x hx) (notIn_spec hn hx)
              exact .eff u _ (by unfold mayEff; rw [ho]) hfix' h1 hd1 (parEVC_sound all fixB K os _ _ hfix' hd3 hK)
          · cases he
        · cases he
      · obtain ⟨t, h1, h2⟩ := pureVC_sound h
        exact .pure t h1 hd1 (parEVC_sound all fixB K os _ B hfix hd3 h2)
def lexOkE (n : Nat) (l : List Oper) : Bool := Region.lexB .any l.toArray && dstsOk n l && chainFrom l none 0 l
theorem AWP.parE {id : Nat} {l : List Oper} {env : Env} {B : Bx} (fixB : Bx) (hm : P.follows .mixedOrders = true) (hl : lexOkE n l = true) (hfix : ∀ x ∈ fixB, x ∈ B)
    (h : ∀ K : Env → Bx → Prop, (∀ e b, Q .normal ⟨e, b⟩ → K e b) → parEVC P l fixB l env B K) : AWP P n (.region id l.toArray true) ⟨env, B⟩ Q := by
  simp only [lexOkE, Bool.and_eq_true] at hl
  exact AWP.region_par fixB hm hl.1.1 hl.2 hfix fun K hK => parEVC_sound l fixB _ l env B hfix hl.1.2 (h _ fun e b q => hK _ q)
theorem Bx.drop_sub {k : Nat} : ∀ {B : Bx} {x : Nat × Res}, x ∈ Bx.drop k B → x ∈ B
  | p :: B, x, h => by
    unfold Bx.drop at h
    cases hp : (p.1 == k) with
    | true => rw [hp] at h; exact List.mem_cons_of_mem _ h
    | false =>
      rw [hp] at h
      rcases List.mem_cons.1 h with h | h
      · subst h; simp
      · exact List.mem_cons_of_mem _ (Bx.drop_sub h)
/-- .. where only the box k is turned -/
theorem AWP.parE1 {id : Nat} {l : List Oper} {env : Env} {B : Bx} (k : Nat) (hm : P.follows .mixedOrders = true) (hl : lexOkE n l = true)
    (h : ∀ K : Env → Bx → Prop, (∀ e b, Q .normal ⟨e, b⟩ → K e b) → parEVC P l (Bx.drop k B) l env B K) : AWP P n (.region id l.toArray true) ⟨env, B⟩ Q :=
  AWP.parE (Bx.drop k B) hm hl (fun x hx => Bx.drop_sub hx) h
def retTs (P : Program) (env : Env) (B : Bx) : List ResultVar → (List T → Prop) → Prop
  | [], K => K []
  | .tmp t :: rs, K => match env.lookup t with
    | some u => retTs P env B rs fun us => K (u :: us)
    | none => False
  | .cell a t :: rs, K => match env.lookup a with
    | some x => vLoad P t B (some x) fun u => retTs P env B rs fun us => K (u :: us)
    | none => False
/-- what the results come to, nil slices read as empty ones -/
def retT (us : List T) : T :=
  match us with
  | [u] => u.soft
  | us => .tup (T.softs us)
def envOf : Nat → List T → Env
  | _, [] => []
  | i, t :: ts => (i, t) :: envOf (i + 1) ts
def RetQ (P : Program) (rs : List ResultVar) (r : T) (B' : Bx) : Exit → AS → Prop
  | .ret, σ => retTs P σ.env σ.B rs fun us => retT us = r ∧ ∀ x ∈ B', x ∈ σ.B
  | .normal, σ => retTs P σ.env σ.B rs fun us => retT us = r ∧ ∀ x ∈ B', x ∈ σ.B
  | _, _ => False
def resOne (tmps : Array Value) : ResultVar → Sem Value
  | .tmp t => pure (tmps.getD t undef)
  | .cell a t => do loadVar t (← asAddr (tmps.getD a undef))
theorem results_eq (fn : Func) (tmps : Array Value) : results fn tmps = (do
    let vs ← fn.results.mapM (resOne tmps)
    pure (if h : vs.size = 1 then vs[0] else .tuple vs)) := rfl
theorem retTs_run {κ : Kap} {M : Mem} {ν : Nu} {w : World} {tmps : Array Value} {env : Env} {B : Bx} (he : EnvOk M ν tmps env) (hs : Sat κ M ν B w) :
    ∀ (rs : List ResultVar) (K : List T → Prop), retTs P env B rs K → ∃ us vs, K us ∧ T.reps M ν us vs ∧ (rs.mapM (resOne tmps)).run P w = .ok vs w
  | [], K, h => ⟨[], [], h, by simp only [T.reps], by simp⟩
  | .tmp t :: rs, K, h => by
    simp only [retTs] at h
    split at h
    · rename_i u hu
      obtain ⟨us, vs, hK, hr, hm⟩ := retTs_run he hs rs _ h
      refine ⟨u :: us, tmps.getD t undef :: vs, hK, ?_, ?_⟩
      · simp only [T.reps]; exact ⟨_, vs, rfl, he t u hu, hr⟩
      · simp only [List.mapM_cons, resOne, Sem.run_bind, Sem.run_pure, Result.andThen_ok, hm]
    · exact h.elim
  | .cell a t :: rs, K, h => by
    simp only [retTs] at h
    split at h
    · rename_i x hx
      obtain ⟨u, h, hu⟩ := vLoad_val h
      obtain ⟨us, vs, hK, hr, hm⟩ := retTs_run he hs rs _ h
      obtain ⟨ad, r, e, hl, hrep⟩ := hu κ M ν w B _ (fun _ h => h) hs (he a x hx)
      refine ⟨u :: us, r :: vs, hK, ?_, ?_⟩
      · simp only [T.reps]; exact ⟨_, vs, rfl, hrep, hr⟩
      · simp only [List.mapM_cons, resOne, Sem.run_bind, e, asAddr, Sem.run_pure, Result.andThen_ok, hl, hm]
    · exact h.elim
theorem envOf_ok {M : Mem} {ν : Nu} : ∀ (ts : List T) (vs : List Value) (i : Nat) (pre : List Value) (rest : Array Value), pre.length = i → T.reps M ν ts vs → EnvOk M ν ((pre ++ vs).toArray ++ rest) (envOf i ts)
  | [], vs, i, pre, rest, hp, h => EnvOk.nil
  | t :: ts, vs, i, pre, rest, hp, h => by
    simp only [T.reps] at h
    obtain ⟨v, vs', e, h1, h2⟩ := h
    subst e
    have ih := envOf_ok ts vs' (i + 1) (pre ++ [v]) rest (by simp [hp]) h2
    intro d u hu
    simp only [envOf, List.lookup_cons] at hu
    by_cases hd : d = i
    · subst hd
      simp at hu
      subst hu
      have : ((pre ++ v :: vs').toArray ++ rest).getD d undef = v := by
        rw [Array.getD_eq_getD_getElem?, Array.getElem?_append_left (by simp; omega)]
        simp [← hp]
      rw [this]; exact h1
    · have : (d == i) = false := by simpa using hd
      rw [this] at hu
      have := ih d u hu
      simpa using this
theorem T.reps_len {M : Mem} {ν : Nu} : ∀ {ts : List T} {vs : List Value}, T.reps M ν ts vs → vs.length = ts.length
  | [], vs, h => by simp only [T.reps] at h; simp [h]
  | t :: ts, vs, h => by
    simp only [T.reps] at h
    obtain ⟨v, vs', e, _, h2⟩ := h
    subst e
    simp [T.reps_len h2]
mutual
def Cell.pins : Cell → Bool
  | .dat _ => true
  | .ptr j _ => Nat.ble pin j
  | .own j _ => Nat.ble pin j
  | .rp j _ _ _ => Nat.ble pin j
  | .arr j _ => Nat.ble pin j
  | .ref _ => true
  | .mp j => Nat.ble pin j
  | .clo _ caps => Cell.allPins caps
def Cell.allPins : List Cell → Bool
  | [] => true
  | c :: cs => Cell.pins c && Cell.allPins cs
end
mutual
def T.pins : T → Bool
  | .one c => c.pins
  | .st _ => true
  | .agg cs => Cell.allPins cs
  | .tup ts => T.allPins ts
  | .un => true
def T.allPins : List T → Bool
  | [] => true
  | t :: ts => T.pins t && T.allPins ts
end
def bxPins : Bx → Bool
  | [] => true
  | p :: B => (match p.2 with | .cells cs => Cell.allPins cs | .row _ _ => true | .mp _ _ => true) && bxPins B
mutual
theorem Cell.rep_agree {M : Mem} {ν ν' : Nu} (hν : ∀ j, pin ≤ j → ν' j = ν j) : ∀ (c : Cell) (v : Value), c.pins = true → c.rep M ν' v → c.rep M ν v
  | .dat c, v, _, h => by simpa only [Cell.rep] using h
  | .ptr j off, v, hf, h => by simp only [Cell.pins] at hf; simp only [Cell.rep] at h ⊢; rw [← hν j (Nat.le_of_ble_eq_true hf)]; exact h
  | .own j m, v, hf, h => by simp only [Cell.pins] at hf; simp only [Cell.rep] at h ⊢; rw [← hν j (Nat.le_of_ble_eq_true hf)]; exact h
  | .rp j sz i f, v, hf, h => by simp only [Cell.pins] at hf; simp only [Cell.rep] at h ⊢; rw [← hν j (Nat.le_of_ble_eq_true hf)]; exact h
  | .arr j n, v, hf, h => by simp only [Cell.pins] at hf; simp only [Cell.rep] at h ⊢; rw [← hν j (Nat.le_of_ble_eq_true hf)]; exact h
  | .ref r, v, _, h => by simpa only [Cell.rep] using h
  | .mp j, v, hf, h => by simp only [Cell.pins] at hf; simp only [Cell.rep] at h ⊢; rw [← hν j (Nat.le_of_ble_eq_true hf)]; exact h
  | .clo f caps, v, hf, h => by
    simp only [Cell.pins] at hf
    simp only [Cell.rep] at h ⊢
    obtain ⟨vs, e, h⟩ := h
    exact ⟨vs, e, Cell.reps_agree hν caps vs hf h⟩
theorem Cell.reps_agree {M : Mem} {ν ν' : Nu} (hν : ∀ j, pin ≤ j → ν' j = ν j) : ∀ (cs : List Cell) (vs : List Value), Cell.allPins cs = true → Cell.reps M ν' cs vs → Cell.reps M ν cs vs
  | [], vs, _, h => by simpa only [Cell.reps] using h
  | c :: cs, vs, hf, h => by
    simp only [Cell.allPins, Bool.and_eq_true] at hf
    simp only [Cell.reps] at h ⊢
    obtain ⟨v, vs', e, h1, h2⟩ := h
    exact ⟨v, vs', e, Cell.rep_agree hν c v hf.1 h1, Cell.reps_agree hν cs vs' hf.2 h2⟩
end
mutual
theorem T.rep_agree {M : Mem} {ν ν' : Nu} (hν : ∀ j, pin ≤ j → ν' j = ν j) : ∀ (c : T) (v : Value), c.pins = true → c.rep M ν' v → c.rep M ν v
  | .one c, v, hf, h => by simp only [T.rep] at h ⊢; exact Cell.rep_agree hν c v (by simpa only [T.pins] using hf) h
  | .st r, v, _, h => by simpa only [T.rep] using h
  | .un, v, _, h => by simpa only [T.rep] using h
  | .agg cs, v, hf, h => by
    simp only [T.rep] at h ⊢
    obtain ⟨a, e, h⟩ := h
    exact ⟨a, e, Cell.reps_agree hν cs _ (by simpa only [T.pins] using hf) h⟩
  | .tup ts, v, hf, h => by
    simp only [T.rep] at h ⊢
    obtain ⟨a, e, h⟩ := h
    exact ⟨a, e, T.reps_agree hν ts _ (by simpa only [T.pins] using hf) h⟩
theorem T.reps_agree {M : Mem} {ν ν' : Nu} (hν : ∀ j, pin ≤ j → ν' j = ν j) : ∀ (cs : List T) (vs : List Value), T.allPins cs = true → T.reps M ν' cs vs → T.reps M ν cs vs
  | [], vs, _, h => by simpa only [T.reps] using h
  | c :: cs, vs, hf, h => by
    simp only [T.allPins, Bool.and_eq_true] at hf
    simp only [T.reps] at h ⊢
    obtain ⟨v, vs', e, h1, h2⟩ := h
    exact ⟨v, vs', e, T.rep_agree hν c v hf.1 h1, T.reps_agree hν cs vs' hf.2 h2⟩
end
theorem bxPins_spec : ∀ {B : Bx} {k : Nat} {r : Res}, bxPins B = true → (k, r) ∈ B → ∀ cs, r = .cells cs → Cell.allPins cs = true
  | p :: B, k, r, h, hm, cs, e => by
    simp only [bxPins, Bool.and_eq_true] at h
    rcases List.mem_cons.1 hm with rfl | hm
    · subst e; exact h.1
    · exact bxPins_spec h.2 hm cs e
theorem Res.ok_agree {M : Mem} {ν ν' : Nu} {w : World} {j : Nat} (hν : ∀ i, pin ≤ i → ν' i = ν i) (hj : pin ≤ j) : ∀ {r : Res}, (∀ cs, r = .cells cs → Cell.allPins cs = true) → r.ok M ν' w j → r.ok M ν w j
  | .cells cs, hf, h => by
    simp only [Res.ok] at h ⊢
    rw [hν j hj] at h
    obtain ⟨b, c, et, e1, e2, e3⟩ := h
    exact ⟨b, c, et, e1, e2, Cell.reps_agree hν cs _ (hf cs rfl) e3⟩
  | .row sz rows, hf, h => by
    simp only [Res.ok] at h ⊢
    rw [hν j hj] at h; exact h
  | .mp ag es, hf, h => by
    simp only [Res.ok] at h ⊢
    rw [hν j hj] at h; exact h
def pinsOnly (B : Bx) : Bool := B.all fun p => Nat.ble pin p.1
/-- THE ENTRY: a contract by a walk of the body -/
theorem PCB.of_body {f : FuncId} {fn : Func} {c : Code} {args : List T} {B B' : Bx} {r : T} (hf : P.funcs[f]? = some fn) (hb : fn.body = some c) (hn : (fn.name == "runtime.NumGoroutine") = false) (hnt : fn.ntmps = n) {rs : List ResultVar} (hres : fn.results = rs.toArray)
    (hlen : Nat.ble args.length n = true) (hpin : pinsOnly B = true) (hk : B'.map (·.1) = B.map (·.1)) (h : AWP P n c ⟨envOf 0 args, B⟩ (RetQ P rs r B')) (hpr : r.pins = true) (hpB : bxPins B' = true) : PCB P f args B r B' := by
  refine ⟨⟨fn, hf, hn, by rw [hb]; rfl⟩, fun M ν w vs hs hreps => ?_⟩
  have hvl := T.reps_len hreps
  have hle : args.length ≤ n := Nat.le_of_ble_eq_true hlen
  refine calls_of_wp hf hb ?_
  have hst : St ⟨w, boxBlocks B ν, ν⟩ M n ⟨envOf 0 args, B⟩ { tmps := vs.toArray ++ Array.replicate (fn.ntmps - vs.toArray.size) undef, defers := [] } w := by
    refine ⟨M, ν, Mem.ext.refl _ M, ?_, rfl, ?_, hs, fun _ _ => rfl⟩
    · simp [hnt, hvl]; omega
    · have := envOf_ok (M := M) (ν := ν) args vs 0 [] (Array.replicate (fn.ntmps - vs.toArray.size) undef) rfl hreps
      simpa using this
  refine wp_mono (h _ M _ w hst) ?_
  have fin : ∀ (a' : Act) (w' : World) (σ' : AS), St ⟨w, boxBlocks B ν, ν⟩ M n σ' a' w' → retTs P σ'.env σ'.B rs (fun us => retT us = r ∧ ∀ x ∈ B', x ∈ σ'.B) →
      a'.defers = [] ∧ ∃ v, (results fn a'.tmps).run P w' = .ok v w' ∧ ∃ v' M', Ending.returned v = Ending.returned v' ∧ Mem.ext ⟨w, boxBlocks B ν, ν⟩ M M' ∧ r.rep M' ν v' ∧ Sat ⟨w, boxBlocks B ν, ν⟩ M' ν B' w' := by
    intro a' w' σ' hs' hr
    obtain ⟨M', ν', h1, h2, h3, h4, h5, h6⟩ := hs'
    obtain ⟨us, rvs, ⟨hret, hsub⟩, hrr, hrun⟩ := retTs_run h4 h5 rs _ hr
    have hpins : ∀ p ∈ B, pin ≤ p.1 := fun p hp => Nat.le_of_ble_eq_true (List.all_eq_true.1 hpin p hp)
    have hpins' : ∀ k q, (k, q) ∈ B' → pin ≤ k := by
      intro k q hm
      have : k ∈ B'.map (·.1) := List.mem_map.2 ⟨(k, q), hm, rfl⟩
      rw [hk] at this
      obtain ⟨p, hp, e⟩ := List.mem_map.1 this
      rw [← e]; exact hpins p hp
    -- the boxes read by the first naming
    have hsat' : Sat ⟨w, boxBlocks B ν, ν⟩ M' ν' B' w' := h5.drop hsub (by rw [hk]; exact hs.nodup)
    have hagree : ∀ k, pin ≤ k → ν' k = ν k := fun k hk => h6 k hk
    refine ⟨h3, (if h : rvs.toArray.size = 1 then rvs.toArray[0] else .tuple rvs.toArray), ?_, _, M', rfl, h1, ?_, ?_⟩
    · rw [results_eq, hres]
      have hm2 : (rs.toArray.mapM (resOne a'.tmps)).run P w' = .ok rvs.toArray w' := by
        rw [List.mapM_toArray]
        simp only [Sem.run_map, hrun, Result.andThen_ok]
      simp only [Sem.run_bind, hm2, Result.andThen_ok, Sem.run_pure]
    · have hlen2 := T.reps_len hrr
      have hr' : r.rep M' ν' (if h : rvs.toArray.size = 1 then rvs.toArray[0] else .tuple rvs.toArray) := by
        subst hret
        unfold retT
        split
        · rename_i u
          simp only [T.reps] at hrr
          obtain ⟨v, vs', e, hv, e2⟩ := hrr
          subst e2; subst e
          rw [dif_pos (by simp)]
          simpa using T.rep_soft hv
        · rename_i us' hne
          rw [dif_neg]
          · simp only [T.rep]
            exact ⟨rvs, rfl, T.reps_soft hrr⟩
          · intro h1
            simp only [List.size_toArray] at h1
            match us, hne, hlen2 with
            | [u], hne, _ => exact hne u rfl
            | [], _, hl => simp at hl; rw [hl] at h1; simp at h1
            | _ :: _ :: _, _, hl => simp at hl; omega
      exact T.rep_agree hagree r _ hpr hr'
    · refine ⟨hsat'.os, hsat'.tape, hsat'.output, Nat.zero_le _, hsat'.size, hsat'.unch, hsat'.fro, ?_, ?_, ?_, hsat'.nodup⟩
      · intro k q hm
        exact Res.ok_agree hagree (hpins' k q hm) (bxPins_spec hpB hm) (hsat'.res k q hm)
      · intro k q b hm hb
        rw [← hagree k (hpins' k q hm)] at hb
        exact hsat'.away k q b hm hb
      · intro k q k' q' b hm hm' hb hb'
        rw [← hagree k (hpins' k q hm)] at hb
        rw [← hagree k' (hpins' k' q' hm')] at hb'
        exact hsat'.inj k q k' q' b hm hm' hb hb'
  rintro e a' w' ⟨σ', hs', hq⟩
  cases e with
  | ret => exact fin a' w' σ' hs' hq
  | normal => exact fin a' w' σ' hs' hq
  | exit id => exact hq.elim
  | goto l => exact hq.elim
  | panic c => exact hq.elim
  | outgrown => exact hq.elim
theorem PCN.of_body {f : FuncId} {fn : Func} {c : Code} {args : List T} {r : T} {res : Res} (k : Nat) (hf : P.funcs[f]? = some fn) (hb : fn.body = some c) (hn : (fn.name == "runtime.NumGoroutine") = false) (hnt : fn.ntmps = n) {rs : List ResultVar} (hres : fn.results = rs.toArray)
    (hlen : Nat.ble args.length n = true) (hk : Nat.blt k pin = true) (h : AWP P n c ⟨envOf 0 args, []⟩ (RetQ P rs (r.ren fun _ => k) [(k, res.ren fun _ => k)])) : PCN P f args r res := by
  refine ⟨⟨fn, hf, hn, by rw [hb]; rfl⟩, fun M ν w vs hs hreps => ?_⟩
  have hvl := T.reps_len hreps
  have hle : args.length ≤ n := Nat.le_of_ble_eq_true hlen
  refine calls_of_wp hf hb ?_
  have hst : St ⟨w, boxBlocks [] ν, ν⟩ M n ⟨envOf 0 args, []⟩ { tmps := vs.toArray ++ Array.replicate (fn.ntmps - vs.toArray.size) undef, defers := [] } w := by
    refine ⟨M, ν, Mem.ext.refl _ M, ?_, rfl, ?_, hs, fun _ _ => rfl⟩
    · simp [hnt, hvl]; omega
    · have := envOf_ok (M := M) (ν := ν) args vs 0 [] (Array.replicate (fn.ntmps - vs.toArray.size) undef) rfl hreps
      simpa using this
  refine wp_mono (h _ M _ w hst) ?_
  have fin : ∀ (a' : Act) (w' : World) (σ' : AS), St ⟨w, boxBlocks [] ν, ν⟩ M n σ' a' w' → retTs P σ'.env σ'.B rs (fun us => retT us = (r.ren fun _ => k) ∧ ∀ x ∈ [(k, res.ren fun _ => k)], x ∈ σ'.B) →
      a'.defers = [] ∧ ∃ v, (results fn a'.tmps).run P w' = .ok v w' ∧ ∃ v' M' nm, Ending.returned v = Ending.returned v' ∧ Mem.ext ⟨w, boxBlocks [] ν, ν⟩ M M' ∧ r.rep M' (fun _ => nm) v' ∧ Sat ⟨w, boxBlocks [] ν, ν⟩ M' (fun _ => nm) [(0, res)] w' := by
    intro a' w' σ' hs' hr
    obtain ⟨M', ν', h1, h2, h3, h4, h5, h6⟩ := hs'
    obtain ⟨us, rvs, ⟨hret, hsub⟩, hrr, hrun⟩ := retTs_run h4 h5 rs _ hr
    have hmem := hsub (k, res.ren fun _ => k) (by simp)
    refine ⟨h3, (if h : rvs.toArray.size = 1 then rvs.toArray[0] else .tuple rvs.toArray), ?_, _, M', ν' k, rfl, h1, ?_, ?_⟩
    · rw [results_eq, hres]
      have hm2 : (rs.toArray.mapM (resOne a'.tmps)).run P w' = .ok rvs.toArray w' := by
        rw [List.mapM_toArray]
        simp only [Sem.run_map, hrun, Result.andThen_ok]
      simp only [Sem.run_bind, hm2, Result.andThen_ok, Sem.run_pure]
    · have hlen2 := T.reps_len hrr
      have hr' : (r.ren fun _ => k).rep M' ν' (if h : rvs.toArray.size = 1 then rvs.toArray[0] else .tuple rvs.toArray) := by
        rw [← hret]
        unfold retT
        split
        · rename_i u
          simp only [T.reps] at hrr
          obtain ⟨v, vs', e, hv, e2⟩ := hrr
          subst e2; subst e
          rw [dif_pos (by simp)]
          simpa using T.rep_soft hv
        · rename_i us' hne
          rw [dif_neg]
          · simp only [T.rep]
            exact ⟨rvs, rfl, T.reps_soft hrr⟩
          · intro h1
            simp only [List.size_toArray] at h1
            match us, hne, hlen2 with
            | [u], hne, _ => exact hne u rfl
            | [], _, hl => simp at hl; rw [hl] at h1; simp at h1
            | _ :: _ :: _, _, hl => simp at hl; omega
      rw [T.rep_ren] at hr'
      exact hr'
    · refine ⟨h5.os, h5.tape, h5.output, Nat.zero_le _, h5.size, h5.unch, h5.fro, ?_, ?_, ?_, by simp⟩
      · intro j q hm
        simp only [List.mem_singleton] at hm
        cases hm
        exact (Res.ok_ren (j := 0)).1 (h5.res k _ hmem)
      · intro j q b hm hb
        simp only [List.mem_singleton] at hm
        cases hm
        obtain ⟨e1, e2⟩ := h5.away k _ b hmem hb
        exact ⟨e1, e2⟩
      · intro j q j' q' b hm hm' _ _
        simp only [List.mem_singleton] at hm hm'
        cases hm; cases hm'; rfl
  rintro e a' w' ⟨σ', hs', hq⟩
  cases e with
  | ret => exact fin a' w' σ' hs' hq
  | normal => exact fin a' w' σ' hs' hq
  | exit id => exact hq.elim
  | goto l => exact hq.elim
  | panic c => exact hq.elim
  | outgrown => exact hq.elim
theorem PCX.of_body {f : FuncId} {fn : Func} {c : Code} {args : List T} {B B' : Bx} {r : T} (hf : P.funcs[f]? = some fn) (hb : fn.body = some c) (hn : (fn.name == "runtime.NumGoroutine") = false) (hnt : fn.ntmps = n) {rs : List ResultVar} (hres : fn.results = rs.toArray)
    (hlen : Nat.ble args.length n = true) (hnd : nodupN (B'.map (·.1)) = true) (h : AWP P n c ⟨envOf 0 args, B⟩ (RetQ P rs r B')) : PCX P f args B r B' := by
  refine ⟨⟨fn, hf, hn, by rw [hb]; rfl⟩, fun M ν w vs hs hreps => ?_⟩
  have hvl := T.reps_len hreps
  have hle : args.length ≤ n := Nat.le_of_ble_eq_true hlen
  refine calls_of_wp hf hb ?_
  have hst : St ⟨w, boxBlocks B ν, ν⟩ M n ⟨envOf 0 args, B⟩ { tmps := vs.toArray ++ Array.replicate (fn.ntmps - vs.toArray.size) undef, defers := [] } w := by
    refine ⟨M, ν, Mem.ext.refl _ M, ?_, rfl, ?_, hs, fun _ _ => rfl⟩
    · simp [hnt, hvl]; omega
    · have := envOf_ok (M := M) (ν := ν) args vs 0 [] (Array.replicate (fn.ntmps - vs.toArray.size) undef) rfl hreps
      simpa using this
  refine wp_mono (h _ M _ w hst) ?_
  have fin : ∀ (a' : Act) (w' : World) (σ' : AS), St ⟨w, boxBlocks B ν, ν⟩ M n σ' a' w' → retTs P σ'.env σ'.B rs (fun us => retT us = r ∧ ∀ x ∈ B', x ∈ σ'.B) →
      a'.defers = [] ∧ ∃ v, (results fn a'.tmps).run P w' = .ok v w' ∧ ∃ v' M' ν', Ending.returned v = Ending.returned v' ∧ Mem.ext ⟨w, boxBlocks B ν, ν⟩ M M' ∧ r.rep M' ν' v' ∧ Sat ⟨w, boxBlocks B ν, ν⟩ M' ν' B' w' := by
    intro a' w' σ' hs' hr
    obtain ⟨M', ν', h1, h2, h3, h4, h5, h6⟩ := hs'
    obtain ⟨us, rvs, ⟨hret, hsub⟩, hrr, hrun⟩ := retTs_run h4 h5 rs _ hr
    refine ⟨h3, (if h : rvs.toArray.size = 1 then rvs.toArray[0] else .tuple rvs.toArray), ?_, _, M', ν', rfl, h1, ?_, h5.drop hsub (nodupN_spec hnd)⟩
    · rw [results_eq, hres]
      have hm2 : (rs.toArray.mapM (resOne a'.tmps)).run P w' = .ok rvs.toArray w' := by
        rw [List.mapM_toArray]
        simp only [Sem.run_map, hrun, Result.andThen_ok]
      simp only [Sem.run_bind, hm2, Result.andThen_ok, Sem.run_pure]
    · have hlen2 := T.reps_len hrr
      rw [← hret]
      unfold retT
      split
      · rename_i u
        simp only [T.reps] at hrr
        obtain ⟨v, vs', e, hv, e2⟩ := hrr
        subst e2; subst e
        rw [dif_pos (by simp)]
        simpa using T.rep_soft hv
      · rename_i us' hne
        rw [dif_neg]
        · simp only [T.rep]
          exact ⟨rvs, rfl, T.reps_soft hrr⟩
        · intro h1
          simp only [List.size_toArray] at h1
          match us, hne, hlen2 with
          | [u], hne, _ => exact hne u rfl
          | [], _, hl => simp at hl; rw [hl] at h1; simp at h1
          | _ :: _ :: _, _, hl => simp at hl; omega
  rintro e a' w' ⟨σ', hs', hq⟩
  cases e with
  | ret => exact fin a' w' σ' hs' hq
  | normal => exact fin a' w' σ' hs' hq
  | exit id => exact hq.elim
  | goto l => exact hq.elim
  | panic c => exact hq.elim
  | outgrown => exact hq.elim
end Go.Sx
set_option linter.unusedVariables false
namespace Go.Sx
variable {P : Program}
def guardE (x : Option T) (want : Bool) (X Y : Prop) : Prop := match x with
  | some (.one (.dat (.bool b))) => bif b == want then X else Y
  | some .un => Y
  | _ => False
theorem guardT_none {all : List Oper} {env : Env} {o : Oper} {X Y : Prop} (hg : o.guard = none) (h : X) : guardT all env o X Y := by
  unfold guardT; rw [hg]; exact h
theorem guardT_some {all : List Oper} {env : Env} {o : Oper} {X Y : Prop} {j d : Nat} {want : Bool} (hg : o.guard = some (j, want)) (hd : (all[j]?).bind (·.dst) = some d)
    (h : guardE (env.lookup d) want X Y) : guardT all env o X Y := by
  unfold guardT; rw [hg]; simp only [hd, Option.bind_some]; exact h
theorem seqVC_nil {all : List Oper} {env : Env} {B : Bx} {K : Env → Bx → Prop} (h : K env B) : seqVC P all [] env B K := h
theorem seqVC_stepN {all os : List Oper} {o : Oper} {env : Env} {B : Bx} {K : Env → Bx → Prop} (hg : o.guard = none)
    (h : ∀ K' : Env → Bx → Prop, (∀ e b, seqVC P all os e b K → K' e b) → effVCN P o env B (fun t B' => K' (putE env o.dst t) B')) : seqVC P all (o :: os) env B K :=
  guardT_none hg (h (fun e b => seqVC P all os e b K) fun _ _ q => q)
theorem seqVC_stepG {all os : List Oper} {o : Oper} {env : Env} {B : Bx} {K : Env → Bx → Prop} {j d : Nat} {want : Bool} (hg : o.guard = some (j, want)) (hd : (all[j]?).bind (·.dst) = some d)
    (h : ∀ K' : Env → Bx → Prop, (∀ e b, seqVC P all os e b K → K' e b) → guardE (env.lookup d) want (effVCN P o env B (fun t B' => K' (putE env o.dst t) B')) (K' (putE env o.dst undefT) B)) : seqVC P all (o :: os) env B K :=
  guardT_some hg hd (h (fun e b => seqVC P all os e b K) fun _ _ q => q)
theorem parVC_nil {all : List Oper} {env : Env} {B : Bx} {K : Env → Prop} (h : K env) : parVC P all B [] env K := h
theorem parVC_stepN {all os : List Oper} {o : Oper} {env : Env} {B : Bx} {K : Env → Prop} (hg : o.guard = none)
    (h : ∀ K' : Env → Prop, (∀ e, parVC P all B os e K → K' e) → pureVC P o env B (fun t => K' (putE env o.dst t))) : parVC P all B (o :: os) env K :=
  guardT_none hg (h (fun e => parVC P all B os e K) fun _ q => q)
theorem parVC_stepG {all os : List Oper} {o : Oper} {env : Env} {B : Bx} {K : Env → Prop} {j d : Nat} {want : Bool} (hg : o.guard = some (j, want)) (hd : (all[j]?).bind (·.dst) = some d)
    (h : ∀ K' : Env → Prop, (∀ e, parVC P all B os e K → K' e) → guardE (env.lookup d) want (pureVC P o env B (fun t => K' (putE env o.dst t))) (K' (putE env o.dst undefT))) : parVC P all B (o :: os) env K :=
  guardT_some hg hd (h (fun e => parVC P all B os e K) fun _ q => q)
/-- one operation of a drawn region that turns boxes -/
def parOpVC (P : Program) (fixB : Bx) (o : Oper) (env : Env) (B : Bx) (K : T → Bx → Prop) : Prop :=
  match o.op with
  | .store t x y => match ptrName (ev P env 0 x) with
    | some k => notIn k fixB = true ∧ vStore P t (ev P env 0 x) (ev P env t y) B (fun B' => K undefT B')
    | none => False
  | _ => match effCall P o env with
    | some (g, us) => ∃ k res r res', PCBk P g us k res r res' ∧ B.lookup k = some res ∧ notIn k fixB = true ∧ K r (Bx.put k res' B)
    | none => pureVC P o env fixB fun t => K t B
theorem parEVC_nil {all : List Oper} {fixB : Bx} {env : Env} {B : Bx} {K : Env → Bx → Prop} (h : K env B) : parEVC P all fixB [] env B K := h
theorem parEVC_stepN {all os : List Oper} {fixB : Bx} {o : Oper} {env : Env} {B : Bx} {K : Env → Bx → Prop} (hg : o.guard = none)
    (h : ∀ K' : Env → Bx → Prop, (∀ e b, parEVC P all fixB os e b K → K' e b) → parOpVC P fixB o env B (fun t B' => K' (putE env o.dst t) B')) : parEVC P all fixB (o :: os) env B K :=
  guardT_none hg (h (fun e b => parEVC P all fixB os e b K) fun _ _ q => q)
theorem parEVC_stepG {all os : List Oper} {fixB : Bx} {o : Oper} {env : Env} {B : Bx} {K : Env → Bx → Prop} {j d : Nat} {want : Bool} (hg : o.guard = some (j, want)) (hd : (all[j]?).bind (·.dst) = some d)
    (h : ∀ K' : Env → Bx → Prop, (∀ e b, parEVC P all fixB os e b K → K' e b) → guardE (env.lookup d) want (parOpVC P fixB o env B (fun t B' => K' (putE env o.dst t) B')) (K' (putE env o.dst undefT) B)) : parEVC P all fixB (o :: os) env B K :=
  guardT_some hg hd (h (fun e b => parEVC P all fixB os e b K) fun _ _ q => q)
end Go.Sx
