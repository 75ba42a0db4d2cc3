/- A part of the proof. Conditions: those that each lemma states. -/
import Derived.Test.YteobojeemflggaaGreatPm1
import Derived.Laws.StructEq
import Derived.MapKept
set_option linter.unusedVariables false
set_option linter.unusedSimpArgs false
namespace Go.Sx
variable {P : Program}
theorem push_get {h : Array Obj} {b : Nat} {o x : Obj} (e : h[b]? = some x) : (h.push o)[b]? = some x := by
  have hlt := (Array.getElem?_eq_some_iff.1 e).1
  rw [Array.getElem?_push, if_neg (by omega)]; exact e
theorem push_old {h : Array Obj} {b : Nat} {o : Obj} (hlt : b < h.size) : (h.push o)[b]? = h[b]? := by
  rw [Array.getElem?_push, if_neg (by omega)]
theorem push_new {h : Array Obj} {o : Obj} : (h.push o)[h.size]? = some o := by simp
theorem Res.ok_mono {M M' : Mem} {ν : Nu} {w w' : World} {k : Nat} (hM : M.le M') (hh : ∀ b x, w.heap[b]? = some x → (ν k).blk = some b → w'.heap[b]? = some x) : ∀ {r : Res}, r.ok M ν w k → r.ok M' ν w' k
  | .cells cs, h => by
    simp only [Res.ok] at h ⊢
    obtain ⟨b, c, et, e1, e2, e3⟩ := h
    exact ⟨b, c, et, e1, hh _ _ e2 e1, Cell.reps_mono hM _ _ e3⟩
  | .row sz rows, h => by
    simp only [Res.ok] at h ⊢
    obtain ⟨h1, h2, h3⟩ := h
    refine ⟨h1, h2, ?_⟩
    rcases h3 with h3 | ⟨b, c, et, mid, post, e1, e2, e3, e4, e5⟩
    · exact .inl h3
    · exact .inr ⟨b, c, et, mid, post, e1, hh _ _ e2 e1, e3, repRows_mono hM _ _ _ e4, e5⟩
  | .mp ag es, h => by
    simp only [Res.ok] at h ⊢
    obtain ⟨b, ents, clock, e1, e2, e3⟩ := h
    exact ⟨b, ents, clock, e1, hh _ _ e2 e1, repEnts_mono hM _ _ e3⟩
theorem Res.blk_lt {M : Mem} {ν : Nu} {w : World} {k b : Nat} : ∀ {r : Res}, r.ok M ν w k → (ν k).blk = some b → b < w.heap.size
  | .cells cs, h, e => by
    simp only [Res.ok] at h
    obtain ⟨b', c, et, e1, e2, e3⟩ := h
    rw [e1] at e; cases e
    exact (Array.getElem?_eq_some_iff.1 e2).1
  | .row sz rows, h, e => by
    simp only [Res.ok] at h
    obtain ⟨h1, h2, h3⟩ := h
    rcases h3 with ⟨h3, _⟩ | ⟨b', c, et, mid, post, e1, e2, e3, e4, e5⟩
    · rw [h3] at e; cases e
    · rw [e1] at e; cases e
      exact (Array.getElem?_eq_some_iff.1 e2).1
  | .mp ag es, h, e => by
    simp only [Res.ok] at h
    obtain ⟨b', ents, clock, e1, e2, e3⟩ := h
    rw [e1] at e; cases e
    exact (Array.getElem?_eq_some_iff.1 e2).1
def Mem.add (M : Mem) (b : Nat) (o : Obj) : Mem := fun k => if k = b then some o else M k
theorem Sat.freeze_new {κ : Kap} {M : Mem} {ν : Nu} {B : Bx} {w : World} (h : Sat κ M ν B w) (o : Obj) (ho : ∃ c t, o = .cells c t) :
    M.ext κ (M.add w.heap.size o) ∧ Sat κ (M.add w.heap.size o) ν B { w with heap := w.heap.push o } := by
  have hle : M.le (M.add w.heap.size o) := by
    intro b x e
    unfold Mem.add
    split
    · rename_i hb; subst hb
      have := h.fro _ _ e; simp at this
    · exact e
  have hnew : ∀ b x, M.add w.heap.size o b = some x → M b = some x ∨ κ.w.heap.size ≤ b := by
    intro b x e
    unfold Mem.add at e
    split at e
    · rename_i hb; subst hb; exact .inr h.size
    · exact .inl e
  refine ⟨⟨hle, hnew⟩, h.os, h.tape, h.output, h.dr, by simp; have := h.size; omega, ?_, ?_, ?_, ?_, h.inj, h.nodup⟩
  · intro b hb hD
    rw [← h.unch b hb hD]
    exact push_old (Nat.lt_of_lt_of_le hb h.size)
  · intro b x e
    unfold Mem.add at e
    split at e
    · rename_i hb; subst hb; cases e; exact push_new
    · exact push_get (h.fro _ _ e)
  · intro k r hm
    exact Res.ok_mono hle (fun b x e _ => push_get e) (h.res k r hm)
  · intro k r b hm hb
    obtain ⟨h1, h2⟩ := h.away k r b hm hb
    refine ⟨?_, h2⟩
    unfold Mem.add
    have := Res.blk_lt (h.res k r hm) hb
    rw [if_neg (by omega)]; exact h1
def toCells : T → Option (List Cell)
  | .one c => some [c]
  | .st r => some (r.map .dat)
  | .agg cs => some cs
  | .tup _ => none
  | .un => none
def lenIs {α : Type} : Nat → List α → Bool
  | 0, [] => true
  | n + 1, _ :: l => lenIs n l
  | _, _ => false
theorem lenIs_spec {α : Type} : ∀ {n : Nat} {l : List α}, lenIs n l = true → l.length = n
  | 0, [], _ => rfl
  | n + 1, _ :: l, h => by simp only [lenIs] at h; simp [lenIs_spec h]
  | 0, _ :: _, h => by simp [lenIs] at h
  | n + 1, [], h => by simp [lenIs] at h
theorem toCells_rep {M : Mem} {ν : Nu} {t : T} {cs : List Cell} {v : Value} (h : toCells t = some cs) (hr : t.rep M ν v) (h1 : ∀ c, t = .one c → ∀ a, v ≠ .agg a) : Cell.reps M ν cs v.cells.toList := by
  cases t with
  | one c =>
    simp only [toCells, Option.some.injEq] at h; subst h
    simp only [T.rep] at hr
    have : v.cells.toList = [v] := by
      cases v <;> first | rfl | exact absurd rfl (h1 c rfl _)
    rw [this]
    simp only [Cell.reps]
    exact ⟨v, [], rfl, hr, rfl⟩
  | st r =>
    simp only [toCells, Option.some.injEq] at h; subst h
    simp only [T.rep] at hr
    obtain ⟨a, e, h⟩ := hr
    subst e
    exact Cell.reps_map_c.2 h
  | agg cs' =>
    simp only [toCells, Option.some.injEq] at h; subst h
    simp only [T.rep] at hr
    obtain ⟨a, e, h⟩ := hr
    subst e
    exact h
  | tup ts => cases h
  | un => cases h
theorem C.rep_noagg {M : Mem} {c : C} {v : Value} (h : c.rep M v) (a : Array Value) : v ≠ .agg a := by
  cases c <;> simp only [C.rep] at h
  case sl => obtain ⟨_, _, _, e, _⟩ := h; subst e; simp
  case fnc => obtain ⟨_, e, _⟩ := h; subst e; simp
  all_goals subst h; simp
theorem Cell.rep_noagg {M : Mem} {ν : Nu} {c : Cell} {v : Value} (h : c.rep M ν v) (a : Array Value) : v ≠ .agg a := by
  cases c <;> simp only [Cell.rep] at h
  case dat => exact C.rep_noagg h a
  case ptr => obtain ⟨_, _, e⟩ := h; subst e; simp
  case own => subst h; simp
  case rp => obtain ⟨_, _, e⟩ := h; subst e; simp
  case arr => obtain ⟨_, _, e⟩ := h; subst e; simp
  case mp => obtain ⟨_, _, e⟩ := h; subst e; simp
  case ref => obtain ⟨_, _, _, e, _⟩ := h; subst e; simp
  case clo => obtain ⟨_, e, _⟩ := h; subst e; simp
theorem cells_of {M : Mem} {ν : Nu} {t : T} {cs : List Cell} {v : Value} (h : toCells t = some cs) (hr : t.rep M ν v) : Cell.reps M ν cs v.cells.toList :=
  toCells_rep h hr fun c e a => by subst e; simp only [T.rep] at hr; exact Cell.rep_noagg hr a
def zmatch : List C → List Value → Bool
  | [], [] => true
  | c :: cs, v :: vs => (match c, v with
    | .int k n, .int k' n' => decide (k = k' ∧ n = n')
    | .bool b, .bool b' => b == b'
    | .str [], .string s => s.data.size == 0
    | .nil _, .slice none 0 0 => true
    | .fnil, .nilFunc => true
    | _, _ => false) && zmatch cs vs
  | _, _ => false
theorem zmatch_spec {M : Mem} : ∀ {cs : List C} {vs : List Value}, zmatch cs vs = true → repRow M cs vs
  | [], [], _ => by simp only [repRow]
  | c :: cs, v :: vs, h => by
    simp only [zmatch, Bool.and_eq_true] at h
    simp only [repRow]
    refine ⟨v, vs, rfl, ?_, zmatch_spec h.2⟩
    have h1 := h.1
    split at h1
    · simp only [decide_eq_true_eq] at h1; obtain ⟨rfl, rfl⟩ := h1; simp only [C.rep]
    · simp only [beq_iff_eq] at h1; subst h1; simp only [C.rep]
    · rename_i s
      simp only [beq_iff_eq] at h1
      simp only [C.rep]
      have : s = ByteArray.mk [].toArray := by apply ByteArray.ext; exact Array.eq_empty_of_size_eq_zero h1
      rw [this]
    · simp only [C.rep]
    · simp only [C.rep]
    · cases h1
  | [], _ :: _, h => by simp [zmatch] at h
  | _ :: _, [], h => by simp [zmatch] at h
def zeroC (P : Program) : Nat → TypeId → Option (List C)
  | 0, _ => none
  | d + 1, t =>
    match P.underlying t with
    | some (.int k) => some [.int k 0]
    | some .bool => some [.bool false]
    | some .string => some [.str []]
    | some (.slice e) => (szT P e).map fun n => [.nil n]
    | some (.func ..) => some [.fnil]
    | some (.struct fs) => fs.toList.foldr (fun f acc => match zeroC P d f.type, acc with
      | some x, some y => some (x ++ y)
      | _, _ => none) (some [])
    | some (.array n e) => (zeroC P d e).map fun x => (List.replicate n x).flatten
    | _ => none
def zeroT (P : Program) (t : TypeId) : Option (List C) :=
  match zeroC P 12 t, (P.info? t).bind (·.zero) with
  | some zs, some z => bif zmatch zs z.cells.toList then some zs else none
  | _, _ => none
theorem zeroT_spec {t : TypeId} {zs : List C} (h : zeroT P t = some zs) : ∃ z, (∀ w, (zeroValue t).run P w = .ok z w) ∧ zmatch zs z.cells.toList = true := by
  unfold zeroT at h
  split at h
  · rename_i zs' z h1 h2
    cases hm : zmatch zs' z.cells.toList with
    | false => rw [hm] at h; cases h
    | true =>
      rw [hm] at h
      simp only [cond_true, Option.some.injEq] at h
      subst h
      obtain ⟨i, hi, hz⟩ := Option.bind_eq_some_iff.1 h2
      exact ⟨z, fun w => by simp [zeroValue, typeInfo, hi, hz], hm⟩
  · cases h
def prtT (P : Program) (t i : Nat) : Option (Nat × Nat × TypeId) :=
  match P.underlying t with
  | some (.struct fs) => match fs[i]? with
    | some fd => (szT P fd.type).map fun n => (fd.offset, n, fd.type)
    | none => none
  | some (.array len e) => (szT P e).map fun n => (i * n, n, e)
  | _ => none
def fieldsOk (P : Program) (t : TypeId) : Bool :=
  match P.underlying t with
  | some (.struct fs) => fs.toList.all fun f => (szT P f.type).isSome
  | some (.array _ e) => (szT P e).isSome
  | _ => false
def vParts (P : Program) (t : TypeId) (env : Env) : List (Nat × Operand) → List Cell → Option (List Cell)
  | [], cs => some cs
  | (i, x) :: rest, cs => match prtT P t i with
    | some (off, n, ty) => match ev P env ty x with
      | some u => match toCells u with
        | some part => bif lenIs n part then (match cutC off cs with
          | some (pre, y) => match cutC n y with
            | some (_, post) => vParts P t env rest (pre ++ (part ++ post))
            | none => none
          | none => none) else none
        | none => none
      | none => none
    | none => none
def vBuild (P : Program) (t : TypeId) (env : Env) (parts : List (Nat × Operand)) (K : T → Prop) : Prop :=
  match zeroT P t with
  | some zs => match vParts P t env parts (zs.map .dat) with
    | some cs => fieldsOk P t = true ∧ K (mkAgg cs)
    | none => False
  | none => False
theorem splice (part : List Value) : ∀ (pre mid post : List Value) (j : Nat), mid.length = part.length →
    (part.zipIdx j).foldl (fun (cs : Array Value) (p : Value × Nat) => cs.setIfInBounds (pre.length - j + p.2) p.1) (pre ++ (mid ++ post)).toArray = (pre ++ (part ++ post)).toArray ∨ pre.length < j := by
  induction part with
  | nil => intro pre mid post j h; left; simp at h; subst h; simp
  | cons v part ih =>
    intro pre mid post j h
    by_cases hj : pre.length < j
    · exact .inr hj
    · left
      cases mid with
      | nil => simp at h
      | cons m mid =>
        rw [List.zipIdx_cons, List.foldl_cons]
        have e1 : ((pre ++ (m :: mid ++ post)).toArray).setIfInBounds (pre.length - j + j) v = ((pre ++ [v]) ++ (mid ++ post)).toArray := by
          have : pre.length - j + j = pre.length := by omega
          rw [this]
          apply Array.ext'
          simp
        rw [e1]
        have := ih (pre ++ [v]) mid post (j + 1) (by simpa using h)
        rcases this with this | this
        · have e2 : (pre ++ [v]).length - (j + 1) = pre.length - j := by simp
          rw [e2] at this
          rw [this]; simp
        · simp at this; omega
theorem fill_step {place : Nat → Option (Nat × Nat)} {cells : Array Value} {i off n : Nat} {v : Value} {rest : List (Nat × Value)} {pre mid post : List Value}
    (hp : place i = some (off, n)) (hv : v.cells.size = n) (hc : cells.toList = pre ++ (mid ++ post)) (h1 : pre.length = off) (h2 : mid.length = n) :
    Instr.fill place cells ((i, v) :: rest) = Instr.fill place (pre ++ (v.cells.toList ++ post)).toArray rest := by
  rw [Instr.fill]
  have hsz : cells.size = off + (n + post.length) := by
    rw [← Array.length_toList, hc]; simp [h1, h2]
  simp only [hp]
  rw [if_neg (by simp [hv]; omega)]
  congr 1
  have := splice v.cells.toList pre mid post 0 (by simp [h2, hv])
  rcases this with this | this
  · simp only [Nat.sub_zero] at this
    rw [← this, ← hc, ← h1]
    rw [← Array.foldl_toList]
    simp [Array.toList_zipIdx]
  · omega
theorem vParts_sound {t : TypeId} {env : Env} {M : Mem} {ν : Nu} {a : Act} {place : Nat → Option (Nat × Nat)} (hpl : ∀ i off n ty, prtT P t i = some (off, n, ty) → place i = some (off, n)) :
    ∀ (parts : List (Nat × Operand)) (cs cs' : List Cell) (cells : Array Value), (∀ p ∈ parts, ∀ ty u, ev P env ty p.2 = some u → u.rep M ν (a.eval p.2)) → vParts P t env parts cs = some cs' → Cell.reps M ν cs cells.toList →
      ∃ cells', Instr.fill place cells (parts.map fun (i, x) => (i, a.eval x)) = some cells' ∧ Cell.reps M ν cs' cells'.toList
  | [], cs, cs', cells, _, h, hr => by
    simp only [vParts, Option.some.injEq] at h
    subst h
    exact ⟨cells, rfl, hr⟩
  | (i, x) :: rest, cs, cs', cells, he, h, hr => by
    simp only [vParts] at h
    split at h
    · rename_i off n ty hp
      split at h
      · rename_i u hu
        split at h
        · rename_i part hpart
          cases hl : lenIs n part with
          | false => rw [hl] at h; cases h
          | true =>
            rw [hl] at h
            simp only [cond_true] at h
            split at h
            · rename_i pre y hc1
              split at h
              · rename_i old post hc2
                obtain ⟨e1, l1⟩ := cutC_spec hc1
                obtain ⟨e2, l2⟩ := cutC_spec hc2
                have hrep := cells_of hpart (he (i, x) (by simp) ty u hu)
                rw [e1] at hr
                obtain ⟨w1, w23, ew, hw1, hw23⟩ := Cell.reps_split hr
                rw [e2] at hw23
                obtain ⟨w2, w3, ew2, hw2, hw3⟩ := Cell.reps_split hw23
                have hvl : (a.eval x).cells.size = n := by rw [← Array.length_toList, Cell.reps_length hrep]; exact lenIs_spec hl
                have step := fill_step (place := place) (cells := cells) (i := i) (off := off) (n := n) (v := a.eval x) (rest := rest.map fun (i, x) => (i, a.eval x)) (pre := w1) (mid := w2) (post := w3)
                  (hpl i off n ty hp) hvl (by rw [ew, ew2]) (by rw [Cell.reps_length hw1, l1]) (by rw [Cell.reps_length hw2, l2])
                have hnew : Cell.reps M ν (pre ++ (part ++ post)) (w1 ++ ((a.eval x).cells.toList ++ w3)) := Cell.reps_append hw1 (Cell.reps_append hrep hw3)
                obtain ⟨cells', hf, hr'⟩ := vParts_sound hpl rest _ cs' (w1 ++ ((a.eval x).cells.toList ++ w3)).toArray (fun p hp => he p (List.mem_cons_of_mem _ hp)) h (by simpa using hnew)
                refine ⟨cells', ?_, hr'⟩
                rw [List.map_cons]
                rw [step]; exact hf
              · cases h
            · cases h
        · cases h
      · cases h
    · cases h
theorem mapM_places (fs : List Field) (h : ∀ f ∈ fs, (szT P f.type).isSome = true) (w : World) : (fs.mapM (m := Sem) fun f => do pure (f.offset, ← sizeOf f.type)).run P w = .ok (fs.map fun f => (f.offset, (szT P f.type).getD 0)) w := by
  induction fs with
  | nil => simp
  | cons f fs ih =>
    obtain ⟨n, hn⟩ := Option.isSome_iff_exists.1 (h f (by simp))
    simp only [List.mapM_cons, Sem.run_bind, run_sz hn, Result.andThen_ok, Sem.run_pure, ih fun g hg => h g (List.mem_cons_of_mem _ hg)]
    simp [hn]
theorem vBuild_sound {t : TypeId} {parts : List (Nat × Operand)} {env : Env} {B : Bx} {o : Oper} {K : T → Prop} (ho : o.op = .build t parts.toArray)
    (h : vBuild P t env parts K) : ∃ u, OpP P o env B u ∧ K u := by
  have hex : ∀ (a : Act), execOp a.eval o = (do pure (.value (← Instr.build t (parts.map fun (i, x) => (i, a.eval x)).toArray))) := by
    intro a; unfold execOp; rw [ho]; simp
  unfold vBuild at h
  split at h
  · rename_i zs hz
    split at h
    · rename_i cs hp
      obtain ⟨hf, hK⟩ := h
      obtain ⟨z, hzr, hzm⟩ := zeroT_spec hz
      refine ⟨_, OpP.of_val fun κ M ν ac w B' hB he hs => ?_, hK⟩
      have hops : ∀ p ∈ parts, ∀ ty u, ev P env ty p.2 = some u → u.rep M ν (ac.eval p.2) := by
        intro p hp ty u hu
        refine ev_rep he ?_ hu
        rw [ho]
        simp only [Op.operands]
        simp
        exact ⟨p.1, by cases p; exact hp⟩
      have hz0 : Cell.reps M ν (zs.map .dat) z.cells.toList := Cell.reps_map_c.2 (zmatch_spec hzm)
      unfold fieldsOk at hf
      split at hf
      · rename_i fs hu
        have hpl : ∀ i off n ty, prtT P t i = some (off, n, ty) → ((fs.toList.map fun f => (f.offset, (szT P f.type).getD 0))[i]?) = some (off, n) := by
          intro i off n ty hprt
          unfold prtT at hprt
          rw [hu] at hprt
          simp only [] at hprt
          split at hprt
          · rename_i fd hfd
            cases hsz : szT P fd.type with
            | none => simp [hsz] at hprt
            | some m =>
              simp only [hsz, Option.map_some, Option.some.injEq, Prod.mk.injEq] at hprt
              rw [List.getElem?_map, Array.getElem?_toList, hfd]
              simp [hsz, hprt.1, hprt.2.1]
          · cases hprt
        obtain ⟨cells', hfill, hrep⟩ := vParts_sound (place := fun i => ((fs.toList.map fun f => (f.offset, (szT P f.type).getD 0))[i]?)) hpl parts _ cs z.cells hops hp hz0
        refine ⟨.agg cells', exec_v (hex ac) ?_, mkAgg_rep hrep⟩
        have hm := mapM_places (P := P) fs.toList (List.all_eq_true.1 hf) w
        unfold Instr.build
        simp only [Sem.run_bind, hzr, Result.andThen_ok, run_underlying hu]
        have hm2 : (fs.mapM (m := Sem) fun f => do pure (f.offset, ← sizeOf f.type)).run P w = .ok (fs.toList.map fun f => (f.offset, (szT P f.type).getD 0)).toArray w := by
          rw [Array.mapM_eq_mapM_toList]
          simp only [Sem.run_map, hm, Result.andThen_ok]
        simp only [hm2, Result.andThen_ok]
        have : (fun (x : Nat) => ((fs.toList.map fun f => (f.offset, (szT P f.type).getD 0)).toArray[x]?)) = fun (i : Nat) => ((fs.toList.map fun f => (f.offset, (szT P f.type).getD 0))[i]?) := by
          funext i; simp
        rw [this, hfill]
        rfl
      · rename_i len e hu
        obtain ⟨n, hn⟩ := Option.isSome_iff_exists.1 hf
        have hpl : ∀ i off m ty, prtT P t i = some (off, m, ty) → (fun i => some (i * n, n)) i = some (off, m) := by
          intro i off m ty hprt
          unfold prtT at hprt
          rw [hu] at hprt
          simp only [hn, Option.map_some, Option.some.injEq, Prod.mk.injEq] at hprt ⊢
          exact ⟨hprt.1, hprt.2.1⟩
        obtain ⟨cells', hfill, hrep⟩ := vParts_sound hpl parts _ cs z.cells hops hp hz0
        refine ⟨.agg cells', exec_v (hex ac) ?_, mkAgg_rep hrep⟩
        unfold Instr.build
        simp only [Sem.run_bind, hzr, Result.andThen_ok, run_underlying hu, run_sz hn, hfill, Sem.run_pure]
      · cases hf
    · exact h.elim
  · exact h.elim
def C.soft : C → C
  | .nil n => .sl n []
  | .int k n => .int k n
  | .bool b => .bool b
  | .str l => .str l
  | .sl n r => .sl n r
  | .fn f => .fn f
  | .fnc f caps => .fnc f caps
  | .fnil => .fnil
def Cell.soft : Cell → Cell
  | .dat c => .dat c.soft
  | .ptr k o => .ptr k o
  | .own k m => .own k m
  | .rp k sz i f => .rp k sz i f
  | .arr k n => .arr k n
  | .ref r => .ref r
  | .clo f caps => .clo f caps
  | .mp k => .mp k
mutual
def T.soft : T → T
  | .one c => .one c.soft
  | .st r => .st (r.map C.soft)
  | .agg cs => .agg (cs.map Cell.soft)
  | .tup ts => .tup (T.softs ts)
  | .un => .un
def T.softs : List T → List T
  | [] => []
  | t :: ts => t.soft :: T.softs ts
end
theorem C.rep_soft {M : Mem} {c : C} {v : Value} (h : c.rep M v) : c.soft.rep M v := by
  cases c <;> simp only [C.soft] <;> try exact h
  simp only [C.rep] at h ⊢
  subst h
  exact ⟨none, 0, [], rfl, Nat.le_refl _, Nat.zero_le _, by simp only [repRows], .inl trivial⟩
theorem Cell.rep_soft {M : Mem} {ν : Nu} {c : Cell} {v : Value} (h : c.rep M ν v) : c.soft.rep M ν v := by
  cases c <;> simp only [Cell.soft] <;> try exact h
  simp only [Cell.rep] at h ⊢
  exact C.rep_soft h
theorem repRow_soft {M : Mem} : ∀ {r : List C} {vs : List Value}, repRow M r vs → repRow M (r.map C.soft) vs
  | [], vs, h => by simpa only [List.map_nil] using h
  | c :: r, vs, h => by
    simp only [repRow] at h
    simp only [List.map_cons, repRow]
    obtain ⟨v, vs', e, h1, h2⟩ := h
    exact ⟨v, vs', e, C.rep_soft h1, repRow_soft h2⟩
theorem Cell.reps_soft {M : Mem} {ν : Nu} : ∀ {r : List Cell} {vs : List Value}, Cell.reps M ν r vs → Cell.reps M ν (r.map Cell.soft) vs
  | [], vs, h => by simpa only [List.map_nil] using h
  | c :: r, vs, h => by
    simp only [Cell.reps] at h
    simp only [List.map_cons, Cell.reps]
    obtain ⟨v, vs', e, h1, h2⟩ := h
    exact ⟨v, vs', e, Cell.rep_soft h1, Cell.reps_soft h2⟩
mutual
theorem T.rep_soft {M : Mem} {ν : Nu} : ∀ {t : T} {v : Value}, t.rep M ν v → t.soft.rep M ν v
  | .one c, v, h => by simp only [T.soft, T.rep] at h ⊢; exact Cell.rep_soft h
  | .st r, v, h => by simp only [T.soft, T.rep] at h ⊢; obtain ⟨a, e, h⟩ := h; exact ⟨a, e, repRow_soft h⟩
  | .agg cs, v, h => by simp only [T.soft, T.rep] at h ⊢; obtain ⟨a, e, h⟩ := h; exact ⟨a, e, Cell.reps_soft h⟩
  | .tup ts, v, h => by simp only [T.soft, T.rep] at h ⊢; obtain ⟨a, e, h⟩ := h; exact ⟨a, e, T.reps_soft h⟩
  | .un, v, h => by simpa only [T.soft, T.rep] using h
theorem T.reps_soft {M : Mem} {ν : Nu} : ∀ {ts : List T} {vs : List Value}, T.reps M ν ts vs → T.reps M ν (T.softs ts) vs
  | [], vs, h => by simpa only [T.softs] using h
  | t :: ts, vs, h => by
    simp only [T.reps] at h
    simp only [T.softs, T.reps]
    obtain ⟨v, vs', e, h1, h2⟩ := h
    exact ⟨v, vs', e, T.rep_soft h1, T.reps_soft h2⟩
end
def softO (t : Option T) : Option T :=
  match t with
  | some t => some t.soft
  | none => none
theorem softO_rep {M : Mem} {ν : Nu} {a : Act} {env : Env} {o : Oper} {ty : TypeId} {x : Operand} {t : T} (he : EnvOn M ν a env o) (hx : x ∈ o.op.operands) (h : softO (ev P env ty x) = some t) :
    t.rep M ν (a.eval x) := by
  unfold softO at h
  split at h
  · rename_i u e
    simp only [Option.some.injEq] at h
    subst h
    exact T.rep_soft (ev_rep he hx e)
  · cases h
def bsT (P : Program) (t : TypeId) : Option (TypeId × Nat) :=
  match P.underlying t with
  | some (.slice e) => match szT P e, (P.info? e).bind (·.zero) with
    | some (n + 1), some z => bif z.cells.size == n + 1 then some (e, n + 1) else none
    | _, _ => none
  | _ => none
theorem bsT_spec {t e n : Nat} (h : bsT P t = some (e, n)) : P.underlying t = some (.slice e) ∧ szT P e = some n ∧ (∃ z : Value, (∀ w, (zeroValue e).run P w = .ok z w) ∧ z.cells.size = n) ∧ n ≠ 0 := by
  unfold bsT at h
  split at h
  · rename_i e' hu
    split at h
    · rename_i m z h1 h2
      cases hz : (z.cells.size == m + 1) with
      | false => rw [hz] at h; cases h
      | true =>
        rw [hz] at h
        simp only [cond_true, Option.some.injEq, Prod.mk.injEq] at h
        obtain ⟨rfl, rfl⟩ := h
        obtain ⟨i, hi, hz2⟩ := Option.bind_eq_some_iff.1 h2
        exact ⟨hu, h1, ⟨z, fun w => by simp [zeroValue, typeInfo, hi, hz2], by simpa using hz⟩, by omega⟩
    · cases h
  · cases h
def vRows (P : Program) (e n : Nat) (env : Env) : Nat → List (Nat × Operand) → Option (List (List C))
  | _, [] => some []
  | k, (i, x) :: rest => bif i == k then (match softO (ev P env e x) with
    | some u => match toCells u with
      | some cs => match pureCs cs with
        | some r => bif lenIs n r then (match vRows P e n env (k + 1) rest with
          | some rs => some (r :: rs)
          | none => none) else none
        | none => none
      | none => none
    | none => none) else none
def vBuildSlice (P : Program) (t : TypeId) (len : Nat) (env : Env) (parts : List (Nat × Operand)) (K : T → Prop) : Prop :=
  match bsT P t with
  | some (e, n) => match vRows P e n env 0 parts with
    | some rows => lenIs len parts = true ∧ len * n ≤ 16777216 ∧ K (.one (.dat (.sl n rows)))
    | none => False
  | none => False
theorem vRows_sound {e n : Nat} {env : Env} {M : Mem} {ν : Nu} {a : Act} :
    ∀ (parts : List (Nat × Operand)) (k : Nat) (rows : List (List C)) (pre post : List Value), (∀ p ∈ parts, ∀ u, softO (ev P env e p.2) = some u → u.rep M ν (a.eval p.2)) → vRows P e n env k parts = some rows →
      pre.length = k * n → post.length = parts.length * n →
      ∃ vs, Instr.fill (fun i => some (i * n, n)) (pre ++ post).toArray (parts.map fun (i, x) => (i, a.eval x)) = some (pre ++ vs).toArray ∧ repRows M n rows vs ∧ rows.length = parts.length
  | [], k, rows, pre, post, _, h, h1, h2 => by
    simp only [vRows, Option.some.injEq] at h
    subst h
    have : post = [] := List.length_eq_zero_iff.1 (by simpa using h2)
    subst this
    exact ⟨[], rfl, by simp only [repRows], rfl⟩
  | (i, x) :: rest, k, rows, pre, post, he, h, h1, h2 => by
    simp only [vRows] at h
    cases hik : (i == k) with
    | false => rw [hik] at h; cases h
    | true =>
      rw [hik] at h
      simp only [cond_true] at h
      have hik' : i = k := by simpa using hik
      subst hik'
      split at h
      · rename_i u hu
        split at h
        · rename_i cs hcs
          split at h
          · rename_i r hr
            cases hl : lenIs n r with
            | false => rw [hl] at h; cases h
            | true =>
              rw [hl] at h
              simp only [cond_true] at h
              split at h
              · rename_i rs hrs
                simp only [Option.some.injEq] at h
                subst h
                have hrep := cells_of hcs (he (i, x) (by simp) u hu)
                rw [pureCs_spec hr] at hrep
                have hrow := Cell.reps_map_c.1 hrep
                have hrl := lenIs_spec hl
                have hvl : (a.eval x).cells.size = n := by rw [← Array.length_toList, repRow_length hrow]; exact hrl
                have hpl : post.length = n + rest.length * n := by rw [h2, List.length_cons, Nat.add_mul, Nat.one_mul]; omega
                have hpost : post = post.take n ++ post.drop n := (List.take_append_drop n post).symm
                have step := fill_step (place := fun i => some (i * n, n)) (cells := (pre ++ post).toArray) (i := i) (off := i * n) (n := n) (v := a.eval x) (rest := rest.map fun (i, x) => (i, a.eval x)) (pre := pre) (mid := post.take n) (post := post.drop n)
                  rfl hvl (by rw [← hpost]) h1 (by rw [List.length_take]; omega)
                obtain ⟨vs, hf, hrs', hlen⟩ := vRows_sound rest (i + 1) rs (pre ++ (a.eval x).cells.toList) (post.drop n) (fun p hp => he p (List.mem_cons_of_mem _ hp)) hrs
                  (by rw [List.length_append, h1, Array.length_toList, hvl, Nat.add_mul, Nat.one_mul]) (by rw [List.length_drop, hpl]; omega)
                refine ⟨(a.eval x).cells.toList ++ vs, ?_, ?_, by simp [hlen]⟩
                · rw [List.map_cons, step, ← List.append_assoc, hf, List.append_assoc]
                · simp only [repRows]
                  exact ⟨_, vs, rfl, hrl, hrow, hrs'⟩
              · cases h
          · cases h
        · cases h
      · cases h
theorem vBuildSlice_sound {t : TypeId} {len : Nat} {parts : List (Nat × Operand)} {env : Env} {B : Bx} {o : Oper} {K : T → Prop} (ho : o.op = .buildSlice t len parts.toArray)
    (h : vBuildSlice P t len env parts K) : ∃ u, OpP P o env B u ∧ K u := by
  have hex : ∀ (a : Act), execOp a.eval o = (do pure (.value (← Instr.buildSlice t len (parts.map fun (i, x) => (i, a.eval x)).toArray))) := by
    intro a; unfold execOp; rw [ho]; simp
  unfold vBuildSlice at h
  split at h
  · rename_i e n hbs
    obtain ⟨hu, hsz, ⟨z, hz, hzs⟩, hn0⟩ := bsT_spec hbs
    split at h
    · rename_i rows hr
      obtain ⟨hlen, hbound, hK⟩ := h
      have hpl := lenIs_spec hlen
      refine ⟨_, OpP.of_run fun κ M ν ac w B' hB he hs => ?_, hK⟩
      have hops : ∀ p ∈ parts, ∀ u, softO (ev P env e p.2) = some u → u.rep M ν (ac.eval p.2) := by
        intro p hp u hu
        refine softO_rep he ?_ hu
        rw [ho]
        simp only [Op.operands]
        simp
        exact ⟨p.1, by cases p; exact hp⟩
      let zero : Array Value := if len * n = 0 then #[] else z.cells
      let start : List Value := ((Array.range (len * n)).map (zero[· % zero.size]!)).toList
      have hstart : start.length = parts.length * n := by simp [start, hpl]
      obtain ⟨vs, hf, hrows, hrl⟩ := vRows_sound (a := ac) parts 0 rows [] start hops hr (by simp) hstart
      obtain ⟨hext, hsat⟩ := hs.freeze_new (.cells vs.toArray e) ⟨_, _, rfl⟩
      refine ⟨.slice (some ⟨w.heap.size, 0, none⟩) len len, _, _, exec_v (hex ac) ?_, hext, ?_, hsat⟩
      · have hle : ¬ len * n > 2 ^ 24 := by omega
        have hf' : Instr.fill (fun i => some (i * n, n)) ((Array.range (len * n)).map (zero[· % zero.size]!)) (parts.map fun (i, x) => (i, ac.eval x)) = some vs.toArray := by
          have e1 : ((Array.range (len * n)).map (zero[· % zero.size]!)) = ([] ++ start).toArray := by simp only [start, List.nil_append, Array.toArray_toList]
          rw [e1, hf]; simp
        unfold Instr.buildSlice
        by_cases h0 : len * n = 0
        · have hz0 : zero = #[] := by simp only [zero, h0, if_true]
          rw [hz0] at hf'
          rw [h0] at hf' hle
          simp only [Sem.run_bind, run_underlying hu, Result.andThen_ok, run_sz hsz, hle, if_false, Sem.run_pure, h0, if_true, hf', newRow, run_newObj]
        · have hz0 : zero = z.cells := by simp only [zero, h0, if_false]
          rw [hz0] at hf'
          simp only [Sem.run_bind, run_underlying hu, Result.andThen_ok, run_sz hsz, hle, if_false, Sem.run_pure, h0, hz, hf', newRow, run_newObj]
      · have hpn : parts.length = rows.length := hrl.symm
        simp only [T.rep, Cell.rep, C.rep]
        refine ⟨some ⟨w.heap.size, 0, none⟩, len, vs, by rw [hrl, hpl], by omega, ?_, ?_, ?_⟩
        · have : len ≤ len * n := Nat.le_mul_of_pos_right _ (Nat.pos_of_ne_zero hn0)
          unfold maxLen; omega
        · exact repRows_mono hext.1 n rows vs hrows
        · right
          refine ⟨w.heap.size, 0, rfl, vs.toArray, e, (0, 0), [], [], ?_, by simp, rfl⟩
          simp [Mem.add]
    · exact h.elim
  · exact h.elim
theorem exec_builtin {o : Oper} {b : Builtin} {args : Array Operand} {ts : Array TypeId} (ho : o.op = .call { callee := .builtin b, args := args, argTypes := ts }) (a : Act) :
    execOp a.eval o = builtin b ts o.type (args.map fun | .const _ => true | _ => false) (args.map a.eval) := by
  unfold execOp
  rw [ho]
  rfl
def vLen (P : Program) (t : TypeId) (x : Option T) (K : T → Prop) : Prop :=
  match x with
  | some (.one (.dat (.str l))) => kdT P t = some .str ∧ K (I .i64 l.length)
  | some (.one (.dat (.sl _ rows))) => match elT P t with
    | some _ => K (I .i64 rows.length)
    | none => False
  | some (.one (.own _ m)) => match elT P t with
    | some _ => K (I .i64 m)
    | none => False
  | some (.one (.arr _ m)) => match elT P t with
    | some _ => K (I .i64 m)
    | none => False
  | _ => False
theorem vLen_sound {t : TypeId} {x : Operand} {ty : TypeId} {env : Env} {B : Bx} {o : Oper} {K : T → Prop} (ho : o.op = .call { callee := .builtin .len, args := #[x], argTypes := #[t] })
    (h : vLen P t (softO (ev P env ty x)) K) : ∃ u, OpP P o env B u ∧ K u := by
  have hx : x ∈ o.op.operands := by rw [ho]; simp [Op.operands, Call.operands]
  have hex : ∀ (a : Act), execOp a.eval o = (do pure (.value (← Builtin.len_ #[t] o.type #[a.eval x]))) := by
    intro a; rw [exec_builtin ho]; simp [builtin]
  unfold vLen at h
  split at h
  · rename_i l ex
    refine ⟨_, OpP.of_val fun κ M ν ac w B' hB he hs => ⟨_, exec_v (hex ac) ?_, rep_int.2 rfl⟩, h.2⟩
    have e1 := rep_str.1 (softO_rep he hx ex)
    rw [e1]
    simp [Builtin.len_, run_underlying (kdT_str h.1), goInt, size_mk]
  · rename_i n rows ex
    split at h
    · rename_i p hel
      obtain ⟨e, hu, _⟩ := elT_spec (n := p.1) (b := p.2) hel
      refine ⟨_, OpP.of_val fun κ M ν ac w B' hB he hs => ⟨_, exec_v (hex ac) ?_, rep_int.2 rfl⟩, h⟩
      have hr := softO_rep he hx ex
      simp only [T.rep, Cell.rep, C.rep] at hr
      obtain ⟨a, cap, mid, ev, _⟩ := hr
      rw [ev]
      simp [Builtin.len_, run_underlying hu, goInt]
    · exact h.elim
  · rename_i k m ex
    split at h
    · rename_i p hel
      obtain ⟨e, hu, _⟩ := elT_spec (n := p.1) (b := p.2) hel
      refine ⟨_, OpP.of_val fun κ M ν ac w B' hB he hs => ⟨_, exec_v (hex ac) ?_, rep_int.2 rfl⟩, h⟩
      have hr := softO_rep he hx ex
      simp only [T.rep, Cell.rep] at hr
      rw [hr]
      simp [Builtin.len_, run_underlying hu, goInt]
    · exact h.elim
  · rename_i k m ex
    split at h
    · rename_i p hel
      obtain ⟨e, hu, _⟩ := elT_spec (n := p.1) (b := p.2) hel
      refine ⟨_, OpP.of_val fun κ M ν ac w B' hB he hs => ⟨_, exec_v (hex ac) ?_, rep_int.2 rfl⟩, h⟩
      have hr := softO_rep he hx ex
      simp only [T.rep, Cell.rep] at hr
      obtain ⟨b, hb, ev⟩ := hr
      rw [ev]
      simp [Builtin.len_, run_underlying hu, goInt]
    · exact h.elim
  · exact h.elim
def vMinMax (isMax : Bool) (x y : Option T) (K : T → Prop) : Prop :=
  match x, y with
  | some (.one (.dat (.int k a))), some (.one (.dat (.int k' b))) => K (I k (bif isMax then (if b > a then b else a) else (if b < a then b else a)))
  | _, _ => False
theorem vMinMax_sound {isMax : Bool} {t1 t2 : TypeId} {ts : Array TypeId} {x y : Operand} {env : Env} {B : Bx} {o : Oper} {K : T → Prop} (ho : o.op = .call { callee := .builtin (if isMax then .max else .min), args := #[x, y], argTypes := ts })
    (h : vMinMax isMax (ev P env t1 x) (ev P env t2 y) K) : ∃ u, OpP P o env B u ∧ K u := by
  have hx : x ∈ o.op.operands := by rw [ho]; simp [Op.operands, Call.operands]
  have hy : y ∈ o.op.operands := by rw [ho]; simp [Op.operands, Call.operands]
  unfold vMinMax at h
  split at h
  · rename_i k a k' b ex ey
    refine ⟨_, OpP.of_val fun κ M ν ac w B' hB he hs => ⟨_, ?_, rep_int.2 rfl⟩, h⟩
    have e1 := rep_int.1 (ev_rep he hx ex)
    have e2 := rep_int.1 (ev_rep he hy ey)
    rw [exec_builtin ho]
    cases isMax
    · simp [builtin, Builtin.min_, Builtin.min2, e1, e2]
    · simp [builtin, Builtin.max_, Builtin.max2, e1, e2]
  · exact h.elim
def Ent (P : Program) (f : FuncId) : Prop := ∃ fn, P.funcs[f]? = some fn ∧ (fn.name == "runtime.NumGoroutine") = false ∧ fn.body.isNone = false
def boxBlocks (B : Bx) (ν : Nu) (b : Nat) : Prop := ∃ k r, (k, r) ∈ B ∧ (ν k).blk = some b
def PCB (P : Program) (f : FuncId) (args : List T) (B : Bx) (r : T) (B' : Bx) : Prop :=
  Ent P f ∧ ∀ M ν w vs, Sat ⟨w, boxBlocks B ν, ν⟩ M ν B w → T.reps M ν args vs →
    Calls P f vs.toArray w (fun e w' => ∃ v M', e = .returned v ∧ Mem.ext ⟨w, boxBlocks B ν, ν⟩ M M' ∧ r.rep M' ν v ∧ Sat ⟨w, boxBlocks B ν, ν⟩ M' ν B' w')
def PC (P : Program) (f : FuncId) (args : List T) (r : T) : Prop := PCB P f args [] r []
theorem Sat.nil {κ : Kap} {M : Mem} {ν : Nu} {B : Bx} {w : World} (h : Sat κ M ν B w) (D : Nat → Prop) (ν' : Nu) : Sat ⟨w, D, ν'⟩ M ν [] w :=
  ⟨rfl, rfl, rfl, Nat.le_refl _, Nat.le_refl _, fun _ _ _ => rfl, h.fro, fun _ _ h => (by cases h), fun _ _ _ h => (by cases h), fun _ _ _ _ _ h => (by cases h), by simp⟩
theorem Sat.call {κ κ1 : Kap} {M M' : Mem} {ν ν1 : Nu} {B B1 B1' B' B1x : Bx} {w w' : World} (h : Sat κ M ν B w) (hsub : ∀ x ∈ B1, x ∈ B) (h1 : Sat κ1 M' ν1 B1x w') (hκ : κ1.w = w) (hD1 : ∀ b, κ1.D b → boxBlocks B1 ν b)
    (hres1 : ∀ k r, (k, r) ∈ B1' → r.ok M' ν w' k) (hext : Mem.ext κ1 M M')
    (hB : ∀ x ∈ B', x ∈ B1' ∨ (x ∈ B ∧ x.1 ∉ B1.map (·.1))) (hk : ∀ x ∈ B', x.1 ∈ B.map (·.1)) (hnd : (B'.map (·.1)).Nodup) : Sat κ M' ν B' w' ∧ Mem.ext κ M M' := by
  subst hκ
  have hsz : κ1.w.heap.size ≤ w'.heap.size := h1.size
  have kept : ∀ k r b, (k, r) ∈ B → k ∉ B1.map (·.1) → (ν k).blk = some b → ¬ boxBlocks B1 ν b := by
    rintro k r b hm hn hb ⟨k', r', hm', hb'⟩
    have := h.inj k r k' r' b hm (hsub _ hm') hb hb'
    subst this
    exact hn (List.mem_map.2 ⟨(k, r'), hm', rfl⟩)
  refine ⟨⟨h1.os.trans h.os, h1.tape.trans h.tape, h1.output.trans h.output, Nat.le_trans h.dr h1.dr, Nat.le_trans h.size hsz, ?_, h1.fro, ?_, ?_, ?_, hnd⟩, hext.1, fun b o e => (hext.2 b o e).elim .inl fun hb => .inr (Nat.le_trans h.size hb)⟩
  · intro b hb hD
    rw [← h.unch b hb hD]
    refine h1.unch b (Nat.lt_of_lt_of_le hb h.size) fun hd1 => ?_
    obtain ⟨k, r, hm, hbk⟩ := hD1 b hd1
    rcases (h.away k r b (hsub _ hm) hbk).2 with h2 | h2
    · omega
    · exact hD h2.2
  · intro k r hm
    rcases hB (k, r) hm with hm1 | ⟨hm2, hn⟩
    · exact hres1 k r hm1
    · refine Res.ok_mono hext.1 (fun b x e hb => ?_) (h.res k r hm2)
      rw [← e]
      exact h1.unch b (Array.getElem?_eq_some_iff.1 e).1 (fun hd => kept k r b hm2 hn hb (hD1 b hd))
  · intro k r b hm hb
    obtain ⟨⟨k0, r0⟩, hm0, hk0⟩ := List.mem_map.1 (hk (k, r) hm)
    simp only at hk0
    subst hk0
    obtain ⟨ha, hc⟩ := h.away k0 r0 b hm0 hb
    refine ⟨?_, hc⟩
    cases hMb : M' b with
    | none => rfl
    | some o =>
      rcases hext.2 b o hMb with h2 | h2
      · rw [ha] at h2; cases h2
      · have := Res.blk_lt (h.res k0 r0 hm0) hb
        have h2' : κ1.w.heap.size ≤ b := h2
        omega
  · intro k r k' r' b hm hm' hb hb'
    obtain ⟨⟨k0, r0⟩, hm0, hk0⟩ := List.mem_map.1 (hk (k, r) hm)
    obtain ⟨⟨k1, r1⟩, hm1, hk1⟩ := List.mem_map.1 (hk (k', r') hm')
    simp only at hk0 hk1
    subst hk0; subst hk1
    exact h.inj _ _ _ _ b hm0 hm1 hb hb'
def calleeT (t : Option T) : Option (FuncId × List T) :=
  match t with
  | some (.one (.dat (.fn f))) => some (f, [])
  | some (.one (.clo f caps)) => some (f, caps.map .one)
  | some (.one (.dat (.fnc f caps))) => some (f, caps.map fun r => .one (.ref r))
  | _ => none
def evs (P : Program) (env : Env) : List Operand → List TypeId → Option (List T)
  | [], _ => some []
  | x :: xs, ts => match softO (ev P env (ts.headD 0) x) with
    | some t => match evs P env xs ts.tail with
      | some us => some (t :: us)
      | none => none
    | none => none
theorem evs_rep {M : Mem} {ν : Nu} {a : Act} {env : Env} {o : Oper} (he : EnvOn M ν a env o) : ∀ (xs : List Operand) (ts : List TypeId) (us : List T), (∀ x ∈ xs, x ∈ o.op.operands) → evs P env xs ts = some us → T.reps M ν us (xs.map a.eval)
  | [], ts, us, _, h => by simp only [evs, Option.some.injEq] at h; subst h; simp only [T.reps, List.map_nil]
  | x :: xs, ts, us, hx, h => by
    simp only [evs] at h
    split at h
    · rename_i t ht
      split at h
      · rename_i us' hus
        simp only [Option.some.injEq] at h
        subst h
        simp only [T.reps, List.map_cons]
        exact ⟨_, _, rfl, softO_rep he (hx x (by simp)) ht, evs_rep he xs ts.tail us' (fun y hy => hx y (by simp [hy])) hus⟩
      · cases h
    · cases h
theorem T.reps_append {M : Mem} {ν : Nu} : ∀ {ts us : List T} {vs ws : List Value}, T.reps M ν ts vs → T.reps M ν us ws → T.reps M ν (ts ++ us) (vs ++ ws)
  | [], us, vs, ws, h, k => by simp only [T.reps] at h; subst h; simpa using k
  | t :: ts, us, vs, ws, h, k => by
    simp only [T.reps] at h
    obtain ⟨v, vs', e, h1, h2⟩ := h
    subst e
    simp only [List.cons_append, T.reps]
    exact ⟨v, _, rfl, h1, T.reps_append h2 k⟩
theorem reps_ones {M : Mem} {ν : Nu} : ∀ {cs : List Cell} {vs : List Value}, Cell.reps M ν cs vs → T.reps M ν (cs.map .one) vs
  | [], vs, h => by simp only [Cell.reps] at h; simp only [List.map_nil, T.reps]; exact h
  | c :: cs, vs, h => by
    simp only [Cell.reps] at h
    simp only [List.map_cons, T.reps, T.rep]
    obtain ⟨v, vs', e, h1, h2⟩ := h
    exact ⟨v, vs', e, h1, reps_ones h2⟩
theorem reps_refs {M : Mem} {ν : Nu} : ∀ {rs : List (List C)} {vs : List Value}, repRefs M rs vs → T.reps M ν (rs.map fun r => .one (.ref r)) vs
  | [], vs, h => by simp only [repRefs] at h; simp only [List.map_nil, T.reps]; exact h
  | r :: rs, vs, h => by
    simp only [repRefs] at h
    simp only [List.map_cons, T.reps, T.rep, Cell.rep]
    obtain ⟨b, off, mid, vs', e, h1, h2, h3⟩ := h
    exact ⟨_, vs', e, ⟨b, off, mid, rfl, h1, h2⟩, reps_refs h3⟩
theorem exec_call {o : Oper} {f : Operand} {args : List Operand} {ts : Array TypeId} (ho : o.op = .call { callee := .value f, args := args.toArray, argTypes := ts }) {a : Act} {M : Mem} {ν : Nu} {env : Env} (he : EnvOn M ν a env o) {ty : TypeId}
    {g : FuncId} {caps us : List T} (hf : calleeT (ev P env ty f) = some (g, caps)) (hu : evs P env args ts.toList = some us) (hent : Ent P g) (w : World) :
    ∃ vs : List Value, (execOp a.eval o).run P w = .ok (.enter g vs.toArray) w ∧ T.reps M ν (us ++ caps) vs := by
  have hfm : f ∈ o.op.operands := by rw [ho]; simp [Op.operands, Call.operands]
  have ham : ∀ x ∈ args, x ∈ o.op.operands := by intro x hx; rw [ho]; simp [Op.operands, Call.operands, hx]
  have hargs := evs_rep he args ts.toList us ham hu
  obtain ⟨fn, hfn, hname, hbody⟩ := hent
  have hcf : ∀ vs : Array Value, (callFunc g vs).run P w = .ok (.enter g vs) w := by
    intro vs
    unfold callFunc
    simp only [Sem.run_bind, run_program, Result.andThen_ok, hfn, hname, Bool.false_eq_true, if_false, hbody]
    rfl
  unfold calleeT at hf
  split at hf
  · rename_i f' ef
    simp only [Option.some.injEq, Prod.mk.injEq] at hf
    obtain ⟨rfl, rfl⟩ := hf
    have hr := ev_rep he hfm ef
    simp only [T.rep, Cell.rep, C.rep] at hr
    refine ⟨args.map a.eval, ?_, by simpa using hargs⟩
    unfold execOp
    rw [ho]
    simp only [resolve, Sem.run_bind, hr, Deferred.ofValue, Sem.run_pure, Result.andThen_ok, invoke]
    simp [hcf]
  · rename_i f' caps' ef
    simp only [Option.some.injEq, Prod.mk.injEq] at hf
    obtain ⟨rfl, rfl⟩ := hf
    have hr := ev_rep he hfm ef
    simp only [T.rep, Cell.rep] at hr
    obtain ⟨cv, e, hcv⟩ := hr
    refine ⟨args.map a.eval ++ cv, ?_, T.reps_append hargs (reps_ones hcv)⟩
    unfold execOp
    rw [ho]
    simp only [resolve, Sem.run_bind, e, Deferred.ofValue, Sem.run_pure, Result.andThen_ok, invoke]
    simp [hcf]
  · rename_i f' caps' ef
    simp only [Option.some.injEq, Prod.mk.injEq] at hf
    obtain ⟨rfl, rfl⟩ := hf
    have hr := ev_rep he hfm ef
    simp only [T.rep, Cell.rep, C.rep] at hr
    obtain ⟨cv, e, hcv⟩ := hr
    refine ⟨args.map a.eval ++ cv, ?_, T.reps_append hargs (reps_refs hcv)⟩
    unfold execOp
    rw [ho]
    simp only [resolve, Sem.run_bind, e, Deferred.ofValue, Sem.run_pure, Result.andThen_ok, invoke]
    simp [hcf]
  · cases hf
def vCall (P : Program) (ty : TypeId) (f : Operand) (args : List Operand) (ts : List TypeId) (env : Env) (K : T → Prop) : Prop :=
  match calleeT (ev P env ty f), evs P env args ts with
  | some (g, caps), some us => ∃ r, PC P g (us ++ caps) r ∧ K r
  | _, _ => False
theorem vCall_sound {ty : TypeId} {f : Operand} {args : List Operand} {ts : Array TypeId} {env : Env} {B : Bx} {o : Oper} {K : T → Prop} (ho : o.op = .call { callee := .value f, args := args.toArray, argTypes := ts })
    (h : vCall P ty f args ts.toList env K) : ∃ u, OpP P o env B u ∧ K u := by
  unfold vCall at h
  split at h
  · rename_i g caps us hf hu
    obtain ⟨r, hpc, hK⟩ := h
    refine ⟨r, ?_, hK⟩
    intro κ M ν a w B' hB he hs
    obtain ⟨vs, hrun, hreps⟩ := exec_call ho he hf hu hpc.1 w
    unfold Oper.wp
    rw [hrun]
    simp only [Oper.upon]
    refine Calls.mono (hpc.2 M ν w vs (hs.nil _ _) hreps) ?_
    rintro e w' ⟨v, M', rfl, hext, hr, hs'⟩
    obtain ⟨h1, h2⟩ := hs.call (B1 := []) (B1' := []) (B' := B') (fun x hx => by cases hx) hs' rfl (fun b h => h) (fun _ _ h => by cases h) hext (fun x hx => .inr ⟨hx, by simp⟩) (fun x hx => List.mem_map.2 ⟨x, hx, rfl⟩) hs.nodup
    exact ⟨v, M', rfl, h2, hr, h1⟩
  · exact h.elim
def Bx.put (k : Nat) (r : Res) : Bx → Bx
  | [] => []
  | p :: B => bif p.1 == k then (k, r) :: B else p :: Bx.put k r B
def Bx.drop (k : Nat) : Bx → Bx
  | [] => []
  | p :: B => bif p.1 == k then B else p :: Bx.drop k B
theorem Bx.put_keys (k : Nat) (r : Res) : ∀ B : Bx, (Bx.put k r B).map (·.1) = B.map (·.1)
  | [] => rfl
  | p :: B => by
    unfold Bx.put
    cases h : (p.1 == k) with
    | true => have : p.1 = k := by simpa using h
              simp [this]
    | false => simp [Bx.put_keys k r B]
theorem Bx.mem_put {k : Nat} {r : Res} : ∀ {B : Bx} {x : Nat × Res}, (B.map (·.1)).Nodup → x ∈ Bx.put k r B → x = (k, r) ∨ (x ∈ B ∧ x.1 ≠ k)
  | [], x, _, h => by cases h
  | p :: B, x, hn, h => by
    simp only [List.map_cons, List.nodup_cons] at hn
    unfold Bx.put at h
    cases hp : (p.1 == k) with
    | true =>
      have hpk : p.1 = k := by simpa using hp
      rw [hp] at h
      simp only [cond_true] at h
      rcases List.mem_cons.1 h with h | h
      · exact .inl h
      · refine .inr ⟨List.mem_cons_of_mem _ h, fun e => hn.1 ?_⟩
        rw [hpk, ← e]; exact List.mem_map.2 ⟨x, h, rfl⟩
    | false =>
      have hpk : p.1 ≠ k := by simpa using hp
      rw [hp] at h
      simp only [cond_false] at h
      rcases List.mem_cons.1 h with h | h
      · subst h; exact .inr ⟨by simp, hpk⟩
      · rcases Bx.mem_put hn.2 h with h | ⟨h1, h2⟩
        · exact .inl h
        · exact .inr ⟨List.mem_cons_of_mem _ h1, h2⟩
theorem Bx.mem_drop {k : Nat} : ∀ {B : Bx} {x : Nat × Res}, (B.map (·.1)).Nodup → x ∈ Bx.drop k B → x ∈ B ∧ x.1 ≠ k
  | [], x, _, h => by cases h
  | p :: B, x, hn, h => by
    simp only [List.map_cons, List.nodup_cons] at hn
    unfold Bx.drop at h
    cases hp : (p.1 == k) with
    | true =>
      have hpk : p.1 = k := by simpa using hp
      rw [hp] at h
      simp only [cond_true] at h
      refine ⟨List.mem_cons_of_mem _ h, fun e => hn.1 ?_⟩
      rw [hpk, ← e]; exact List.mem_map.2 ⟨x, h, rfl⟩
    | false =>
      have hpk : p.1 ≠ k := by simpa using hp
      rw [hp] at h
      simp only [cond_false] at h
      rcases List.mem_cons.1 h with h | h
      · subst h; exact ⟨by simp, hpk⟩
      · obtain ⟨h1, h2⟩ := Bx.mem_drop hn.2 h
        exact ⟨List.mem_cons_of_mem _ h1, h2⟩
theorem Bx.drop_nodup (k : Nat) : ∀ {B : Bx}, (B.map (·.1)).Nodup → ((Bx.drop k B).map (·.1)).Nodup
  | [], _ => by simp [Bx.drop]
  | p :: B, hn => by
    have hn' := hn
    simp only [List.map_cons, List.nodup_cons] at hn'
    unfold Bx.drop
    cases hp : (p.1 == k) with
    | true => exact hn'.2
    | false =>
      simp only [cond_false, List.map_cons, List.nodup_cons]
      refine ⟨fun h => ?_, Bx.drop_nodup k hn'.2⟩
      obtain ⟨x, hx, e⟩ := List.mem_map.1 h
      exact hn'.1 (List.mem_map.2 ⟨x, (Bx.mem_drop hn'.2 hx).1, e⟩)
theorem Bx.fresh_spec {k : Nat} : ∀ {B : Bx} {j : Nat} {r : Res}, Bx.fresh k B = true → (j, r) ∈ B → j ≠ k ∧ ∀ cs, r = .cells cs → Cell.freshs k cs = true
  | p :: B, j, r, h, hm => by
    simp only [Bx.fresh, Bool.and_eq_true, bne_iff_ne] at h
    rcases List.mem_cons.1 hm with rfl | hm
    · refine ⟨h.1.1, fun cs e => ?_⟩
      subst e
      exact h.1.2
    · exact Bx.fresh_spec h.2 hm
theorem Res.ok_fresh {M : Mem} {ν ν' : Nu} {w : World} {j k : Nat} (hν : ∀ i, i ≠ k → ν' i = ν i) (hj : j ≠ k) : ∀ {r : Res}, (∀ cs, r = .cells cs → Cell.freshs k cs = true) → r.ok M ν w j → r.ok M ν' w j
  | .cells cs, hf, h => by
    simp only [Res.ok] at h ⊢
    rw [hν j hj]
    obtain ⟨b, c, et, e1, e2, e3⟩ := h
    exact ⟨b, c, et, e1, e2, Cell.reps_fresh hν cs _ (hf cs rfl) e3⟩
  | .row sz rows, hf, h => by
    simp only [Res.ok] at h ⊢
    rw [hν j hj]; exact h
  | .mp ag es, hf, h => by
    simp only [Res.ok] at h ⊢
    rw [hν j hj]; exact h
def Nu.set (ν : Nu) (k : Nat) (m : Nm) : Nu := fun j => if j = k then m else ν j
theorem Nu.set_other {ν : Nu} {k : Nat} {m : Nm} : ∀ j, j ≠ k → ν.set k m j = ν j := fun j h => by simp [Nu.set, h]
theorem Nu.set_self {ν : Nu} {k : Nat} {m : Nm} : ν.set k m k = m := by simp [Nu.set]
theorem Sat.new_box {κ : Kap} {M : Mem} {ν : Nu} {B : Bx} {w : World} {k : Nat} {c : Array Value} {et : TypeId} {cap : Nat} {r : Res} (h : Sat κ M ν B w) (hf : Bx.fresh k B = true)
    (hr : r.ok M (ν.set k ⟨some w.heap.size, cap⟩) { w with heap := w.heap.push (.cells c et) } k) :
    Sat κ M (ν.set k ⟨some w.heap.size, cap⟩) ((k, r) :: B) { w with heap := w.heap.push (.cells c et) } where
  os := h.os
  tape := h.tape
  output := h.output
  dr := h.dr
  size := by simp; have := h.size; omega
  unch := fun b hb hD => by
    rw [← h.unch b hb hD]
    exact push_old (Nat.lt_of_lt_of_le hb h.size)
  fro := fun b x e => push_get (h.fro _ _ e)
  res := fun j q hm => by
    rcases List.mem_cons.1 hm with e | hm
    · cases e; exact hr
    · obtain ⟨hj, hc⟩ := Bx.fresh_spec hf hm
      exact Res.ok_fresh Nu.set_other hj hc (Res.ok_mono (Mem.le.refl M) (fun b x e _ => push_get e) (h.res j q hm))
  away := fun j q b hm hb => by
    rcases List.mem_cons.1 hm with e | hm
    · cases e
      rw [Nu.set_self] at hb
      simp only [Option.some.injEq] at hb
      subst hb
      refine ⟨?_, .inl h.size⟩
      cases hM : M w.heap.size with
      | none => rfl
      | some o => have := h.fro _ _ hM; simp at this
    · obtain ⟨hj, _⟩ := Bx.fresh_spec hf hm
      rw [Nu.set_other j hj] at hb
      exact h.away j q b hm hb
  inj := fun j q j' q' b hm hm' hb hb' => by
    rcases List.mem_cons.1 hm with e | hm <;> rcases List.mem_cons.1 hm' with e' | hm'
    · cases e; cases e'; rfl
    · cases e
      obtain ⟨hj, _⟩ := Bx.fresh_spec hf hm'
      rw [Nu.set_self] at hb
      rw [Nu.set_other j' hj] at hb'
      simp only [Option.some.injEq] at hb
      have := Res.blk_lt (h.res j' q' hm') hb'
      omega
    · cases e'
      obtain ⟨hj, _⟩ := Bx.fresh_spec hf hm
      rw [Nu.set_self] at hb'
      rw [Nu.set_other j hj] at hb
      simp only [Option.some.injEq] at hb'
      have := Res.blk_lt (h.res j q hm) hb
      omega
    · obtain ⟨hj, _⟩ := Bx.fresh_spec hf hm
      obtain ⟨hj', _⟩ := Bx.fresh_spec hf hm'
      rw [Nu.set_other j hj] at hb
      rw [Nu.set_other j' hj'] at hb'
      exact h.inj j q j' q' b hm hm' hb hb'
  nodup := by
    simp only [List.map_cons, List.nodup_cons]
    refine ⟨fun hm => ?_, h.nodup⟩
    obtain ⟨x, hx, e⟩ := List.mem_map.1 hm
    exact (Bx.fresh_spec (j := x.1) (r := x.2) hf hx).1 e
theorem ev_fresh {env : Env} {k : Nat} {ty : TypeId} {x : Operand} {t : T} (hf : Env.fresh k env = true) (h : ev P env ty x = some t) : t.fresh k = true := by
  cases x with
  | tmp d => exact Env.fresh_spec hf (lookup_mem h)
  | const v =>
    simp only [ev, constT] at h
    split at h <;> try (cases h; done)
    · cases h; rfl
    · cases h; rfl
    · cases h; rfl
    · split at h
      · cases h; rfl
      · cases h
  | func f => simp only [ev, Option.some.injEq] at h; subst h; rfl
  | global g => cases h
theorem freshs_map (k : Nat) : ∀ r : List C, Cell.freshs k (r.map .dat) = true
  | [] => rfl
  | c :: r => by simp only [List.map_cons, Cell.freshs, Cell.fresh, Bool.true_and, freshs_map k r]
theorem toCells_fresh {k : Nat} {t : T} {cs : List Cell} (hf : t.fresh k = true) (h : toCells t = some cs) : Cell.freshs k cs = true := by
  cases t with
  | one c => simp only [toCells, Option.some.injEq] at h; subst h; simp only [T.fresh] at hf; simp [Cell.freshs, hf]
  | st r => simp only [toCells, Option.some.injEq] at h; subst h; exact freshs_map k r
  | agg cs' => simp only [toCells, Option.some.injEq] at h; subst h; exact hf
  | tup ts => cases h
  | un => cases h
theorem OpG.of_run {o : Oper} {env : Env} {B B' : Bx} {k : Nat} {t : T}
    (h : ∀ κ M ν a w, EnvOn M ν a env o → Sat κ M ν B w →
      ∃ v w' M' ν', (execOp a.eval o).run P w = .ok (.value v) w' ∧ M.ext κ M' ∧ (∀ j, j ≠ k → ν' j = ν j) ∧ t.rep M' ν' v ∧ Sat κ M' ν' B' w') : OpG P o env B k t B' := by
  intro κ M ν a w he hs
  obtain ⟨v, w', M', ν', hr, hle, hν, ht, hs'⟩ := h κ M ν a w he hs
  unfold Oper.wp
  rw [hr]
  exact ⟨v, M', ν', rfl, hle, hν, ht, hs'⟩
def dstN (o : Oper) : Nat := o.dst.getD 0
def vAlloc (P : Program) (k : Nat) (e : TypeId) (env : Env) (B : Bx) (K : T → Bx → Prop) : Prop :=
  match zeroT P e with
  | some zs => Env.fresh k env = true ∧ Bx.fresh k B = true ∧ K (.one (.ptr k 0)) ((k, .cells (zs.map .dat)) :: B)
  | none => False
theorem vAlloc_sound {e : TypeId} {env : Env} {B : Bx} {o : Oper} {K : T → Bx → Prop} (ho : o.op = .alloc e) (h : vAlloc P (dstN o) e env B K) :
    ∃ t B', OpG P o env B (dstN o) t B' ∧ Env.fresh (dstN o) env = true ∧ K t B' := by
  unfold vAlloc at h
  split at h
  · rename_i zs hz
    obtain ⟨hf, hfB, hK⟩ := h
    obtain ⟨z, hzr, hzm⟩ := zeroT_spec hz
    refine ⟨_, _, OpG.of_run fun κ M ν a w he hs => ?_, hf, hK⟩
    refine ⟨.pointer (some ⟨w.heap.size, 0, none⟩), _, M, ν.set (dstN o) ⟨some w.heap.size, 0⟩, exec_v (s := Instr.alloc e true (.tuple #[])) (by unfold execOp; rw [ho]) ?_, Mem.ext.refl κ M, Nu.set_other, ?_, Sat.new_box (c := z.cells) (et := e) hs hfB ?_⟩
    · simp only [Instr.alloc, Sem.run_bind, hzr, Result.andThen_ok, newVar, newRow, run_newObj, Sem.run_pure]
    · simp only [T.rep, Cell.rep]
      exact ⟨w.heap.size, by rw [Nu.set_self], rfl⟩
    · simp only [Res.ok]
      exact ⟨w.heap.size, z.cells, e, by rw [Nu.set_self], push_new, Cell.reps_map_c.2 (zmatch_spec hzm)⟩
  · exact h.elim
def vBox (P : Program) (k : Nat) (e : TypeId) (x : Option T) (env : Env) (B : Bx) (K : T → Bx → Prop) : Prop :=
  match x with
  | some t => match toCells t with
    | some cs => Env.fresh k env = true ∧ Bx.fresh k B = true ∧ K (.one (.ptr k 0)) ((k, .cells cs) :: B)
    | none => False
  | none => False
theorem vBox_sound {e ty : TypeId} {x : Operand} {env : Env} {B : Bx} {o : Oper} {K : T → Bx → Prop} (ho : o.op = .box e x) (h : vBox P (dstN o) e (ev P env ty x) env B K) :
    ∃ t B', OpG P o env B (dstN o) t B' ∧ Env.fresh (dstN o) env = true ∧ K t B' := by
  have hx : x ∈ o.op.operands := by rw [ho]; simp [Op.operands]
  unfold vBox at h
  split at h
  · rename_i t ex
    split at h
    · rename_i cs hcs
      obtain ⟨hf, hfB, hK⟩ := h
      refine ⟨_, _, OpG.of_run fun κ M ν a w he hs => ?_, hf, hK⟩
      have hrep := cells_of hcs (ev_rep he hx ex)
      refine ⟨.pointer (some ⟨w.heap.size, 0, none⟩), _, M, ν.set (dstN o) ⟨some w.heap.size, 0⟩, exec_v (s := Instr.box e (a.eval x)) (by unfold execOp; rw [ho]) ?_, Mem.ext.refl κ M, Nu.set_other, ?_, Sat.new_box (c := (a.eval x).cells) (et := e) hs hfB ?_⟩
      · simp only [Instr.box, Sem.run_bind, newVar, newRow, run_newObj, Sem.run_pure, Result.andThen_ok]
      · simp only [T.rep, Cell.rep]
        exact ⟨w.heap.size, by rw [Nu.set_self], rfl⟩
      · simp only [Res.ok]
        exact ⟨w.heap.size, _, e, by rw [Nu.set_self], push_new, Cell.reps_fresh Nu.set_other cs _ (toCells_fresh (ev_fresh hf ex) hcs) hrep⟩
    · exact h.elim
  · exact h.elim
def vRowsH (P : Program) (e n : Nat) (env : Env) : Nat → List (Nat × Operand) → Option (List (List C))
  | _, [] => some []
  | k, (i, x) :: rest => bif i == k then (match ev P env e x with
    | some u => match toCells u with
      | some cs => match pureCs cs with
        | some r => bif lenIs n r then (match vRowsH P e n env (k + 1) rest with
          | some rs => some (r :: rs)
          | none => none) else none
        | none => none
      | none => none
    | none => none) else none
theorem vRowsH_sound {e n : Nat} {env : Env} {M : Mem} {ν : Nu} {a : Act} :
    ∀ (parts : List (Nat × Operand)) (k : Nat) (rows : List (List C)) (pre post : List Value), (∀ p ∈ parts, ∀ u, ev P env e p.2 = some u → u.rep M ν (a.eval p.2)) → vRowsH P e n env k parts = some rows →
      pre.length = k * n → post.length = parts.length * n →
      ∃ vs, Instr.fill (fun i => some (i * n, n)) (pre ++ post).toArray (parts.map fun (i, x) => (i, a.eval x)) = some (pre ++ vs).toArray ∧ repRows M n rows vs ∧ rows.length = parts.length
  | [], k, rows, pre, post, _, h, h1, h2 => by
    simp only [vRowsH, Option.some.injEq] at h
    subst h
    have : post = [] := List.length_eq_zero_iff.1 (by simpa using h2)
    subst this
    exact ⟨[], rfl, by simp only [repRows], rfl⟩
  | (i, x) :: rest, k, rows, pre, post, he, h, h1, h2 => by
    simp only [vRowsH] at h
    cases hik : (i == k) with
    | false => rw [hik] at h; cases h
    | true =>
      rw [hik] at h
      simp only [cond_true] at h
      have hik' : i = k := by simpa using hik
      subst hik'
      split at h
      · rename_i u hu
        split at h
        · rename_i cs hcs
          split at h
          · rename_i r hr
            cases hl : lenIs n r with
            | false => rw [hl] at h; cases h
            | true =>
              rw [hl] at h
              simp only [cond_true] at h
              split at h
              · rename_i rs hrs
                simp only [Option.some.injEq] at h
                subst h
                have hrep := cells_of hcs (he (i, x) (by simp) u hu)
                rw [pureCs_spec hr] at hrep
                have hrow := Cell.reps_map_c.1 hrep
                have hrl := lenIs_spec hl
                have hvl : (a.eval x).cells.size = n := by rw [← Array.length_toList, repRow_length hrow]; exact hrl
                have hpl : post.length = n + rest.length * n := by rw [h2, List.length_cons, Nat.add_mul, Nat.one_mul]; omega
                have hpost : post = post.take n ++ post.drop n := (List.take_append_drop n post).symm
                have step := fill_step (place := fun i => some (i * n, n)) (cells := (pre ++ post).toArray) (i := i) (off := i * n) (n := n) (v := a.eval x) (rest := rest.map fun (i, x) => (i, a.eval x)) (pre := pre) (mid := post.take n) (post := post.drop n)
                  rfl hvl (by rw [← hpost]) h1 (by rw [List.length_take]; omega)
                obtain ⟨vs, hf, hrs', hlen⟩ := vRowsH_sound rest (i + 1) rs (pre ++ (a.eval x).cells.toList) (post.drop n) (fun p hp => he p (List.mem_cons_of_mem _ hp)) hrs
                  (by rw [List.length_append, h1, Array.length_toList, hvl, Nat.add_mul, Nat.one_mul]) (by rw [List.length_drop, hpl]; omega)
                refine ⟨(a.eval x).cells.toList ++ vs, ?_, ?_, by simp [hlen]⟩
                · rw [List.map_cons, step, ← List.append_assoc, hf, List.append_assoc]
                · simp only [repRows]
                  exact ⟨_, vs, rfl, hrl, hrow, hrs'⟩
              · cases h
          · cases h
        · cases h
      · cases h
def vBuildArr (P : Program) (k : Nat) (t : TypeId) (len : Nat) (env : Env) (parts : List (Nat × Operand)) (B : Bx) (K : T → Bx → Prop) : Prop :=
  match bsT P t with
  | some (e, n) => match vRowsH P e n env 0 parts with
    | some rows => lenIs len parts = true ∧ len * n ≤ 16777216 ∧ Env.fresh k env = true ∧ Bx.fresh k B = true ∧ K (.one (.arr k len)) ((k, .cells (rows.flatten.map .dat)) :: B)
    | none => False
  | none => False
theorem repRows_flat_row {M : Mem} {sz : Nat} : ∀ {rows : List (List C)} {vs : List Value}, repRows M sz rows vs → repRow M rows.flatten vs
  | [], vs, h => by simp only [repRows] at h; simp only [List.flatten_nil, repRow]; exact h
  | r :: rows, vs, h => by
    simp only [repRows] at h
    obtain ⟨v1, v2, e, _, h1, h2⟩ := h
    rw [e, List.flatten_cons]
    exact repRow_append h1 (repRows_flat_row h2)
theorem vBuildArr_sound {t : TypeId} {len : Nat} {parts : List (Nat × Operand)} {env : Env} {B : Bx} {o : Oper} {K : T → Bx → Prop} (ho : o.op = .buildSlice t len parts.toArray)
    (h : vBuildArr P (dstN o) t len env parts B K) : ∃ t B', OpG P o env B (dstN o) t B' ∧ Env.fresh (dstN o) env = true ∧ K t B' := by
  have hex : ∀ (a : Act), execOp a.eval o = (do pure (.value (← Instr.buildSlice t len (parts.map fun (i, x) => (i, a.eval x)).toArray))) := by
    intro a; unfold execOp; rw [ho]; simp
  unfold vBuildArr at h
  split at h
  · rename_i e n hbs
    obtain ⟨hu, hsz, ⟨z, hz, hzs⟩, hn0⟩ := bsT_spec hbs
    split at h
    · rename_i rows hr
      obtain ⟨hlen, hbound, hf, hfB, hK⟩ := h
      have hpl := lenIs_spec hlen
      refine ⟨_, _, OpG.of_run fun κ M ν ac w he hs => ?_, hf, hK⟩
      have hops : ∀ p ∈ parts, ∀ u, ev P env e p.2 = some u → u.rep M ν (ac.eval p.2) := by
        intro p hp u hu
        refine ev_rep he ?_ hu
        rw [ho]
        simp only [Op.operands]
        simp
        exact ⟨p.1, by cases p; exact hp⟩
      let zero : Array Value := if len * n = 0 then #[] else z.cells
      let start : List Value := ((Array.range (len * n)).map (zero[· % zero.size]!)).toList
      have hstart : start.length = parts.length * n := by simp [start, hpl]
      obtain ⟨vs, hfl, hrows, hrl⟩ := vRowsH_sound (a := ac) parts 0 rows [] start hops hr (by simp) hstart
      refine ⟨.slice (some ⟨w.heap.size, 0, none⟩) len len, _, M, ν.set (dstN o) ⟨some w.heap.size, 0⟩, exec_v (hex ac) ?_, Mem.ext.refl κ M, Nu.set_other, ?_, hs.new_box (c := vs.toArray) (et := e) hfB ?_⟩
      · have hle : ¬ len * n > 2 ^ 24 := by omega
        have hf' : Instr.fill (fun i => some (i * n, n)) ((Array.range (len * n)).map (zero[· % zero.size]!)) (parts.map fun (i, x) => (i, ac.eval x)) = some vs.toArray := by
          have e1 : ((Array.range (len * n)).map (zero[· % zero.size]!)) = ([] ++ start).toArray := by simp only [start, List.nil_append, Array.toArray_toList]
          rw [e1, hfl]; simp
        unfold Instr.buildSlice
        by_cases h0 : len * n = 0
        · have hz0 : zero = #[] := by simp only [zero, h0, if_true]
          rw [hz0] at hf'
          rw [h0] at hf' hle
          simp only [Sem.run_bind, run_underlying hu, Result.andThen_ok, run_sz hsz, hle, if_false, Sem.run_pure, h0, if_true, hf', newRow, run_newObj]
        · have hz0 : zero = z.cells := by simp only [zero, h0, if_false]
          rw [hz0] at hf'
          simp only [Sem.run_bind, run_underlying hu, Result.andThen_ok, run_sz hsz, hle, if_false, Sem.run_pure, h0, hz, hf', newRow, run_newObj]
      · simp only [T.rep, Cell.rep]
        exact ⟨w.heap.size, by rw [Nu.set_self], rfl⟩
      · simp only [Res.ok]
        exact ⟨w.heap.size, vs.toArray, e, by rw [Nu.set_self], push_new, Cell.reps_map_c.2 (by simpa using repRows_flat_row hrows)⟩
    · exact h.elim
  · exact h.elim
def vBuildRow (P : Program) (k : Nat) (t : TypeId) (len : Nat) (env : Env) (parts : List (Nat × Operand)) (B : Bx) (K : T → Bx → Prop) : Prop :=
  match bsT P t with
  | some (e, n) => match vRows P e n env 0 parts with
    | some rows => lenIs len parts = true ∧ len * n ≤ 16777216 ∧ Env.fresh k env = true ∧ Bx.fresh k B = true ∧ K (.one (.own k len)) ((k, .row n rows) :: B)
    | none => False
  | none => False
theorem vBuildRow_sound {t : TypeId} {len : Nat} {parts : List (Nat × Operand)} {env : Env} {B : Bx} {o : Oper} {K : T → Bx → Prop} (ho : o.op = .buildSlice t len parts.toArray)
    (h : vBuildRow P (dstN o) t len env parts B K) : ∃ t B', OpG P o env B (dstN o) t B' ∧ Env.fresh (dstN o) env = true ∧ K t B' := by
  have hex : ∀ (a : Act), execOp a.eval o = (do pure (.value (← Instr.buildSlice t len (parts.map fun (i, x) => (i, a.eval x)).toArray))) := by
    intro a; unfold execOp; rw [ho]; simp
  unfold vBuildRow at h
  split at h
  · rename_i e n hbs
    obtain ⟨hu, hsz, ⟨z, hz, hzs⟩, hn0⟩ := bsT_spec hbs
    split at h
    · rename_i rows hr
      obtain ⟨hlen, hbound, hf, hfB, hK⟩ := h
      have hpl := lenIs_spec hlen
      refine ⟨_, _, OpG.of_run fun κ M ν ac w he hs => ?_, hf, hK⟩
      have hops : ∀ p ∈ parts, ∀ u, softO (ev P env e p.2) = some u → u.rep M ν (ac.eval p.2) := by
        intro p hp u hu
        refine softO_rep he ?_ hu
        rw [ho]
        simp only [Op.operands]
        simp
        exact ⟨p.1, by cases p; exact hp⟩
      let zero : Array Value := if len * n = 0 then #[] else z.cells
      let start : List Value := ((Array.range (len * n)).map (zero[· % zero.size]!)).toList
      have hstart : start.length = parts.length * n := by simp [start, hpl]
      obtain ⟨vs, hfl, hrows, hrl⟩ := vRows_sound (a := ac) parts 0 rows [] start hops hr (by simp) hstart
      refine ⟨.slice (some ⟨w.heap.size, 0, none⟩) len len, _, M, ν.set (dstN o) ⟨some w.heap.size, len⟩, exec_v (hex ac) ?_, Mem.ext.refl κ M, Nu.set_other, ?_, hs.new_box (c := vs.toArray) (et := e) hfB ?_⟩
      · have hle : ¬ len * n > 2 ^ 24 := by omega
        have hf' : Instr.fill (fun i => some (i * n, n)) ((Array.range (len * n)).map (zero[· % zero.size]!)) (parts.map fun (i, x) => (i, ac.eval x)) = some vs.toArray := by
          have e1 : ((Array.range (len * n)).map (zero[· % zero.size]!)) = ([] ++ start).toArray := by simp only [start, List.nil_append, Array.toArray_toList]
          rw [e1, hfl]; simp
        unfold Instr.buildSlice
        by_cases h0 : len * n = 0
        · have hz0 : zero = #[] := by simp only [zero, h0, if_true]
          rw [hz0] at hf'
          rw [h0] at hf' hle
          simp only [Sem.run_bind, run_underlying hu, Result.andThen_ok, run_sz hsz, hle, if_false, Sem.run_pure, h0, if_true, hf', newRow, run_newObj]
        · have hz0 : zero = z.cells := by simp only [zero, h0, if_false]
          rw [hz0] at hf'
          simp only [Sem.run_bind, run_underlying hu, Result.andThen_ok, run_sz hsz, hle, if_false, Sem.run_pure, h0, hz, hf', newRow, run_newObj]
      · simp only [T.rep, Cell.rep]
        rw [Nu.set_self]; rfl
      · simp only [Res.ok, Nu.set_self]
        have hlr : rows.length = len := by rw [hrl, hpl]
        refine ⟨Nat.le_of_eq hlr, ?_, .inr ⟨w.heap.size, vs.toArray, e, vs, [], rfl, push_new, by simp, hrows, ?_⟩⟩
        · show len ≤ maxLen
          have h1 : len * 1 ≤ len * n := Nat.mul_le_mul_left len (Nat.pos_of_ne_zero hn0)
          unfold maxLen; omega
        · have hvl := repRows_length hrows
          simp only [List.size_toArray]
          rw [hvl, hlr]
    · exact h.elim
  · exact h.elim
def vBuildOwn (P : Program) (k : Nat) (t : TypeId) (len : Nat) (env : Env) (parts : List (Nat × Operand)) (B : Bx) (K : T → Bx → Prop) : Prop :=
  vBuildArr P k t len env parts B K ∨ vBuildRow P k t len env parts B K
theorem vBuildOwn_sound {t : TypeId} {len : Nat} {parts : List (Nat × Operand)} {env : Env} {B : Bx} {o : Oper} {K : T → Bx → Prop} (ho : o.op = .buildSlice t len parts.toArray)
    (h : vBuildOwn P (dstN o) t len env parts B K) : ∃ t B', OpG P o env B (dstN o) t B' ∧ Env.fresh (dstN o) env = true ∧ K t B' := by
  rcases h with h | h
  · exact vBuildArr_sound ho h
  · exact vBuildRow_sound ho h
theorem C.rep_oneCell {M : Mem} {c : C} {v : Value} (h : c.rep M v) : v.oneCell' = true := by
  cases c <;> simp only [C.rep] at h
  case sl => obtain ⟨_, _, _, e, _⟩ := h; subst e; rfl
  case fnc => obtain ⟨_, e, _⟩ := h; subst e; rfl
  all_goals subst h; rfl
theorem Cell.rep_oneCell {M : Mem} {ν : Nu} {c : Cell} {v : Value} (h : c.rep M ν v) : v.oneCell' = true := by
  cases c <;> simp only [Cell.rep] at h
  case dat c => exact C.rep_oneCell h
  case ptr => obtain ⟨_, _, e⟩ := h; subst e; rfl
  case own => subst h; rfl
  case rp => obtain ⟨_, _, e⟩ := h; subst e; rfl
  case arr => obtain ⟨_, _, e⟩ := h; subst e; rfl
  case ref => obtain ⟨_, _, _, e, _⟩ := h; subst e; rfl
  case clo => obtain ⟨_, e, _⟩ := h; subst e; rfl
  case mp => obtain ⟨_, _, e⟩ := h; subst e; rfl
theorem Cell.reps_oneCell {M : Mem} {ν : Nu} : ∀ {cs : List Cell} {vs : List Value}, Cell.reps M ν cs vs → ∀ v ∈ vs, v.oneCell' = true
  | [], vs, h, v, hv => by simp only [Cell.reps] at h; subst h; cases hv
  | c :: cs, vs, h, v, hv => by
    simp only [Cell.reps] at h
    obtain ⟨u, vs', e, h1, h2⟩ := h
    subst e
    rcases List.mem_cons.1 hv with rfl | hv
    · exact Cell.rep_oneCell h1
    · exact Cell.reps_oneCell h2 v hv
theorem run_storeAt (b off : Nat) (et : TypeId) : ∀ (vs : List Value) (i : Nat) (c : Array Value) (w : World) (pre mid post : List Value), w.heap[b]? = some (.cells c et (0, 0)) → c.toList = pre ++ (mid ++ post) → pre.length = off + i → mid.length = vs.length → (∀ v ∈ vs, v.oneCell' = true) →
    (storeCells ⟨b, off, none⟩ vs i).run P w = .ok () (w.setRow b (pre ++ (vs ++ post)).toArray)
  | [], i, c, w, pre, mid, post, hg, hc, h1, h2, _ => by
    have : mid = [] := List.length_eq_zero_iff.1 h2
    subst this
    have hc' : (pre ++ ([] ++ post)).toArray = c := by rw [← hc]
    rw [hc']
    simp only [storeCells]
    show Result.ok () w = _
    congr 1
    have hlt : b < w.heap.size := (Array.getElem?_eq_some_iff.1 hg).1
    have hv : w.heap[b] = .cells c et (0, 0) := (Array.getElem?_eq_some_iff.1 hg).2
    unfold World.setRow
    cases w with
    | mk heap tape drawn os output =>
      congr 1
      apply Array.ext
      · simp
      · intro k h1 h2
        simp only [Array.getElem_modify]
        split
        · rename_i hk; subst hk; simp at hv; simp [hv]
        · rfl
  | v :: rest, i, c, w, pre, mid, post, hg, hc, h1, h2, hone => by
    cases mid with
    | nil => simp at h2
    | cons m mid =>
      have hcell : w.cell? ⟨b, off + i, none⟩ = some m := by
        have : c[off + i]? = some m := by
          rw [← Array.getElem?_toList, hc, ← h1, List.getElem?_append_right (Nat.le_refl _)]; simp
        simp [World.cell?, hg, this]
      have hfro : w.frozen? ⟨b, off + i, none⟩ = false := by simp [World.frozen?, hg]
      have hst : (store ((⟨b, off, none⟩ : Addr).add i) v).run P w = .ok () (w.setRow b (c.setIfInBounds (off + i) v)) := by
        rw [addr_add, run_store P w _ v _ (hone v (by simp)), hcell]
        simp [hfro, setCell_eq_setRow w b (off + i) c et (0, 0) v hg]
      have hc2 : (c.setIfInBounds (off + i) v).toList = (pre ++ [v]) ++ (mid ++ post) := by
        rw [Array.toList_setIfInBounds, hc, ← h1]; simp
      have ih := run_storeAt b off et rest (i + 1) (c.setIfInBounds (off + i) v) (w.setRow b (c.setIfInBounds (off + i) v)) (pre ++ [v]) mid post (setRow_heap w b c _ et _ hg) hc2 (by simp [h1]; omega) (by simpa using h2) (fun x hx => hone x (by simp [hx]))
      simp only [storeCells, Sem.run_bind, hst, Result.andThen_ok, ih, setRow_setRow]
      simp
theorem Sat.write {κ : Kap} {M : Mem} {ν : Nu} {B : Bx} {w : World} {k b : Nat} {r r' : Res} {c' : Array Value} (h : Sat κ M ν B w) (hk : (k, r) ∈ B) (hb : (ν k).blk = some b)
    (hr : r'.ok M ν (w.setRow b c') k) : Sat κ M ν (Bx.put k r' B) (w.setRow b c') where
  os := h.os
  tape := h.tape
  output := h.output
  dr := h.dr
  size := by simp; exact h.size
  unch := fun d hd hD => by
    rw [← h.unch d hd hD]
    refine setRow_other w b d c' (fun e => ?_)
    subst e
    rcases (h.away k r d hk hb).2 with h2 | h2
    · omega
    · exact hD h2.2
  fro := fun d x e => by
    rw [setRow_other w b d c' (fun e2 => ?_)]
    · exact h.fro _ _ e
    · subst e2; rw [(h.away k r d hk hb).1] at e; cases e
  res := fun j q hm => by
    rcases Bx.mem_put h.nodup hm with e | ⟨hm, hj⟩
    · cases e; exact hr
    · refine Res.ok_mono (Mem.le.refl M) (fun d x e hd => ?_) (h.res j q hm)
      rw [setRow_other w b d c' (fun e2 => ?_)]
      · exact e
      · subst e2; exact hj (h.inj j q k r d hm hk hd hb)
  away := fun j q d hm hd => by
    rcases Bx.mem_put h.nodup hm with e | ⟨hm, hj⟩
    · cases e; exact h.away k r d hk hd
    · exact h.away j q d hm hd
  inj := fun j q j' q' d hm hm' hd hd' => by
    have f : ∀ i p, (i, p) ∈ Bx.put k r' B → ∃ p', (i, p') ∈ B := by
      intro i p hp
      rcases Bx.mem_put h.nodup hp with e | ⟨hp, _⟩
      · cases e; exact ⟨r, hk⟩
      · exact ⟨p, hp⟩
    obtain ⟨p, hp⟩ := f j q hm
    obtain ⟨p', hp'⟩ := f j' q' hm'
    exact h.inj j p j' p' d hp hp' hd hd'
  nodup := by rw [Bx.put_keys]; exact h.nodup
def vStore (P : Program) (t : TypeId) (x y : Option T) (B : Bx) (K : Bx → Prop) : Prop :=
  match szT P t, y with
  | some n, some u => match toCells u with
    | some part => match x with
      | some (.one (.ptr k off)) => match B.lookup k with
        | some (.cells cs) => match cutC off cs with
          | some (pre, z) => match cutC n z with
            | some (_, post) => lenIs n part = true ∧ K (Bx.put k (.cells (pre ++ (part ++ post))) B)
            | none => False
          | none => False
        | _ => False
      | some (.one (.rp k sz i f)) => match B.lookup k with
        | some (.row sz' rows) => sz' = sz ∧ ∃ r, rows[i]? = some r ∧ (match cutC f r with
          | some (pre, z) => match cutC n z with
            | some (_, post) => match pureCs (part.map Cell.soft) with
              | some p => lenIs n part = true ∧ K (Bx.put k (.row sz (rows.set i (pre ++ (p ++ post)))) B)
              | none => False
            | none => False
          | none => False)
        | _ => False
      | _ => False
    | none => False
  | _, _ => False
theorem OpE.of_skip {o : Oper} {env : Env} {B B' : Bx}
    (h : ∀ κ M ν a w, EnvOn M ν a env o → Sat κ M ν B w → ∃ w', (execOp a.eval o).run P w = .ok .skip w' ∧ Sat κ M ν B' w') : OpE P o env B undefT B' := by
  intro κ M ν a w he hs
  obtain ⟨w', hr, hs'⟩ := h κ M ν a w he hs
  unfold Oper.wp
  rw [hr]
  exact ⟨undef, M, rfl, Mem.ext.refl κ M, by simp [undefT, T.rep, Cell.rep, C.rep], hs'⟩
theorem lenIs_map {n : Nat} {l : List Cell} (h : lenIs n l = true) : (l.map Cell.soft).length = n := by rw [List.length_map]; exact lenIs_spec h
theorem vStore_sound {t tx : TypeId} {x y : Operand} {env : Env} {B : Bx} {o : Oper} {K : Bx → Prop} (ho : o.op = .store t x y) (h : vStore P t (ev P env tx x) (ev P env t y) B K) :
    ∃ B', OpE P o env B undefT B' ∧ K B' := by
  have hx : x ∈ o.op.operands := by rw [ho]; simp [Op.operands]
  have hy : y ∈ o.op.operands := by rw [ho]; simp [Op.operands]
  have hex : ∀ (a : Act) (w w' : World), (Instr.storeAt t (a.eval x) (a.eval y)).run P w = .ok () w' → (execOp a.eval o).run P w = .ok .skip w' := by
    intro a w w' h
    unfold execOp; rw [ho]
    simp only [Sem.run_bind, h, Result.andThen_ok, Sem.run_pure]
  unfold vStore at h
  split at h
  · rename_i n u hsz ey
    split at h
    · rename_i part hpart
      split at h
      · rename_i k off ex
        split at h
        · rename_i cs hb
          split at h
          · rename_i pre z hc1
            split at h
            · rename_i old post hc2
              obtain ⟨hl, hK⟩ := h
              obtain ⟨e1, l1⟩ := cutC_spec hc1
              obtain ⟨e2, l2⟩ := cutC_spec hc2
              refine ⟨_, OpE.of_skip fun κ M ν a w he hs => ?_, hK⟩
              have hrep := cells_of hpart (ev_rep he hy ey)
              have hr := ev_rep he hx ex
              simp only [T.rep, Cell.rep] at hr
              obtain ⟨b, hb1, ep⟩ := hr
              have hres := hs.res k _ (lookup_box hb)
              simp only [Res.ok] at hres
              obtain ⟨b', c, et, hb2, hheap, hreps⟩ := hres
              rw [hb1] at hb2; cases hb2
              rw [e1, e2] at hreps
              obtain ⟨w1, w23, ew, hw1, hw23⟩ := Cell.reps_split hreps
              obtain ⟨w2, w3, ew2, hw2, hw3⟩ := Cell.reps_split hw23
              have hvl : (a.eval y).cells.size = n := by rw [← Array.length_toList, Cell.reps_length hrep]; exact lenIs_spec hl
              have hst := run_storeAt (P := P) b off et (a.eval y).cells.toList 0 c w w1 w2 w3 hheap (by rw [ew, ew2]) (by rw [Cell.reps_length hw1, l1]; rfl) (by rw [Cell.reps_length hw2, l2, Array.length_toList, hvl]) (Cell.reps_oneCell hrep)
              refine ⟨w.setRow b (w1 ++ ((a.eval y).cells.toList ++ w3)).toArray, hex a w _ ?_, hs.write (lookup_box hb) hb1 ?_⟩
              · rw [ep]
                simp only [Instr.storeAt, Instr.sureAddr, Sem.run_bind, Sem.run_pure, Result.andThen_ok, storeVar, run_sz hsz, hvl, ne_eq, not_true_eq_false, if_false, hst]
              · simp only [Res.ok]
                refine ⟨b, _, et, hb1, setRow_heap w b c _ et _ hheap, ?_⟩
                simpa using Cell.reps_append hw1 (Cell.reps_append hrep hw3)
            · exact h.elim
          · exact h.elim
        · exact h.elim
      · rename_i k sz i f ex
        split at h
        · rename_i sz' rows hb
          obtain ⟨rfl, r, hi, h⟩ := h
          split at h
          · rename_i pre z hc1
            split at h
            · rename_i old post hc2
              split at h
              · rename_i p hp
                obtain ⟨hl, hK⟩ := h
                obtain ⟨e1, l1⟩ := cutC_spec hc1
                obtain ⟨e2, l2⟩ := cutC_spec hc2
                refine ⟨_, OpE.of_skip fun κ M ν a w he hs => ?_, hK⟩
                have hrep := cells_of hpart (ev_rep he hy ey)
                have hrepS := Cell.reps_soft hrep
                rw [pureCs_spec hp] at hrepS
                have hrow' := Cell.reps_map_c.1 hrepS
                have hr := ev_rep he hx ex
                simp only [T.rep, Cell.rep] at hr
                obtain ⟨b, hb1, ep⟩ := hr
                have hres := hs.res k _ (lookup_box hb)
                simp only [Res.ok] at hres
                obtain ⟨hcap1, hcap2, hres⟩ := hres
                rcases hres with ⟨hnone, _⟩ | ⟨b', c, et, mid, spare, hb2, hheap, htl, hrows, hcs⟩
                · rw [hb1] at hnone; cases hnone
                · rw [hb1] at hb2; cases hb2
                  have hlt := (List.getElem?_eq_some_iff.1 hi).1
                  have hri : rows[i] = r := (List.getElem?_eq_some_iff.1 hi).2
                  have hsplit : rows = rows.take i ++ (r :: rows.drop (i + 1)) := by
                    rw [← hri, ← List.drop_eq_getElem_cons hlt, List.take_append_drop]
                  rw [hsplit] at hrows
                  obtain ⟨u1, u23, eu, hu1, hu23⟩ := repRows_split hrows
                  simp only [repRows] at hu23
                  obtain ⟨u2, u3, eu2, hrl, hrow, hu3⟩ := hu23
                  rw [e1, e2] at hrow
                  obtain ⟨w1, w23, ew, hw1, hw23⟩ := repRow_split hrow
                  obtain ⟨w2, w3, ew2, hw2, hw3⟩ := repRow_split hw23
                  have hvl : (a.eval y).cells.size = n := by rw [← Array.length_toList, Cell.reps_length hrep]; exact lenIs_spec hl
                  have hu1l : u1.length = i * sz' := by rw [repRows_length hu1, List.length_take, Nat.min_eq_left (by omega)]
                  have hst := run_storeAt (P := P) b (i * sz' + f) et (a.eval y).cells.toList 0 c w (u1 ++ w1) w2 (w3 ++ (u3 ++ spare)) hheap (by rw [htl, eu, eu2, ew, ew2]; simp) (by rw [List.length_append, hu1l, repRow_length hw1, l1]; rfl) (by rw [repRow_length hw2, l2, Array.length_toList, hvl]) (Cell.reps_oneCell hrep)
                  have hplen : p.length = n := by rw [← List.length_map (f := Cell.dat), ← pureCs_spec hp]; exact lenIs_map hl
                  have hnewrow : rows.set i (pre ++ (p ++ post)) = rows.take i ++ ((pre ++ (p ++ post)) :: rows.drop (i + 1)) := List.set_eq_take_append_cons_drop .. |>.trans (by rw [if_pos hlt])
                  have hnr : (pre ++ (p ++ post)).length = sz' := by
                    rw [← hrl, e1, e2]
                    simp only [List.length_append, hplen, l2]
                  refine ⟨w.setRow b ((u1 ++ w1) ++ ((a.eval y).cells.toList ++ (w3 ++ (u3 ++ spare)))).toArray, hex a w _ ?_, hs.write (lookup_box hb) hb1 ?_⟩
                  · rw [ep]
                    simp only [Instr.storeAt, Instr.sureAddr, Sem.run_bind, Sem.run_pure, Result.andThen_ok, storeVar, run_sz hsz, hvl, ne_eq, not_true_eq_false, if_false, hst]
                  · simp only [Res.ok]
                    refine ⟨by rw [List.length_set]; exact hcap1, hcap2, .inr ⟨b, _, et, u1 ++ (w1 ++ ((a.eval y).cells.toList ++ w3) ++ u3), spare, hb1, setRow_heap w b c _ et _ hheap, by simp, ?_, ?_⟩⟩
                    · rw [hnewrow]
                      refine repRows_append hu1 ?_
                      simp only [repRows]
                      exact ⟨_, u3, rfl, hnr, repRow_append hw1 (repRow_append hrow' hw3), hu3⟩
                    · rw [← hcs, ← Array.length_toList (xs := c), htl, eu, eu2, ew, ew2]
                      simp only [List.size_toArray, List.length_append, Array.length_toList, hvl, repRow_length hw2, l2]
                      omega
              · exact h.elim
            · exact h.elim
          · exact h.elim
        · exact h.elim
      · exact h.elim
    · exact h.elim
  · exact h.elim
theorem growBy_le (need : Nat) : ∀ (r c : Nat), c ≤ need → Builtin.growBy need r c ≤ need + (need + 768) / 4
  | 0, c, h => by unfold Builtin.growBy; omega
  | r + 1, c, h => by
    unfold Builtin.growBy
    split
    · omega
    · by_cases hc : c + (c + 768) / 4 ≤ need
      · exact growBy_le need r _ hc
      · have : ∀ r, Builtin.growBy need r (c + (c + 768) / 4) = c + (c + 768) / 4 := by
          intro r
          cases r with
          | zero => rfl
          | succ r => unfold Builtin.growBy; rw [if_pos (by omega)]
        rw [this]; omega
theorem nextcap_le {need cap : Nat} (h : cap < need) : Builtin.nextslicecap need cap ≤ 2 * need + 192 := by
  unfold Builtin.nextslicecap
  split
  · omega
  · split
    · omega
    · have := growBy_le need 4 cap (by omega); omega
def byT (P : Program) (t : TypeId) : Option Nat :=
  match P.underlying t with
  | some (.slice e) => (P.info? e).map (·.bytes)
  | _ => none
theorem byT_spec {t e n : Nat} (h : byT P t = some n) (hu : P.underlying t = some (.slice e)) : ∃ i, P.info? e = some i ∧ i.bytes = n := by
  unfold byT at h
  rw [hu] at h
  simp only [] at h
  cases hi : P.info? e with
  | none => simp [hi] at h
  | some i => exact ⟨i, rfl, by simpa [hi] using h⟩
def srcRows (n : Nat) (x : Option T) : Option (List (List C)) :=
  match x with
  | some (.one (.dat (.sl n' ys))) => bif n' == n then some ys else none
  | some (.one (.dat (.str l))) => bif n == 1 then some (l.map fun b => [.int .u8 b.toNat]) else none
  | _ => none
theorem firstCells_at {w : World} {b off : Nat} {vs : List Value} {n m cap : Nat} (h : At (w.heap[b]?) off vs) (hl : vs.length = m * n) {k : Nat} : (Builtin.firstCells n m (.slice (some ⟨b, off, none⟩) k cap)).run P w = .ok vs.toArray w := by
  unfold Builtin.firstCells
  rw [← hl]
  exact h.load
theorem repRows_bytes {M : Mem} : ∀ l : List UInt8, repRows M 1 (l.map fun b => [C.int .u8 b.toNat]) (l.map fun b => Value.int .u8 b.toNat)
  | [] => by simp only [List.map_nil, repRows]
  | b :: l => by
    simp only [List.map_cons, repRows]
    exact ⟨[.int .u8 b.toNat], _, rfl, rfl, by simp only [repRow, C.rep]; exact ⟨_, [], rfl, rfl, rfl⟩, repRows_bytes l⟩
theorem src_run {M : Mem} {ν : Nu} {n : Nat} {x : T} {v : Value} {ys : List (List C)} (h : srcRows n (some x) = some ys) (hr : x.rep M ν v) :
    ∃ new : List Value, repRows M n ys new ∧ ∀ w : World, (∀ b o, M b = some o → w.heap[b]? = some o) → (Builtin.lenOf v).run P w = .ok ys.length w ∧ (Builtin.firstCells n ys.length v).run P w = .ok new.toArray w := by
  unfold srcRows at h
  split at h
  · rename_i n' ys' e
    cases hn : (n' == n) with
    | false => rw [hn] at h; cases h
    | true =>
      have hn' : n' = n := by simpa using hn
      subst hn'
      simp only [hn, cond_true, Option.some.injEq] at h e
      subst h; subst e
      simp only [T.rep, Cell.rep, C.rep] at hr
      obtain ⟨a, cap, mid, ev, hc1, hc2, hrows, hor⟩ := hr
      refine ⟨mid, hrows, fun w hf => ⟨by rw [ev]; rfl, ?_⟩⟩
      rw [ev]
      rcases hor with hnil | ⟨b, off, ea, hat⟩
      · subst hnil
        simp only [repRows] at hrows
        subst hrows
        cases a with
        | none => rfl
        | some a => simp [Builtin.firstCells, loadCells, loadCellsFrom]
      · rw [ea]
        refine firstCells_at ?_ (repRows_length hrows)
        obtain ⟨c, et, fz, pre, post, e, e2, e3⟩ := hat
        exact ⟨c, et, fz, pre, post, hf _ _ e, e2, e3⟩
  · rename_i l e
    cases hn : (n == 1) with
    | false => rw [hn] at h; cases h
    | true =>
      have hn' : n = 1 := by simpa using hn
      subst hn'
      simp only [hn, cond_true, Option.some.injEq] at h e
      subst h; subst e
      have ev := rep_str.1 hr
      refine ⟨l.map fun b => .int .u8 b.toNat, repRows_bytes l, fun w hf => ⟨?_, ?_⟩⟩
      · rw [ev]; simp [Builtin.lenOf, size_mk]
      · rw [ev]
        simp only [Builtin.firstCells, Sem.run_pure, List.length_map]
        congr 1
        have : (ByteArray.mk l.toArray).extract 0 l.length = ByteArray.mk l.toArray := by
          rw [extract_mk]; simp
        rw [this]
        simp
  · cases h
def notInt (P : Program) (t : TypeId) : Bool :=
  match kdT P t with
  | some .other => true
  | some .str => true
  | _ => false
theorem notInt_run {t : TypeId} (h : notInt P t = true) (w : World) : ∃ d, (underlying t).run P w = .ok d w ∧ (d matches .int _) = false := by
  unfold notInt at h
  split at h
  · rename_i hk
    unfold kdT at hk
    split at hk <;> try (cases hk; done)
    rename_i d _ _ _ hu
    refine ⟨d, run_underlying hu w, ?_⟩
    cases d <;> first | rfl | (rename_i hni _ _; exact absurd rfl (hni _))
  · rename_i hk
    exact ⟨_, run_underlying (kdT_str hk) w, rfl⟩
  · cases h
theorem zeroCells_size (z : Array Value) (k : Nat) : (Builtin.zeroCells z k).size = k * z.size := by simp [Builtin.zeroCells]
theorem append_run {t1 t2 e n by_ : Nat} {i : TypeInfo} (hu : P.underlying t1 = some (.slice e)) (hsz : szT P e = some n) (hi : P.info? e = some i) (hby : i.bytes = by_) {z : Value} (hz : ∀ w, (zeroValue e).run P w = .ok z w) (hzs : z.cells.size = n)
    (hn2 : notInt P t2 = true) {ty : TypeId} {base : Option Addr} {sLen sCap : Nat} {x : Value} {m : Nat} {new old : List Value} {w : World} (hlen : (Builtin.lenOf x).run P w = .ok m w) (hm : sLen + m ≤ maxLen) (hroom : (2 * (sLen + m) + 192) * by_ ≤ 281474976710656)
    (hnew : ∀ d, (Builtin.firstCells n m x).run P { w with drawn := d } = .ok new.toArray { w with drawn := d }) (hold : ∀ d, (Builtin.firstCells n sLen (.slice base sLen sCap)).run P { w with drawn := d } = .ok old.toArray { w with drawn := d }) (hb0 : 0 < by_) :
    (sLen + m ≤ sCap → (match base with | some a => (storeCells (a.add (sLen * n)) new).run P w | none => .ok () w) = .ok () w → (Builtin.append_ #[t1, t2] ty #[.slice base sLen sCap, x]).run P w = .ok (.slice base (sLen + m) sCap) w) ∧
    (∀ w', sLen + m ≤ sCap → (match base with | some a => (storeCells (a.add (sLen * n)) new).run P w | none => .ok () w) = .ok () w' → (Builtin.append_ #[t1, t2] ty #[.slice base sLen sCap, x]).run P w = .ok (.slice base (sLen + m) sCap) w') ∧
    (¬ sLen + m ≤ sCap → ∃ (cap : Nat) (d : Nat) (rest : Array Value), w.drawn ≤ d ∧ sLen + m ≤ cap ∧ cap ≤ maxLen ∧ rest.size = (cap - (sLen + m)) * n ∧
      (Builtin.append_ #[t1, t2] ty #[.slice base sLen sCap, x]).run P w = .ok (.slice (some ⟨w.heap.size, 0, none⟩) (sLen + m) cap) { w with drawn := d, heap := w.heap.push (.cells ((old ++ new).toArray ++ rest) e) }) := by
  obtain ⟨d2, hd2, hd2i⟩ := notInt_run hn2 w
  have hti : ∀ w, (typeInfo e).run P w = .ok i w := fun w => by simp [typeInfo, hi]
  have hnew0 := hnew w.drawn
  have hold0 := hold w.drawn
  have part2 : ∀ w', sLen + m ≤ sCap → (match base with | some a => (storeCells (a.add (sLen * n)) new).run P w | none => .ok () w) = .ok () w' → (Builtin.append_ #[t1, t2] ty #[.slice base sLen sCap, x]).run P w = .ok (.slice base (sLen + m) sCap) w' := by
    intro w' hle hst
    have hfc : (Builtin.firstCells n m x).run P w = .ok new.toArray w := hnew0
    unfold Builtin.append_
    cases d2 <;> first
      | (cases hd2i; done)
      | (simp only [List.getElem?_toArray, List.getElem?_cons_zero, List.getElem?_cons_succ, Sem.run_bind, run_underlying hu, Result.andThen_ok, run_sz hsz, hd2, Sem.run_pure, Bool.false_eq_true, if_false, hlen, hle, if_true, Bool.not_false, hfc]
         cases base with
         | none =>
           simp only [] at hst
           cases hst
           simp
         | some a =>
           simp only [] at hst
           simp only [Sem.run_bind, hst, Result.andThen_ok, Sem.run_pure])
  refine ⟨fun hle hst => part2 w hle hst, part2, fun hgt => ?_⟩
  have hnc := nextcap_le (need := sLen + m) (cap := sCap) (by omega)
  have hnb : ¬ Builtin.nextslicecap (sLen + m) sCap * by_ > 2 ^ 48 := by
    have := Nat.mul_le_mul_right by_ hnc
    omega
  have hforced : (Question.appendCap (sLen + m) sCap e).forced = false := rfl
  let cap := (Question.appendCap (sLen + m) sCap e).cut (w.tape w.drawn (.appendCap (sLen + m) sCap e))
  have hcap : sLen + m ≤ cap ∧ cap ≤ maxLen := by
    show _ ≤ _ + _ % _ ∧ _ + _ % _ ≤ _
    unfold maxLen at hm ⊢
    have : 0 < 2 ^ 63 - (sLen + m) := by omega
    have := Nat.mod_lt (w.tape w.drawn (.appendCap (sLen + m) sCap e)) this
    omega
  refine ⟨cap, w.drawn + 1, Builtin.zeroCells z.cells (cap - (sLen + m)), Nat.le_succ _, hcap.1, hcap.2, by rw [zeroCells_size, hzs], ?_⟩
  unfold Builtin.append_
  have hnb2 : ¬ Builtin.nextslicecap (sLen + m) sCap * i.bytes > 2 ^ 48 := by rw [hby]; exact hnb
  have hb2 : ¬ i.bytes = 0 := by omega
  have h1 := hold (w.drawn + 1)
  have h2 := hnew (w.drawn + 1)
  cases d2 <;> first
    | (cases hd2i; done)
    | (simp only [List.getElem?_toArray, List.getElem?_cons_zero, List.getElem?_cons_succ, Sem.run_bind, run_underlying hu, Result.andThen_ok, run_sz hsz, hd2, Sem.run_pure, Bool.false_eq_true, if_false, hlen, hgt, Bool.not_false, if_true, hti, hnb2, hb2, or_false, and_false, run_choose, hforced, run_askRoom, h1, h2, hz, newRow, run_newObj]
       congr 4
       simp
       rfl)
def lowN (k : Nat) : Bool := decide (k < 1000000)
theorem lowN_spec {k : Nat} (h : lowN k = true) : k < pin := by simpa [lowN, pin] using h
def vAppend (P : Program) (j : Nat) (t1 t2 : TypeId) (s x : Option T) (env : Env) (B : Bx) (K : T → Bx → Prop) : Prop :=
  match bsT P t1, byT P t1 with
  | some (_, n), some (by_ + 1) => match srcRows n x with
    | some ys => notInt P t2 = true ∧ Env.fresh j env = true ∧ Bx.fresh j B = true ∧ (match s with
      | some (.one (.dat (.nil _))) => (2 * ys.length + 192) * (by_ + 1) ≤ 281474976710656 ∧ K (.one (.own j ys.length)) ((j, .row n ys) :: B)
      | some (.one (.own k m)) => match B.lookup k with
        | some (.row n' rows) => n' = n ∧ m = rows.length ∧ lowN k = true ∧ (2 * (rows.length + ys.length) + 192) * (by_ + 1) ≤ 281474976710656 ∧ K (.one (.own j (rows ++ ys).length)) ((j, .row n (rows ++ ys)) :: Bx.drop k B)
        | _ => False
      | _ => False)
    | none => False
  | _, _ => False
theorem Sat.drop {κ : Kap} {M : Mem} {ν : Nu} {B B' : Bx} {w : World} (h : Sat κ M ν B w) (hs : ∀ x ∈ B', x ∈ B) (hn : (B'.map (·.1)).Nodup) : Sat κ M ν B' w :=
  ⟨h.os, h.tape, h.output, h.dr, h.size, h.unch, h.fro, fun k r hm => h.res k r (hs _ hm), fun k r b hm => h.away k r b (hs _ hm), fun k r k' r' b hm hm' => h.inj k r k' r' b (hs _ hm) (hs _ hm'), hn⟩
theorem Sat.drawn {κ : Kap} {M : Mem} {ν : Nu} {B : Bx} {w : World} (h : Sat κ M ν B w) (d : Nat) (hd : w.drawn ≤ d) : Sat κ M ν B { w with drawn := d } :=
  ⟨h.os, h.tape, h.output, Nat.le_trans h.dr hd, h.size, h.unch, h.fro, fun k r hm => Res.ok_mono (Mem.le.refl M) (fun b x e _ => e) (h.res k r hm), h.away, h.inj, h.nodup⟩
theorem Bx.fresh_drop {j k : Nat} {B : Bx} (h : Bx.fresh j B = true) : Bx.fresh j (Bx.drop k B) = true := by
  induction B with
  | nil => rfl
  | cons p B ih =>
    simp only [Bx.fresh, Bool.and_eq_true] at h
    unfold Bx.drop
    cases hp : (p.1 == k) with
    | true => exact h.2
    | false => simp only [cond_false, Bx.fresh, Bool.and_eq_true]; exact ⟨h.1, ih h.2⟩
theorem Sat.rename {κ : Kap} {M : Mem} {ν : Nu} {B : Bx} {w : World} {j k : Nat} {sz : Nat} {rows : List (List C)} (h : Sat κ M ν B w) (hk : (k, .row sz rows) ∈ B) (hf : Bx.fresh j B = true) (hlow : k < pin) :
    Sat κ M (ν.set j (ν k)) ((j, .row sz rows) :: Bx.drop k B) w where
  os := h.os
  tape := h.tape
  output := h.output
  dr := h.dr
  size := h.size
  unch := h.unch
  fro := h.fro
  res := fun i q hm => by
    rcases List.mem_cons.1 hm with e | hm
    · cases e
      have := h.res k _ hk
      simp only [Res.ok] at this ⊢
      rw [Nu.set_self]; exact this
    · obtain ⟨hm, _⟩ := Bx.mem_drop h.nodup hm
      obtain ⟨hj, hc⟩ := Bx.fresh_spec hf hm
      exact Res.ok_fresh Nu.set_other hj hc (h.res i q hm)
  away := fun i q b hm hb => by
    rcases List.mem_cons.1 hm with e | hm
    · cases e; rw [Nu.set_self] at hb
      have h1 := h.away k _ b hk hb
      exact ⟨h1.1, h1.2.imp id fun h2 => absurd h2.1 (by omega)⟩
    · obtain ⟨hm, _⟩ := Bx.mem_drop h.nodup hm
      obtain ⟨hj, hc⟩ := Bx.fresh_spec hf hm
      rw [Nu.set_other i hj] at hb
      exact h.away i q b hm hb
  inj := fun i q i' q' b hm hm' hb hb' => by
    rcases List.mem_cons.1 hm with e | hm <;> rcases List.mem_cons.1 hm' with e' | hm'
    · cases e; cases e'; rfl
    · cases e
      obtain ⟨hm', hne⟩ := Bx.mem_drop h.nodup hm'
      obtain ⟨hj, hc⟩ := Bx.fresh_spec hf hm'
      rw [Nu.set_self] at hb
      rw [Nu.set_other i' hj] at hb'
      exact absurd (h.inj i' q' k _ b hm' hk hb' hb) hne
    · cases e'
      obtain ⟨hm, hne⟩ := Bx.mem_drop h.nodup hm
      obtain ⟨hj, hc⟩ := Bx.fresh_spec hf hm
      rw [Nu.set_self] at hb'
      rw [Nu.set_other i hj] at hb
      exact absurd (h.inj i q k _ b hm hk hb hb') hne
    · obtain ⟨hm, _⟩ := Bx.mem_drop h.nodup hm
      obtain ⟨hm', _⟩ := Bx.mem_drop h.nodup hm'
      obtain ⟨hj, _⟩ := Bx.fresh_spec hf hm
      obtain ⟨hj', _⟩ := Bx.fresh_spec hf hm'
      rw [Nu.set_other i hj] at hb
      rw [Nu.set_other i' hj'] at hb'
      exact h.inj i q i' q' b hm hm' hb hb'
  nodup := by
    simp only [List.map_cons, List.nodup_cons]
    refine ⟨fun hm => ?_, Bx.drop_nodup k h.nodup⟩
    obtain ⟨x, hx, e⟩ := List.mem_map.1 hm
    obtain ⟨hx, _⟩ := Bx.mem_drop h.nodup hx
    exact (Bx.fresh_spec (j := x.1) (r := x.2) hf hx).1 e
theorem vAppend_sound {t1 t2 ty1 ty2 : TypeId} {s x : Operand} {env : Env} {B : Bx} {o : Oper} {K : T → Bx → Prop} (ho : o.op = .call { callee := .builtin .append, args := #[s, x], argTypes := #[t1, t2] })
    (h : vAppend P (dstN o) t1 t2 (ev P env ty1 s) (softO (ev P env ty2 x)) env B K) :
    ∃ t B', OpG P o env B (dstN o) t B' ∧ Env.fresh (dstN o) env = true ∧ K t B' := by
  have hs : s ∈ o.op.operands := by rw [ho]; simp [Op.operands, Call.operands]
  have hx : x ∈ o.op.operands := by rw [ho]; simp [Op.operands, Call.operands]
  have hex : ∀ (a : Act), execOp a.eval o = (do pure (.value (← Builtin.append_ #[t1, t2] o.type #[a.eval s, a.eval x]))) := by
    intro a; rw [exec_builtin ho]; simp [builtin]
  unfold vAppend at h
  split at h
  · rename_i e n by_ hbs hbyt
    obtain ⟨hu, hsz, ⟨z, hz, hzs⟩, hn0⟩ := bsT_spec hbs
    obtain ⟨i, hi, hib⟩ := byT_spec hbyt hu
    split at h
    · rename_i ys hsrc
      obtain ⟨hn2, hf, hfB, h⟩ := h
      cases hxe : softO (ev P env ty2 x) with
      | none => rw [hxe] at hsrc; cases hsrc
      | some xt =>
      rw [hxe] at hsrc
      split at h
      · rename_i n' es
        obtain ⟨hroom, hK⟩ := h
        refine ⟨_, _, OpG.of_run fun κ M ν a w he hsat => ?_, hf, hK⟩
        obtain ⟨new, hrows, hrun⟩ := src_run (P := P) hsrc (softO_rep he hx hxe)
        have hsv := ev_rep he hs es
        simp only [T.rep, Cell.rep, C.rep] at hsv
        have hyb : ys.length ≤ maxLen := by
          have : 1 ≤ by_ + 1 := by omega
          have := Nat.mul_le_mul_left (2 * ys.length + 192) this
          unfold maxLen; omega
        obtain ⟨_, hin, hout⟩ := append_run (t2 := t2) (ty := o.type) hu hsz hi hib hz hzs hn2 (base := none) (sLen := 0) (sCap := 0) (x := a.eval x) (m := ys.length) (new := new) (old := []) (w := w) (hrun w hsat.fro).1 (by omega) (by simpa using hroom)
          (fun d => (hrun { w with drawn := d } hsat.fro).2) (fun d => rfl) (by omega)
        by_cases h0 : 0 + ys.length ≤ 0
        · have hnil : ys = [] := List.length_eq_zero_iff.1 (by omega)
          subst hnil
          refine ⟨_, w, M, ν.set (dstN o) ⟨none, 0⟩, exec_v (hex a) (by rw [hsv]; exact hin w (by simp) rfl), Mem.ext.refl κ M, Nu.set_other, ?_, ?_⟩
          · simp only [T.rep, Cell.rep, Nu.set_self]
            rfl
          · refine ⟨hsat.os, hsat.tape, hsat.output, hsat.dr, hsat.size, hsat.unch, hsat.fro, ?_, ?_, ?_, ?_⟩
            · intro k r hm
              rcases List.mem_cons.1 hm with e | hm
              · cases e; simp only [Res.ok, Nu.set_self]; exact ⟨Nat.le_refl _, Nat.zero_le _, .inl (by simp)⟩
              · obtain ⟨hj, hc⟩ := Bx.fresh_spec hfB hm
                exact Res.ok_fresh Nu.set_other hj hc (hsat.res k r hm)
            · intro k r b hm hb
              rcases List.mem_cons.1 hm with e | hm
              · cases e; rw [Nu.set_self] at hb; cases hb
              · obtain ⟨hj, hc⟩ := Bx.fresh_spec hfB hm
                rw [Nu.set_other k hj] at hb
                exact hsat.away k r b hm hb
            · intro k r k' r' b hm hm' hb hb'
              rcases List.mem_cons.1 hm with e | hm <;> rcases List.mem_cons.1 hm' with e' | hm'
              · cases e; cases e'; rfl
              · cases e; rw [Nu.set_self] at hb; cases hb
              · cases e'; rw [Nu.set_self] at hb'; cases hb'
              · obtain ⟨hj, _⟩ := Bx.fresh_spec hfB hm
                obtain ⟨hj', _⟩ := Bx.fresh_spec hfB hm'
                rw [Nu.set_other k hj] at hb
                rw [Nu.set_other k' hj'] at hb'
                exact hsat.inj k r k' r' b hm hm' hb hb'
            · simp only [List.map_cons, List.nodup_cons]
              refine ⟨fun hm => ?_, hsat.nodup⟩
              obtain ⟨x, hx, e⟩ := List.mem_map.1 hm
              exact (Bx.fresh_spec (j := x.1) (r := x.2) hfB hx).1 e
        · obtain ⟨cap, d, rest, hdr, hc1, hc2, hrs, hr⟩ := hout h0
          refine ⟨_, _, M, ν.set (dstN o) ⟨some w.heap.size, cap⟩, exec_v (hex a) (by rw [hsv]; exact hr), Mem.ext.refl κ M, Nu.set_other, ?_, ?_⟩
          · simp only [T.rep, Cell.rep, Nu.set_self, Nat.zero_add]
            rfl
          · refine Sat.new_box (w := { w with drawn := d }) (hsat.drawn d hdr) hfB ?_
            simp only [Res.ok, Nu.set_self]
            refine ⟨by omega, hc2, .inr ⟨w.heap.size, _, e, new, rest.toList, rfl, push_new, by simp, hrows, ?_⟩⟩
            have := repRows_length hrows
            simp only [List.nil_append, Array.size_append, List.size_toArray, this, hrs, Nat.zero_add]
            rw [← Nat.add_mul]
            congr 1
            omega
      · rename_i k m es
        split at h
        · rename_i n' rows hb
          obtain ⟨rfl, rfl, hlow, hroom, hK⟩ := h
          refine ⟨_, _, OpG.of_run fun κ M ν a w he hsat => ?_, hf, hK⟩
          obtain ⟨new, hrows, hrun⟩ := src_run (P := P) hsrc (softO_rep he hx hxe)
          have hsv := ev_rep he hs es
          simp only [T.rep, Cell.rep] at hsv
          have hyb : rows.length + ys.length ≤ maxLen := by
            have : 1 ≤ by_ + 1 := by omega
            have := Nat.mul_le_mul_left (2 * (rows.length + ys.length) + 192) this
            unfold maxLen; omega
          have hmem := lookup_box hb
          have hres := hsat.res k _ hmem
          simp only [Res.ok] at hres
          obtain ⟨hcap1, hcap2, hres⟩ := hres
          have hlenapp : (rows ++ ys).length = rows.length + ys.length := List.length_append
          rcases hres with ⟨hnone, hc0⟩ | ⟨b, c, et, mid, spare, hb1, hheap, htl, hrows0, hcs⟩
          · -- an empty row without a block
            have hr0 : rows = [] := List.length_eq_zero_iff.1 (by omega)
            subst hr0
            have hsv' : a.eval s = .slice none 0 0 := by rw [hsv, hnone, hc0]; rfl
            obtain ⟨_, hin, hout⟩ := append_run (t2 := t2) (ty := o.type) hu hsz hi hib hz hzs hn2 (base := none) (sLen := 0) (sCap := 0) (x := a.eval x) (m := ys.length) (new := new) (old := []) (w := w) (hrun w hsat.fro).1 (by simpa using hyb) (by simpa using hroom)
              (fun d => (hrun { w with drawn := d } hsat.fro).2) (fun d => rfl) (by omega)
            by_cases h0 : 0 + ys.length ≤ 0
            · have hnil : ys = [] := List.length_eq_zero_iff.1 (by omega)
              subst hnil
              refine ⟨_, w, M, ν.set (dstN o) (ν k), exec_v (hex a) (by rw [hsv']; exact hin w (by simp) rfl), Mem.ext.refl κ M, Nu.set_other, ?_, by simpa using hsat.rename hmem hfB (lowN_spec hlow)⟩
              simp only [T.rep, Cell.rep, Nu.set_self, hnone, hc0]
              rfl
            · obtain ⟨cap, d, rest, hdr, hc1, hc2, hrs, hr⟩ := hout h0
              refine ⟨_, _, M, ν.set (dstN o) ⟨some w.heap.size, cap⟩, exec_v (hex a) (by rw [hsv']; exact hr), Mem.ext.refl κ M, Nu.set_other, ?_, ?_⟩
              · simp only [T.rep, Cell.rep, Nu.set_self, Nat.zero_add, List.nil_append]
                rfl
              · refine Sat.new_box (w := { w with drawn := d }) ((hsat.drop (fun x hx => (Bx.mem_drop hsat.nodup hx).1) (Bx.drop_nodup k hsat.nodup)).drawn d hdr) (Bx.fresh_drop hfB) ?_
                simp only [Res.ok, Nu.set_self, List.nil_append]
                refine ⟨by omega, hc2, .inr ⟨w.heap.size, _, e, new, rest.toList, rfl, push_new, by simp, hrows, ?_⟩⟩
                have := repRows_length hrows
                simp only [List.nil_append, Array.size_append, List.size_toArray, this, hrs, Nat.zero_add]
                rw [← Nat.add_mul]
                congr 1
                omega
          · have hsv' : a.eval s = .slice (some ⟨b, 0, none⟩) rows.length (ν k).cap := by rw [hsv, hb1]; rfl
            have hat : At (w.heap[b]?) 0 mid := ⟨c, et, (0, 0), [], spare, hheap, by simpa using htl, rfl⟩
            obtain ⟨_, hin, hout⟩ := append_run (t2 := t2) (ty := o.type) hu hsz hi hib hz hzs hn2 (base := some ⟨b, 0, none⟩) (sLen := rows.length) (sCap := (ν k).cap) (x := a.eval x) (m := ys.length) (new := new) (old := mid) (w := w) (hrun w hsat.fro).1 hyb hroom
              (fun d => (hrun { w with drawn := d } hsat.fro).2) (fun d => firstCells_at (w := { w with drawn := d }) hat (repRows_length hrows0)) (by omega)
            by_cases h0 : rows.length + ys.length ≤ (ν k).cap
            · -- in place
              have hnl := repRows_length hrows
              have hml := repRows_length hrows0
              have hcl : mid.length + spare.length = (ν k).cap * n' := by rw [← hcs, ← Array.length_toList (xs := c), htl, List.length_append]
              have hsp : new.length ≤ spare.length := by
                have h3 : (rows.length + ys.length) * n' ≤ (ν k).cap * n' := Nat.mul_le_mul_right n' h0
                rw [Nat.add_mul] at h3
                omega
              have hst := run_storeAt (P := P) b (rows.length * n') et new 0 c w mid (spare.take new.length) (spare.drop new.length) hheap (by rw [List.take_append_drop]; exact htl) (by rw [hml]; rfl) (by rw [List.length_take]; omega)
                (fun v hv => by
                  have : ∀ {rs : List (List C)} {vs : List Value}, repRows M n' rs vs → ∀ v ∈ vs, v.oneCell' = true := by
                    intro rs
                    induction rs with
                    | nil => intro vs h v hv; simp only [repRows] at h; subst h; cases hv
                    | cons r rs ih =>
                      intro vs h v hv
                      simp only [repRows] at h
                      obtain ⟨v1, v2, e, _, h1, h2⟩ := h
                      subst e
                      rcases List.mem_append.1 hv with hv | hv
                      · exact Cell.reps_oneCell (ν := ν) (Cell.reps_map_c.2 h1) v hv
                      · exact ih h2 v hv
                  exact this hrows v hv)
              have hsat1 := hsat.rename (j := dstN o) hmem hfB (lowN_spec hlow)
              refine ⟨_, _, M, ν.set (dstN o) (ν k), exec_v (hex a) (by rw [hsv']; exact hin _ h0 (by simp only [addr_add, Nat.zero_add]; exact hst)), Mem.ext.refl κ M, Nu.set_other, ?_, ?_⟩
              · simp only [T.rep, Cell.rep, Nu.set_self, hb1, hlenapp]
                rfl
              · have hw := hsat1.write (k := dstN o) (b := b) (r := .row n' rows) (r' := .row n' (rows ++ ys)) (c' := (mid ++ (new ++ spare.drop new.length)).toArray) (List.mem_cons_self ..) (by rw [Nu.set_self]; exact hb1) (by
                  simp only [Res.ok, Nu.set_self]
                  refine ⟨by rw [hlenapp]; exact h0, hcap2, .inr ⟨b, _, et, mid ++ new, spare.drop new.length, hb1, setRow_heap w b c _ et _ hheap, by simp, repRows_append hrows0 hrows, ?_⟩⟩
                  simp only [List.size_toArray, List.length_append, List.length_drop]
                  omega)
                simpa [Bx.put] using hw
            · obtain ⟨cap, d, rest, hdr, hc1, hc2, hrs, hr⟩ := hout h0
              refine ⟨_, _, M, ν.set (dstN o) ⟨some w.heap.size, cap⟩, exec_v (hex a) (by rw [hsv']; exact hr), Mem.ext.refl κ M, Nu.set_other, ?_, ?_⟩
              · simp only [T.rep, Cell.rep, Nu.set_self, hlenapp]
                rfl
              · refine Sat.new_box (w := { w with drawn := d }) ((hsat.drop (fun x hx => (Bx.mem_drop hsat.nodup hx).1) (Bx.drop_nodup k hsat.nodup)).drawn d hdr) (Bx.fresh_drop hfB) ?_
                simp only [Res.ok, Nu.set_self]
                refine ⟨by rw [hlenapp]; omega, hc2, .inr ⟨w.heap.size, _, e, mid ++ new, rest.toList, rfl, push_new, by simp, repRows_append hrows0 hrows, ?_⟩⟩
                have h1 := repRows_length hrows
                have h2 := repRows_length hrows0
                simp only [Array.size_append, List.size_toArray, List.length_append, h1, h2, hrs]
                rw [← Nat.add_mul, ← Nat.add_mul]
                congr 1
                omega
        · exact h.elim
      · exact h.elim
    · exact h.elim
  · exact h.elim
mutual
def Cell.frOk (k len : Nat) : Cell → Prop
  | .own j m => (j == k) = true → m = len
  | .clo _ caps => Cell.frOks k len caps
  | _ => True
def Cell.frOks (k len : Nat) : List Cell → Prop
  | [] => True
  | c :: cs => Cell.frOk k len c ∧ Cell.frOks k len cs
end
mutual
def Cell.fr (k sz : Nat) (rows : List (List C)) : Cell → Cell
  | .own j m => bif j == k then .dat (.sl sz rows) else .own j m
  | .clo f caps => .clo f (Cell.frs k sz rows caps)
  | .dat c => .dat c
  | .ptr j o => .ptr j o
  | .rp j s i f => .rp j s i f
  | .arr j n => .arr j n
  | .ref r => .ref r
  | .mp j => .mp j
def Cell.frs (k sz : Nat) (rows : List (List C)) : List Cell → List Cell
  | [] => []
  | c :: cs => Cell.fr k sz rows c :: Cell.frs k sz rows cs
end
mutual
def T.frOk (k len : Nat) : T → Prop
  | .one c => c.frOk k len
  | .agg cs => Cell.frOks k len cs
  | .tup ts => T.frOks k len ts
  | _ => True
def T.frOks (k len : Nat) : List T → Prop
  | [] => True
  | t :: ts => T.frOk k len t ∧ T.frOks k len ts
end
mutual
def T.fr (k sz : Nat) (rows : List (List C)) : T → T
  | .one c => .one (c.fr k sz rows)
  | .agg cs => mkAgg (Cell.frs k sz rows cs)
  | .tup ts => .tup (T.frs k sz rows ts)
  | .st r => .st r
  | .un => .un
def T.frs (k sz : Nat) (rows : List (List C)) : List T → List T
  | [] => []
  | t :: ts => T.fr k sz rows t :: T.frs k sz rows ts
end
def FrRow (M M' : Mem) (ν : Nu) (k sz : Nat) (rows : List (List C)) : Prop :=
  M.le M' ∧ (C.sl sz rows).rep M' (.slice ((ν k).blk.map fun b => ⟨b, 0, none⟩) rows.length (ν k).cap)
mutual
theorem Cell.rep_fr {M M' : Mem} {ν : Nu} {k sz : Nat} {rows : List (List C)} (hF : FrRow M M' ν k sz rows) : ∀ (c : Cell) (v : Value), c.frOk k rows.length → c.rep M ν v → (c.fr k sz rows).rep M' ν v
  | .own j m, v, hok, h => by
    simp only [Cell.frOk] at hok
    simp only [Cell.fr]
    cases hj : (j == k) with
    | false => simp only [cond_false]; simpa only [Cell.rep] using h
    | true =>
      have hjk : j = k := by simpa using hj
      have hm := hok hj
      subst hm; subst hjk
      simp only [Cell.rep] at h
      simp only [cond_true, Cell.rep]
      rw [h]; exact hF.2
  | .clo f caps, v, hok, h => by
    simp only [Cell.frOk] at hok
    simp only [Cell.rep] at h
    simp only [Cell.fr, Cell.rep]
    obtain ⟨vs, e, h⟩ := h
    exact ⟨vs, e, Cell.reps_fr hF caps vs hok h⟩
  | .dat c, v, _, h => by simp only [Cell.fr]; exact Cell.rep_mono hF.1 _ _ h
  | .ptr j o, v, _, h => by simp only [Cell.fr]; exact Cell.rep_mono hF.1 _ _ h
  | .rp j s i f, v, _, h => by simp only [Cell.fr]; exact Cell.rep_mono hF.1 _ _ h
  | .arr j n, v, _, h => by simp only [Cell.fr]; exact Cell.rep_mono hF.1 _ _ h
  | .ref r, v, _, h => by simp only [Cell.fr]; exact Cell.rep_mono hF.1 _ _ h
  | .mp j, v, _, h => by simp only [Cell.fr]; exact Cell.rep_mono hF.1 _ _ h
theorem Cell.reps_fr {M M' : Mem} {ν : Nu} {k sz : Nat} {rows : List (List C)} (hF : FrRow M M' ν k sz rows) : ∀ (cs : List Cell) (vs : List Value), Cell.frOks k rows.length cs → Cell.reps M ν cs vs → Cell.reps M' ν (Cell.frs k sz rows cs) vs
  | [], vs, _, h => by simpa only [Cell.frs, Cell.reps] using h
  | c :: cs, vs, hok, h => by
    simp only [Cell.frOks] at hok
    simp only [Cell.reps] at h
    simp only [Cell.frs, Cell.reps]
    obtain ⟨v, vs', e, h1, h2⟩ := h
    exact ⟨v, vs', e, Cell.rep_fr hF c v hok.1 h1, Cell.reps_fr hF cs vs' hok.2 h2⟩
end
mutual
theorem T.rep_fr {M M' : Mem} {ν : Nu} {k sz : Nat} {rows : List (List C)} (hF : FrRow M M' ν k sz rows) : ∀ (t : T) (v : Value), t.frOk k rows.length → t.rep M ν v → (t.fr k sz rows).rep M' ν v
  | .one c, v, hok, h => by simp only [T.frOk] at hok; simp only [T.fr, T.rep] at h ⊢; exact Cell.rep_fr hF c v hok h
  | .agg cs, v, hok, h => by
    simp only [T.frOk] at hok
    simp only [T.rep] at h
    obtain ⟨a, e, h⟩ := h
    subst e
    simp only [T.fr]
    exact mkAgg_rep (Cell.reps_fr hF cs _ hok h)
  | .tup ts, v, hok, h => by
    simp only [T.frOk] at hok
    simp only [T.rep] at h
    obtain ⟨a, e, h⟩ := h
    simp only [T.fr, T.rep]
    exact ⟨a, e, T.reps_fr hF ts a hok h⟩
  | .st r, v, _, h => by simp only [T.fr]; exact T.rep_mono hF.1 _ _ h
  | .un, v, _, h => by simp only [T.fr]; exact T.rep_mono hF.1 _ _ h
theorem T.reps_fr {M M' : Mem} {ν : Nu} {k sz : Nat} {rows : List (List C)} (hF : FrRow M M' ν k sz rows) : ∀ (ts : List T) (vs : List Value), T.frOks k rows.length ts → T.reps M ν ts vs → T.reps M' ν (T.frs k sz rows ts) vs
  | [], vs, _, h => by simpa only [T.frs, T.reps] using h
  | t :: ts, vs, hok, h => by
    simp only [T.frOks] at hok
    simp only [T.reps] at h
    simp only [T.frs, T.reps]
    obtain ⟨v, vs', e, h1, h2⟩ := h
    exact ⟨v, vs', e, T.rep_fr hF t v hok.1 h1, T.reps_fr hF ts vs' hok.2 h2⟩
end
def Mem.put (M : Mem) (b : Nat) (o : Obj) : Mem := fun i => if i = b then some o else M i
theorem Sat.freeze {κ : Kap} {M : Mem} {ν : Nu} {B : Bx} {w : World} {k sz : Nat} {rows : List (List C)} (h : Sat κ M ν B w) (hk : (k, .row sz rows) ∈ B) (hlow : k < pin) :
    ∃ M', M.ext κ M' ∧ Sat κ M' ν (Bx.drop k B) w ∧ FrRow M M' ν k sz rows := by
  have hr := h.res k _ hk
  simp only [Res.ok] at hr
  obtain ⟨hc1, hc2, hr⟩ := hr
  have hd := h.drop (B' := Bx.drop k B) (fun x hx => (Bx.mem_drop h.nodup hx).1) (Bx.drop_nodup k h.nodup)
  rcases hr with ⟨hn, hc0⟩ | ⟨b, c, et, mid, post, hb, hheap, htl, hrows, hsz⟩
  · have hr0 : rows = [] := List.length_eq_zero_iff.1 (by omega)
    subst hr0
    refine ⟨M, Mem.ext.refl κ M, hd, Mem.le.refl M, ?_⟩
    simp only [C.rep]
    exact ⟨_, (ν k).cap, [], rfl, by simp, hc2, by simp only [repRows], .inl trivial⟩
  · obtain ⟨ha1, ha2⟩ := h.away k _ b hk hb
    have hb2 : κ.w.heap.size ≤ b := ha2.elim id fun h2 => absurd h2.1 (by omega)
    have hle : M.le (M.put b (.cells c et (0, 0))) := by
      intro i x e
      unfold Mem.put
      split
      · rename_i hi; subst hi; rw [ha1] at e; cases e
      · exact e
    refine ⟨M.put b (.cells c et (0, 0)), ⟨hle, fun i x e => ?_⟩, ?_, hle, ?_⟩
    · unfold Mem.put at e
      split at e
      · rename_i hi; subst hi; exact .inr hb2
      · exact .inl e
    · refine ⟨hd.os, hd.tape, hd.output, hd.dr, hd.size, hd.unch, ?_, fun j r hm => Res.ok_mono hle (fun b x e _ => e) (hd.res j r hm), ?_, hd.inj, hd.nodup⟩
      · intro i x e
        unfold Mem.put at e
        split at e
        · rename_i hi; subst hi; cases e; exact hheap
        · exact h.fro _ _ e
      · intro j r b' hm hb'
        obtain ⟨hm', hne⟩ := Bx.mem_drop h.nodup hm
        obtain ⟨h1, h2⟩ := h.away j r b' hm' hb'
        refine ⟨?_, h2⟩
        unfold Mem.put
        rw [if_neg]
        · exact h1
        · intro e; subst e
          exact hne (h.inj j r k _ b' hm' hk hb' hb)
    · simp only [C.rep]
      refine ⟨_, (ν k).cap, mid, rfl, hc1, hc2, repRows_mono hle sz rows mid hrows, .inr ⟨b, 0, by rw [hb]; rfl, ?_⟩⟩
      refine ⟨c, et, (0, 0), [], post, ?_, by simpa using htl, rfl⟩
      simp [Mem.put]
def ownCell : List Cell → Option Nat
  | [] => none
  | .own k _ :: _ => some k
  | _ :: cs => ownCell cs
def ownIn : List T → Option Nat
  | [] => none
  | .one (.own k _) :: _ => some k
  | .agg cs :: ts => match ownCell cs with
    | some k => some k
    | none => ownIn ts
  | _ :: ts => ownIn ts
def vCallZ0 (P : Program) (g : FuncId) (us : List T) (B : Bx) (K : T → Bx → Prop) : Prop := ∃ r, PC P g us r ∧ K r B
def vFr (us : List T) (B : Bx) (N : List T → Bx → Prop) : Prop :=
  match ownIn us with
  | none => N us B
  | some k => match B.lookup k with
    | some (.row sz rows) => lowN k = true ∧ T.frOks k rows.length us ∧ N (T.frs k sz rows us) (Bx.drop k B)
    | _ => False
def vCallZ (P : Program) (g : FuncId) (us : List T) (B : Bx) (K : T → Bx → Prop) : Prop :=
  vFr us B fun us B => vFr us B fun us B => vFr us B fun us B => vCallZ0 P g us B K
theorem vFr_sound {us : List T} {B : Bx} {N : List T → Bx → Prop} (h : vFr us B N) :
    ∃ us' B', N us' B' ∧ ∀ κ M ν w vs, Sat κ M ν B w → T.reps M ν us vs → ∃ M', M.ext κ M' ∧ Sat κ M' ν B' w ∧ T.reps M' ν us' vs := by
  unfold vFr at h
  split at h
  · exact ⟨us, B, h, fun κ M ν w vs hs hr => ⟨M, Mem.ext.refl κ M, hs, hr⟩⟩
  · rename_i k hk
    split at h
    · rename_i sz rows hb
      obtain ⟨hlow, hok, hN⟩ := h
      refine ⟨_, _, hN, fun κ M ν w vs hs hr => ?_⟩
      obtain ⟨M', h1, h2, h3⟩ := hs.freeze (lookup_box hb) (lowN_spec hlow)
      exact ⟨M', h1, h2, T.reps_fr h3 us vs hok hr⟩
    · exact h.elim
theorem vCallZ_sound {ty : TypeId} {f : Operand} {args : List Operand} {ts : Array TypeId} {env : Env} {B : Bx} {o : Oper} {K : T → Bx → Prop} {g : FuncId} {caps us : List T} (ho : o.op = .call { callee := .value f, args := args.toArray, argTypes := ts })
    (hf : calleeT (ev P env ty f) = some (g, caps)) (hu : evs P env args ts.toList = some us) (h : vCallZ P g (us ++ caps) B K) : ∃ u B', OpE P o env B u B' ∧ K u B' := by
  obtain ⟨us1, B1, h, h1⟩ := vFr_sound h
  obtain ⟨us2, B2, h, h2⟩ := vFr_sound h
  obtain ⟨us3, B3, h, h3⟩ := vFr_sound h
  obtain ⟨r, hpc, hK⟩ := h
  refine ⟨r, B3, ?_, hK⟩
  intro κ M ν a w he hs
  obtain ⟨vs, hrun, hreps⟩ := exec_call ho he hf hu hpc.1 w
  obtain ⟨M1, e1, s1, r1⟩ := h1 κ M ν w vs hs hreps
  obtain ⟨M2, e2, s2, r2⟩ := h2 κ M1 ν w vs s1 r1
  obtain ⟨M3, e3, s3, r3⟩ := h3 κ M2 ν w vs s2 r2
  unfold Oper.wp
  rw [hrun]
  simp only [Oper.upon]
  refine Calls.mono (hpc.2 M3 ν w vs (s3.nil _ _) r3) ?_
  rintro e w' ⟨v, M', rfl, hext, hr, hs'⟩
  obtain ⟨k1, k2⟩ := s3.call (B1 := []) (B1' := []) (B' := B3) (fun x hx => by cases hx) hs' rfl (fun b h => h) (fun _ _ h => by cases h) hext (fun x hx => .inr ⟨hx, by simp⟩) (fun x hx => List.mem_map.2 ⟨x, hx, rfl⟩) s3.nodup
  exact ⟨v, M', rfl, ((e1.trans e2).trans e3).trans k2, hr, k1⟩
def eqFs (P : Program) (E : TypeId → List C → List C → Option Bool) : Nat → List Field → List C → List C → Option Bool
  | _, [], [], [] => some true
  | _, [], _, _ => none
  | off, f :: fs, r, s => match szT P f.type, aggT P f.type with
    | some n, some _ => match cutC n r, cutC n s with
      | some (r1, r2), some (s1, s2) => bif f.offset == off && f.name != "_" then (match E f.type r1 s1, eqFs P E (off + n) fs r2 s2 with
        | some x, some y => some (x && y)
        | _, _ => none) else none
      | _, _ => none
    | _, _ => none
def eqStT (P : Program) : Nat → TypeId → List C → List C → Option Bool
  | 0, _, _, _ => none
  | d + 1, t, r, s => match P.underlying t with
    | some (.int _) => match r, s with
      | [.int k a], [.int k' b] => if k = k' then some (decide (a = b)) else none
      | _, _ => none
    | some .bool => match r, s with
      | [.bool a], [.bool b] => some (a == b)
      | _, _ => none
    | some .string => match r, s with
      | [.str a], [.str b] => some (decide (a = b))
      | _, _ => none
    | some (.struct fs) => bif P.stoodInHeld t then none else eqFs P (eqStT P d) 0 fs.toList r s
    | _ => none
def shapeOf (P : Program) (t : TypeId) (vs : List Value) (x : Value) : Prop :=
  (aggT P t = some true ∧ x = .agg vs.toArray) ∨ (aggT P t = some false ∧ vs = [x])
theorem part_run {t n : Nat} {b : Bool} (hn : szT P t = some n) (ha : aggT P t = some b) {xs : Array Value} {pre v1 v2 : List Value} (hx : xs.toList = pre ++ (v1 ++ v2)) (h1 : v1.length = n) (hone : b = false → n = 1) (w : World) :
    ∃ x, (part t xs pre.length).run P w = .ok x w ∧ shapeOf P t v1 x := by
  have hsz := run_sz (P := P) hn w
  have hag := run_agg (P := P) ha w
  cases b with
  | true =>
    refine ⟨.agg v1.toArray, ?_, .inl ⟨ha, rfl⟩⟩
    unfold part
    simp only [Sem.run_bind, hag, Result.andThen_ok, if_true, hsz, Sem.run_pure]
    congr 2
    apply Array.toList_inj.1
    simp [Array.toList_extract, hx, List.extract, h1]
  | false =>
    have := hone rfl
    subst this
    match v1, h1 with
    | [v], _ =>
      refine ⟨v, ?_, .inr ⟨ha, rfl⟩⟩
      unfold part
      have hc : xs[pre.length]? = some v := by
        rw [← Array.getElem?_toList, hx, List.getElem?_append_right (Nat.le_refl _)]; simp
      simp only [Sem.run_bind, hag, Result.andThen_ok, Bool.false_eq_true, if_false, hc, Sem.run_pure]
theorem aggT_of {t : Nat} {d : TypeDesc} (h : P.underlying t = some d) : aggT P t = some (isAggD d) := by simp [aggT, h]
theorem eqStT_one {d t : Nat} {r s : List C} {b : Bool} (h : eqStT P d t r s = some b) (ha : aggT P t = some false) : r.length = 1 := by
  cases d with
  | zero => cases h
  | succ d =>
    unfold eqStT at h
    split at h
    · split at h
      · rfl
      · cases h
    · split at h
      · rfl
      · cases h
    · split at h
      · rfl
      · cases h
    · rename_i fs hu
      rw [aggT_of hu] at ha; cases ha
    · cases h
theorem eqStT_run : ∀ (d D t : Nat) (r s : List C) (b : Bool), d ≤ D → eqStT P d t r s = some b → ∀ (M M' : Mem) (vs us : List Value) (x y : Value), repRow M r vs → repRow M' s us → shapeOf P t vs x → shapeOf P t us y → ∀ w : World, (Op.equalIn D t x y).run P w = .ok b w
  | 0, _, _, _, _, _, _, h => by cases h
  | d + 1, 0, _, _, _, _, hd, h => by omega
  | d + 1, D + 1, t, r, s, b, hd, h => by
    intro M M' vs us x y hr hs hx hy w
    unfold eqStT at h
    split at h
    · rename_i k0 hu
      split at h
      · rename_i k a k' b'
        by_cases hk : k = k'
        · subst hk
          rw [if_pos rfl] at h
          simp only [Option.some.injEq] at h
          subst h
          simp only [repRow, C.rep] at hr hs
          obtain ⟨v, vs', e, e1, e2⟩ := hr
          obtain ⟨v', vs'', f, f1, f2⟩ := hs
          subst e2 f2 e f e1 f1
          rcases hx with ⟨hx, _⟩ | ⟨_, hx⟩
          · rw [aggT_of hu] at hx; cases hx
          rcases hy with ⟨hy, _⟩ | ⟨_, hy⟩
          · rw [aggT_of hu] at hy; cases hy
          simp only [List.cons.injEq, and_true] at hx hy
          subst hx hy
          simp only [Op.equalIn, Sem.run_bind, run_underlying hu, Result.andThen_ok, if_true, Sem.run_pure]
          rfl
        · rw [if_neg hk] at h; cases h
      · cases h
    · rename_i hu
      split at h
      · rename_i a b'
        simp only [Option.some.injEq] at h
        subst h
        simp only [repRow, C.rep] at hr hs
        obtain ⟨v, vs', e, e1, e2⟩ := hr
        obtain ⟨v', vs'', f, f1, f2⟩ := hs
        subst e2 f2 e f e1 f1
        rcases hx with ⟨hx, _⟩ | ⟨_, hx⟩
        · rw [aggT_of hu] at hx; cases hx
        rcases hy with ⟨hy, _⟩ | ⟨_, hy⟩
        · rw [aggT_of hu] at hy; cases hy
        simp only [List.cons.injEq, and_true] at hx hy
        subst hx hy
        exact Sx.run_equalIn_bool D hu a b' w
      · cases h
    · rename_i hu
      split at h
      · rename_i a b'
        simp only [Option.some.injEq] at h
        subst h
        simp only [repRow, C.rep] at hr hs
        obtain ⟨v, vs', e, e1, e2⟩ := hr
        obtain ⟨v', vs'', f, f1, f2⟩ := hs
        subst e2 f2 e f e1 f1
        rcases hx with ⟨hx, _⟩ | ⟨_, hx⟩
        · rw [aggT_of hu] at hx; cases hx
        rcases hy with ⟨hy, _⟩ | ⟨_, hy⟩
        · rw [aggT_of hu] at hy; cases hy
        simp only [List.cons.injEq, and_true] at hx hy
        subst hx hy
        exact run_equalIn_str D hu a b' w
      · cases h
    · rename_i fs hu
      cases hst : P.stoodInHeld t with
      | true => rw [hst] at h; cases h
      | false =>
        rw [hst] at h
        simp only [cond_false] at h
        rcases hx with ⟨_, hx⟩ | ⟨hx, _⟩
        · rcases hy with ⟨_, hy⟩ | ⟨hy, _⟩
          · subst hx hy
            have hf : P.fieldsOf t = fs := by unfold Program.fieldsOf; rw [hu]
            rw [run_equalIn_struct w D t _ _ (by rw [hf]; exact hu) hst, hf]
            have key : ∀ (fs : List Field) (off : Nat) (r s : List C) (b : Bool), eqFs P (eqStT P d) off fs r s = some b → ∀ (pre pre' v1 u1 : List Value), pre.length = off → pre'.length = off → vs = pre ++ v1 → us = pre' ++ u1 → repRow M r v1 → repRow M' s u1 → ∀ w : World,
                (Op.eqFields D vs.toArray us.toArray fs).run P w = .ok b w := by
              intro fs
              induction fs with
              | nil =>
                intro off r s b h pre pre' v1 u1 _ _ _ _ _ _ w
                unfold eqFs at h
                split at h
                · simp only [Option.some.injEq] at h; subst h; rfl
                · cases h
                · rename_i heq _ _ _ _; cases heq
              | cons f fs ih =>
                intro off r s b h pre pre' v1 u1 hp hp' hv hu' hr1 hs1 w
                unfold eqFs at h
                split at h
                · rename_i n ag hn hag
                  split at h
                  · rename_i r1 r2 s1 s2 hc1 hc2
                    cases hcond : (f.offset == off && f.name != "_") with
                    | false => rw [hcond] at h; cases h
                    | true =>
                      rw [hcond] at h
                      simp only [cond_true] at h
                      simp only [Bool.and_eq_true, beq_iff_eq, bne_iff_ne] at hcond
                      split at h
                      · rename_i bx by_ hbx hby
                        simp only [Option.some.injEq] at h
                        subst h
                        obtain ⟨e1, l1⟩ := cutC_spec hc1
                        obtain ⟨e2, l2⟩ := cutC_spec hc2
                        subst e1 e2
                        obtain ⟨a1, a2, ev, ha1, ha2⟩ := repRow_split hr1
                        obtain ⟨c1, c2, eu, hc1', hc2'⟩ := repRow_split hs1
                        subst ev eu
                        have hone : ag = false → n = 1 := by
                          intro e; subst e
                          rw [← l1]; exact eqStT_one hbx hag
                        obtain ⟨x, hx, hxs⟩ := part_run (P := P) hn hag (xs := vs.toArray) (pre := pre) (v1 := a1) (v2 := a2) (by simpa using hv) (by rw [repRow_length ha1, l1]) hone w
                        obtain ⟨y, hy, hys⟩ := part_run (P := P) hn hag (xs := us.toArray) (pre := pre') (v1 := c1) (v2 := c2) (by simpa using hu') (by
                          rw [repRow_length hc1', l2]) hone w
                        have heq := eqStT_run d D f.type r1 s1 bx (by omega) hbx M M' a1 c1 x y ha1 hc1' hxs hys w
                        rw [hp] at hx
                        rw [hp'] at hy
                        have hrest := ih (off + n) r2 s2 by_ hby (pre ++ a1) (pre' ++ c1) a2 c2 (by rw [List.length_append, repRow_length ha1, l1, hp]) (by rw [List.length_append, repRow_length hc1', l2, hp']) (by rw [hv, List.append_assoc]) (by rw [hu', List.append_assoc]) ha2 hc2' w
                        simp only [Op.eqFields, hcond.2, ne_eq, not_false_eq_true, if_true, hcond.1, Sem.run_bind, hx, hy, heq, Result.andThen_ok, Sem.run_ite]
                        cases bx
                        · simp
                        · simpa using hrest
                      · cases h
                  · cases h
                · cases h
            exact key fs.toList 0 r s b h [] [] vs us rfl rfl rfl rfl hr hs w
          · rw [aggT_of hu] at hy; cases hy
        · rw [aggT_of hu] at hx; cases hx
    · cases h
def vBinE (P : Program) (op : BinOp) (ty : TypeId) (x y : Option T) (K : T → Prop) : Prop :=
  match x, y with
  | some (.st r), some (.st s) => match eqStT P 6 ty r s with
    | some b => P.eqGuardType P.depth ty = false ∧ aggT P ty = some true ∧ (match op with
      | .eql => K (Bo b)
      | .neq => K (Bo (!b))
      | _ => False)
    | none => False
  | x, y => vBin P op ty x y K
theorem vBinE_sound {op : BinOp} {ty : TypeId} {x y : Operand} {yt : TypeId} {env : Env} {B : Bx} {o : Oper} {K : T → Prop} (ho : o.op = .binOp op ty x y yt)
    (h : vBinE P op ty (ev P env ty x) (ev P env yt y) K) : ∃ t, OpP P o env B t ∧ K t := by
  unfold vBinE at h
  split at h
  · rename_i r s ex ey
    split at h
    · rename_i b hb
      obtain ⟨hg, hag, h⟩ := h
      have hx : x ∈ o.op.operands := by rw [ho]; simp [Op.operands]
      have hy : y ∈ o.op.operands := by rw [ho]; simp [Op.operands]
      have hrun : ∀ (a : Act) (w : World), (execOp a.eval o).run P w = ((eqGuard op ty x y (a.eval x) (a.eval y)).run P w).andThen fun _ w => ((binOp op ty (a.eval x) (a.eval y)).run P w).andThen fun v w => .ok (.value v) w := by
        intro a w
        unfold execOp
        rw [ho]
        simp only [Sem.run_bind, Sem.run_pure]
        cases (eqGuard op ty x y (a.eval x) (a.eval y)).run P w <;> rfl
      cases op <;> simp only [] at h <;> try exact h.elim
      all_goals
        refine ⟨_, OpP.of_val fun κ M ν ac w B' hB he hs => ⟨_, ?_, rep_bool.2 rfl⟩, h⟩
        have e1 := ev_rep he hx ex
        have e2 := ev_rep he hy ey
        simp only [T.rep] at e1 e2
        obtain ⟨xs, e1, hr⟩ := e1
        obtain ⟨ys, e2, hs'⟩ := e2
        have hE := eqStT_run 6 10000 ty r s b (by omega) hb M M xs.toList ys.toList (.agg xs) (.agg ys) hr hs' (.inl ⟨hag, by simp⟩) (.inl ⟨hag, by simp⟩) w
        rw [hrun, e1, e2, run_eqGuard_agg w _ ty x y xs ys hg]
        simp only [Result.andThen_ok, run_eql_struct, run_neq_struct, hE]
    · exact h.elim
  · exact vBin_sound ho h
def assoc (k : List UInt8) : List (List UInt8 × List C) → Option (List C)
  | [] => none
  | p :: es => bif decide (p.1 = k) then some p.2 else assoc k es
def putA (k : List UInt8) (r : List C) : List (List UInt8 × List C) → List (List UInt8 × List C)
  | [] => [(k, r)]
  | p :: es => bif decide (p.1 = k) then (k, r) :: es else p :: putA k r es
def isAggV : Value → Bool
  | .agg _ => true
  | _ => false
def mpT (P : Program) (t : TypeId) : Option (List C × Bool) :=
  match P.underlying t with
  | some (.map kt et) => match P.underlying kt, zeroT P et, (P.info? et).bind (·.zero), aggT P et with
    | some .string, some zs, some z, some ag => bif isAggV z == ag then some (zs, ag) else none
    | _, _, _, _ => none
  | _ => none
theorem mpT_spec {t : TypeId} {zs : List C} {ag : Bool} (h : mpT P t = some (zs, ag)) : ∃ kt et z, P.underlying t = some (.map kt et) ∧ P.underlying kt = some .string ∧ (∀ w, (zeroValue et).run P w = .ok z w) ∧ ∀ M, repVal M ag zs z := by
  unfold mpT at h
  split at h
  · rename_i kt et hu
    split at h
    · rename_i zs' z ag' hk hz hi ha
      cases hb : isAggV z == ag' with
      | false => rw [hb] at h; cases h
      | true =>
        rw [hb] at h
        simp only [cond_true, Option.some.injEq, Prod.mk.injEq] at h
        obtain ⟨rfl, rfl⟩ := h
        have hz1 : ∀ w, (zeroValue et).run P w = .ok z w := by
          obtain ⟨i, hi1, hi2⟩ := Option.bind_eq_some_iff.1 hi
          exact fun w => by simp [zeroValue, typeInfo, hi1, hi2]
        have hz2 : zmatch zs' z.cells.toList = true := by
          unfold zeroT at hz
          rw [hi] at hz
          split at hz
          · rename_i zs2 z2 h1 h2
            cases h2
            cases hm : zmatch zs2 z.cells.toList with
            | false => rw [hm] at hz; cases hz
            | true => rw [hm] at hz; cases hz; exact hm
          · cases hz
        refine ⟨kt, et, z, hu, hk, hz1, fun M => ?_⟩
        have hm := zmatch_spec (M := M) hz2
        unfold repVal
        have hag : isAggV z = ag' := by simpa using hb
        subst hag
        cases z <;> simp only [isAggV, cond_true, cond_false, Value.cells] at hm ⊢
        case agg a => exact ⟨a, rfl, hm⟩
        all_goals exact hm
    · cases h
  · cases h
def valT (ag : Bool) (r : List C) : T := bif ag then .st r else .one (.dat (r.headD .fnil))
theorem valT_rep {M : Mem} {ν : Nu} {ag : Bool} {r : List C} {v : Value} (h : repVal M ag r v) : (valT ag r).rep M ν v := by
  unfold repVal at h
  unfold valT
  cases ag with
  | true => simpa only [cond_true, T.rep] using h
  | false =>
    simp only [cond_false] at h ⊢
    cases r with
    | nil => simp only [repRow] at h; cases h
    | cons c r =>
      simp only [repRow] at h
      obtain ⟨v', vs', e, h1, _⟩ := h
      cases e
      simpa only [T.rep, Cell.rep, List.headD_cons] using h1
theorem str_eq {k s : List UInt8} : ((⟨k.toArray⟩ : ByteArray) == ⟨s.toArray⟩) = decide (s = k) := by
  rw [Bool.eq_iff_iff, MapKept.bytes_beq, decide_eq_true_iff]
  constructor
  · intro e
    have : k.toArray = s.toArray := congrArg ByteArray.data e
    simpa using this.symm
  · rintro rfl; rfl
theorem find_ents {M : Mem} {ag : Bool} (k : List UInt8) : ∀ (es : List (List UInt8 × List C)) (ents : List MapEntry) (i : Nat), repEnts M ag es ents →
    (assoc k es = none ∧ Instr.findNow .string (.string ⟨k.toArray⟩) ents i = some none) ∨
    ∃ r j e, assoc k es = some r ∧ Instr.findNow .string (.string ⟨k.toArray⟩) ents i = some (some (i + j, e.val)) ∧ ents[j]? = some e ∧ e.key = .string ⟨k.toArray⟩ ∧ repVal M ag r e.val ∧
      ∀ r' v', repVal M ag r' v' → repEnts M ag (putA k r' es) (ents.modify j fun e => { e with key := .string ⟨k.toArray⟩, val := v' })
  | [], ents, i, h => by
    simp only [repEnts] at h
    subst h
    exact .inl ⟨rfl, rfl⟩
  | p :: es, ents, i, h => by
    obtain ⟨e, es', rfl, hk, hv, hr⟩ := h
    by_cases hp : p.1 = k
    · right
      refine ⟨p.2, 0, e, by simp [assoc, hp], ?_, rfl, by rw [hk, hp], hv, fun r' v' hv' => ?_⟩
      · simp only [Instr.findNow, hk, Instr.sameNow, str_eq, hp, decide_true, Nat.add_zero]
      · simp only [putA, hp, decide_true, cond_true, List.modify_zero_cons, repEnts]
        exact ⟨_, _, rfl, rfl, hv', hr⟩
    · rcases find_ents k es es' (i + 1) hr with ⟨h1, h2⟩ | ⟨r, j, e', h1, h2, h3, h4, h5, h6⟩
      · left
        refine ⟨by simp [assoc, hp, h1], ?_⟩
        simp only [Instr.findNow, hk, Instr.sameNow, str_eq, hp, decide_false]
        exact h2
      · right
        refine ⟨r, j + 1, e', by simp [assoc, hp, h1], ?_, by simpa using h3, h4, h5, fun r' v' hv' => ?_⟩
        · simp only [Instr.findNow, hk, Instr.sameNow, str_eq, hp, decide_false]
          rw [h2, show i + 1 + j = i + (j + 1) by omega]
        · simp only [putA, hp, decide_false, cond_false, List.modify_succ_cons, repEnts]
          exact ⟨_, _, rfl, hk, hv, h6 r' v' hv'⟩
theorem push_ents {M : Mem} {ag : Bool} {k : List UInt8} {r : List C} {v : Value} (hv : repVal M ag r v) (clock : Nat) : ∀ (es : List (List UInt8 × List C)) (ents : List MapEntry), assoc k es = none → repEnts M ag es ents →
    repEnts M ag (putA k r es) (ents ++ [{ key := .string ⟨k.toArray⟩, val := v, born := clock }])
  | [], ents, _, h => by
    simp only [repEnts] at h
    subst h
    simp only [putA, List.nil_append, repEnts]
    exact ⟨_, _, rfl, rfl, hv, rfl⟩
  | p :: es, ents, ha, h => by
    obtain ⟨e, es', rfl, hk, hv', hr⟩ := h
    by_cases hp : p.1 = k
    · simp [assoc, hp] at ha
    · simp only [assoc, hp, decide_false, cond_false] at ha
      simp only [putA, hp, decide_false, cond_false, List.cons_append, repEnts]
      exact ⟨e, _, rfl, hk, hv', push_ents hv clock es es' ha hr⟩
theorem Sat.new_map {κ : Kap} {M : Mem} {ν : Nu} {B : Bx} {w : World} {k : Nat} {r : Res} {o : Obj} (h : Sat κ M ν B w) (hf : Bx.fresh k B = true)
    (hr : r.ok M (ν.set k ⟨some w.heap.size, 0⟩) { w with heap := w.heap.push o } k) :
    Sat κ M (ν.set k ⟨some w.heap.size, 0⟩) ((k, r) :: B) { w with heap := w.heap.push o } where
  os := h.os
  tape := h.tape
  output := h.output
  dr := h.dr
  size := by simp; have := h.size; omega
  unch := fun b hb hD => by
    rw [← h.unch b hb hD]
    exact push_old (Nat.lt_of_lt_of_le hb h.size)
  fro := fun b x e => push_get (h.fro _ _ e)
  res := fun j q hm => by
    rcases List.mem_cons.1 hm with e | hm
    · cases e; exact hr
    · obtain ⟨hj, hc⟩ := Bx.fresh_spec hf hm
      exact Res.ok_fresh Nu.set_other hj hc (Res.ok_mono (Mem.le.refl M) (fun b x e _ => push_get e) (h.res j q hm))
  away := fun j q b hm hb => by
    rcases List.mem_cons.1 hm with e | hm
    · cases e
      rw [Nu.set_self] at hb
      simp only [Option.some.injEq] at hb
      subst hb
      refine ⟨?_, .inl h.size⟩
      cases hM : M w.heap.size with
      | none => rfl
      | some o => have := h.fro _ _ hM; simp at this
    · obtain ⟨hj, _⟩ := Bx.fresh_spec hf hm
      rw [Nu.set_other j hj] at hb
      exact h.away j q b hm hb
  inj := fun j q j' q' b hm hm' hb hb' => by
    rcases List.mem_cons.1 hm with e | hm <;> rcases List.mem_cons.1 hm' with e' | hm'
    · cases e; cases e'; rfl
    · cases e
      obtain ⟨hj, _⟩ := Bx.fresh_spec hf hm'
      rw [Nu.set_self] at hb
      rw [Nu.set_other j' hj] at hb'
      simp only [Option.some.injEq] at hb
      have := Res.blk_lt (h.res j' q' hm') hb'
      omega
    · cases e'
      obtain ⟨hj, _⟩ := Bx.fresh_spec hf hm
      rw [Nu.set_self] at hb'
      rw [Nu.set_other j hj] at hb
      simp only [Option.some.injEq] at hb'
      have := Res.blk_lt (h.res j q hm) hb
      omega
    · obtain ⟨hj, _⟩ := Bx.fresh_spec hf hm
      obtain ⟨hj', _⟩ := Bx.fresh_spec hf hm'
      rw [Nu.set_other j hj] at hb
      rw [Nu.set_other j' hj'] at hb'
      exact h.inj j q j' q' b hm hm' hb hb'
  nodup := by
    simp only [List.map_cons, List.nodup_cons]
    refine ⟨fun hm => ?_, h.nodup⟩
    obtain ⟨x, hx, e⟩ := List.mem_map.1 hm
    exact (Bx.fresh_spec (j := x.1) (r := x.2) hf hx).1 e
def vMakeMap (P : Program) (k : Nat) (t : TypeId) (env : Env) (B : Bx) (K : T → Bx → Prop) : Prop :=
  match mpT P t with
  | some (_, ag) => Env.fresh k env = true ∧ Bx.fresh k B = true ∧ K (.one (.mp k)) ((k, .mp ag []) :: B)
  | none => False
theorem vMakeMap_sound {t : TypeId} {env : Env} {B : Bx} {o : Oper} {K : T → Bx → Prop} (ho : o.op = .makeMap t none) (h : vMakeMap P (dstN o) t env B K) :
    ∃ t B', OpG P o env B (dstN o) t B' ∧ Env.fresh (dstN o) env = true ∧ K t B' := by
  unfold vMakeMap at h
  split at h
  · rename_i zs ag hz
    obtain ⟨hf, hfB, hK⟩ := h
    refine ⟨_, _, OpG.of_run fun κ M ν a w he hs => ?_, hf, hK⟩
    refine ⟨.map (some w.heap.size), _, M, ν.set (dstN o) ⟨some w.heap.size, 0⟩, exec_v (s := Instr.makeMap t none) (by unfold execOp; rw [ho]; rfl) ?_, Mem.ext.refl κ M, Nu.set_other, ?_, Sat.new_map (o := .map #[] 0) hs hfB ?_⟩
    · rfl
    · simp only [T.rep, Cell.rep]
      exact ⟨w.heap.size, by rw [Nu.set_self], rfl⟩
    · simp only [Res.ok]
      exact ⟨w.heap.size, #[], 0, by rw [Nu.set_self], push_new, rfl⟩
  · exact h.elim
def vLookup (P : Program) (t : TypeId) (B : Bx) (x ix : Option T) (ok : Bool) (K : T → Prop) : Prop :=
  match mpT P t with
  | some (zs, ag) => match x, ix with
    | some (.one (.mp k)), some (.one (.dat (.str s))) => match B.lookup k with
      | some (.mp ag' es) => ag' = ag ∧ K (bif ok then .tup [valT ag ((assoc s es).getD zs), .one (.dat (.bool (assoc s es).isSome))] else valT ag ((assoc s es).getD zs))
      | _ => False
    | _, _ => False
  | none => False
theorem lookup_run {M : Mem} {t kt et : TypeId} {zs : List C} {z : Value} {ag : Bool} {s : List UInt8} {es : List (List UInt8 × List C)} {ents : Array MapEntry} {clock b : Nat} {w : World} (ok : Bool) (hu : P.underlying t = some (.map kt et)) (hk : P.underlying kt = some .string)
    (hz : ∀ w, (zeroValue et).run P w = .ok z w) (hzr : repVal M ag zs z) (hb : w.heap[b]? = some (.map ents clock)) (hr : repEnts M ag es ents.toList) :
    ∃ v, (Instr.lookup t (.map (some b)) (.string ⟨s.toArray⟩) ok).run P w = .ok (if ok then .tuple #[v, .bool (assoc s es).isSome] else v) w ∧ repVal M ag ((assoc s es).getD zs) v := by
  have hkey : MapKept.IsKey .string (.string ⟨s.toArray⟩) := by trivial
  rcases find_ents s es ents.toList 0 hr with ⟨h1, h2⟩ | ⟨r, j, e, h1, h2, h3, h4, h5, h6⟩
  · refine ⟨z, ?_, by rw [h1]; exact hzr⟩
    simp [Instr.lookup, run_underlying hu, MapKept.run_getObj_map hb, MapKept.run_checkKey hk hkey, MapKept.run_findKey hk h2, hz, h1, Result.andThen]
  · refine ⟨e.val, ?_, by rw [h1]; exact h5⟩
    simp [Instr.lookup, run_underlying hu, MapKept.run_getObj_map hb, MapKept.run_checkKey hk hkey, MapKept.run_findKey hk h2, h1, Result.andThen]
theorem vLookup_sound {t tx ti : TypeId} {x ix : Operand} {ok : Bool} {env : Env} {B : Bx} {o : Oper} {K : T → Prop} (ho : o.op = .lookup t x ix ok) (h : vLookup P t B (ev P env tx x) (ev P env ti ix) ok K) : ∃ u, OpP P o env B u ∧ K u := by
  have hx : x ∈ o.op.operands := by rw [ho]; simp [Op.operands]
  have hi : ix ∈ o.op.operands := by rw [ho]; simp [Op.operands]
  unfold vLookup at h
  split at h
  · rename_i zs ag hm
    obtain ⟨kt, et, z, hu, hk, hz, hzr⟩ := mpT_spec hm
    split at h
    · rename_i k s ex ei
      split at h
      · rename_i ag' es hb
        obtain ⟨rfl, hK⟩ := h
        refine ⟨_, OpP.of_val fun κ M ν a w B' hB he hs => ?_, hK⟩
        have hr := ev_rep he hx ex
        have hr2 := ev_rep he hi ei
        simp only [T.rep, Cell.rep] at hr hr2
        simp only [C.rep] at hr2
        obtain ⟨b, hb1, ep⟩ := hr
        have hres := hs.res k _ (hB _ (lookup_box hb))
        simp only [Res.ok] at hres
        obtain ⟨b', ents, clock, hb2, hheap, hents⟩ := hres
        rw [hb1] at hb2; cases hb2
        obtain ⟨v, hrun, hv⟩ := lookup_run (s := s) ok hu hk hz (hzr M) hheap hents
        refine ⟨_, exec_v (s := Instr.lookup t (a.eval x) (a.eval ix) ok) (by unfold execOp; rw [ho]) (by rw [ep, hr2]; exact hrun), ?_⟩
        cases ok with
        | true =>
          simp only [cond_true, if_true, T.rep]
          exact ⟨[v, .bool (assoc s es).isSome], rfl, v, _, rfl, valT_rep hv, _, [], rfl, by simp only [T.rep, Cell.rep, C.rep], rfl⟩
        | false =>
          simp only [cond_false, Bool.false_eq_true, if_false]
          exact valT_rep hv
      · exact h.elim
    · exact h.elim
  · exact h.elim
theorem Sat.setObj {κ : Kap} {M : Mem} {ν : Nu} {B : Bx} {w : World} {k b : Nat} {r r' : Res} {o : Obj} (h : Sat κ M ν B w) (hk : (k, r) ∈ B) (hb : (ν k).blk = some b)
    (hr : r'.ok M ν { w with heap := w.heap.setIfInBounds b o } k) : Sat κ M ν (Bx.put k r' B) { w with heap := w.heap.setIfInBounds b o } where
  os := h.os
  tape := h.tape
  output := h.output
  dr := h.dr
  size := by simp; exact h.size
  unch := fun d hd hD => by
    rw [← h.unch d hd hD]
    refine Array.getElem?_setIfInBounds_ne (fun e => ?_)
    subst e
    rcases (h.away k r b hk hb).2 with h2 | h2
    · omega
    · exact hD h2.2
  fro := fun d x e => by
    have hne : b ≠ d := fun e2 => by subst e2; rw [(h.away k r b hk hb).1] at e; cases e
    show (w.heap.setIfInBounds b o)[d]? = _
    rw [Array.getElem?_setIfInBounds_ne hne]
    exact h.fro _ _ e
  res := fun j q hm => by
    rcases Bx.mem_put h.nodup hm with e | ⟨hm, hj⟩
    · cases e; exact hr
    · refine Res.ok_mono (Mem.le.refl M) (fun d x e hd => ?_) (h.res j q hm)
      have hne : b ≠ d := fun e2 => by subst e2; exact hj (h.inj j q k r b hm hk hd hb)
      show (w.heap.setIfInBounds b o)[d]? = _
      rw [Array.getElem?_setIfInBounds_ne hne]
      exact e
  away := fun j q d hm hd => by
    rcases Bx.mem_put h.nodup hm with e | ⟨hm, hj⟩
    · cases e; exact h.away k r d hk hd
    · exact h.away j q d hm hd
  inj := fun j q j' q' d hm hm' hd hd' => by
    have f : ∀ i p, (i, p) ∈ Bx.put k r' B → ∃ p', (i, p') ∈ B := by
      intro i p hp
      rcases Bx.mem_put h.nodup hp with e | ⟨hp, _⟩
      · cases e; exact ⟨r, hk⟩
      · exact ⟨p, hp⟩
    obtain ⟨p, hp⟩ := f j q hm
    obtain ⟨p', hp'⟩ := f j' q' hm'
    exact h.inj j p j' p' d hp hp' hd hd'
  nodup := by rw [Bx.put_keys]; exact h.nodup
def rowOfT (u : T) : Option (Bool × List C) :=
  match u with
  | .st r => some (true, r)
  | .one (.dat c) => some (false, [c.soft])
  | _ => none
theorem rowOfT_spec {u : T} {ag : Bool} {r : List C} {M : Mem} {ν : Nu} {v : Value} (h : rowOfT u = some (ag, r)) (hr : u.rep M ν v) : repVal M ag r v := by
  unfold rowOfT at h
  split at h
  · cases h
    unfold repVal
    simpa only [T.rep, cond_true] using hr
  · cases h
    simp only [T.rep, Cell.rep] at hr
    unfold repVal
    simp only [cond_false, repRow]
    exact ⟨v, [], rfl, C.rep_soft hr, rfl⟩
  · cases h
def vMapPut (P : Program) (t : TypeId) (x ix y : Option T) (B : Bx) (K : Bx → Prop) : Prop :=
  match mpT P t with
  | some (_, ag) => match x, ix, y with
    | some (.one (.mp k)), some (.one (.dat (.str s))), some u => match rowOfT u, B.lookup k with
      | some (ag', r), some (.mp ag2 es) => ag' = ag ∧ ag2 = ag ∧ K (Bx.put k (.mp ag (putA s r es)) B)
      | _, _ => False
    | _, _, _ => False
  | none => False
theorem put_run {M : Mem} {t kt et : TypeId} {ag : Bool} {s : List UInt8} {r : List C} {v : Value} {es : List (List UInt8 × List C)} {ents : Array MapEntry} {clock b : Nat} {w : World} (hu : P.underlying t = some (.map kt et)) (hk : P.underlying kt = some .string)
    (hv : repVal M ag r v) (hb : w.heap[b]? = some (.map ents clock)) (hr : repEnts M ag es ents.toList) :
    ∃ ents' clock', (Instr.mapUpdate t (.map (some b)) (.string ⟨s.toArray⟩) v).run P w = .ok () { w with heap := w.heap.setIfInBounds b (.map ents' clock') } ∧ repEnts M ag (putA s r es) ents'.toList := by
  have hkey : MapKept.IsKey .string (.string ⟨s.toArray⟩) := by trivial
  rcases find_ents s es ents.toList 0 hr with ⟨h1, h2⟩ | ⟨r0, j, e, h1, h2, h3, h4, h5, h6⟩
  · refine ⟨ents.push { key := .string ⟨s.toArray⟩, val := v, born := clock }, clock + 1, ?_, ?_⟩
    · simp [Instr.mapUpdate, run_underlying hu, MapKept.run_getObj_map hb, MapKept.run_checkKey hk hkey, MapKept.run_findKey hk h2, MapKept.run_setObj_map _ hb, Result.andThen]
    · rw [Array.toList_push]
      exact push_ents hv clock es _ h1 hr
  · have h3' : ents[j]? = some e := by simpa using h3
    refine ⟨ents.modify j fun e => { e with key := .string ⟨s.toArray⟩, val := v }, clock, ?_, ?_⟩
    · have hst := MapKept.run_keyThatStays (P := P) (w := w) hkey
      rw [Nat.zero_add] at h2
      simp [Instr.mapUpdate, run_underlying hu, MapKept.run_getObj_map hb, MapKept.run_checkKey hk hkey, MapKept.run_findKey hk h2, h3', h4, hst, MapKept.run_setObj_map _ hb, Result.andThen]
    · rw [Array.toList_modify]
      exact h6 r v hv
theorem vMapPut_sound {t tx ti ty : TypeId} {x ix y : Operand} {env : Env} {B : Bx} {o : Oper} {K : Bx → Prop} (ho : o.op = .mapUpdate t x ix y) (h : vMapPut P t (ev P env tx x) (ev P env ti ix) (ev P env ty y) B K) :
    ∃ B', OpE P o env B undefT B' ∧ K B' := by
  have hx : x ∈ o.op.operands := by rw [ho]; simp [Op.operands]
  have hi : ix ∈ o.op.operands := by rw [ho]; simp [Op.operands]
  have hy : y ∈ o.op.operands := by rw [ho]; simp [Op.operands]
  unfold vMapPut at h
  split at h
  · rename_i zs ag hm
    obtain ⟨kt, et, z, hu, hk, hz, hzr⟩ := mpT_spec hm
    split at h
    · rename_i k s u ex ei ey
      split at h
      · rename_i ag' r ag2 es hrow hb
        obtain ⟨rfl, rfl, hK⟩ := h
        refine ⟨_, OpE.of_skip fun κ M ν a w he hs => ?_, hK⟩
        have hr := ev_rep he hx ex
        have hr2 := ev_rep he hi ei
        have hr3 := rowOfT_spec hrow (ev_rep he hy ey)
        simp only [T.rep, Cell.rep] at hr hr2
        simp only [C.rep] at hr2
        obtain ⟨b, hb1, ep⟩ := hr
        have hres := hs.res k _ (lookup_box hb)
        simp only [Res.ok] at hres
        obtain ⟨b', ents, clock, hb2, hheap, hents⟩ := hres
        rw [hb1] at hb2; cases hb2
        obtain ⟨ents', clock', hrun, hents'⟩ := put_run (P := P) (s := s) hu hk hr3 hheap hents
        refine ⟨_, ?_, hs.setObj (o := .map ents' clock') (lookup_box hb) hb1 ?_⟩
        · unfold execOp; rw [ho]
          simp only [ep, hr2]
          simp only [Sem.run_bind, hrun, Result.andThen_ok, Sem.run_pure]
        · simp only [Res.ok]
          refine ⟨b, ents', clock', hb1, ?_, hents'⟩
          simp [(Array.getElem?_eq_some_iff.1 hheap).1]
      · exact h.elim
    · exact h.elim
  · exact h.elim
end Go.Sx
