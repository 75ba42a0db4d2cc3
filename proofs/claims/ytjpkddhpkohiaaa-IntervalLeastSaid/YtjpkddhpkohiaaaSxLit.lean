/- A part of the proof: lemmas about the walk of the program and about plain integers and lists. No conditions beyond those that each lemma states. -/
import Derived.Test.YtjpkddhpkohiaaaSxOps3
/-! Literals of structs, arrays and slices; new blocks. -/
set_option linter.unusedVariables false
set_option linter.unusedSimpArgs false
namespace Go.Sx
variable {P : Program}

/-! ### new blocks -/
theorem push_get {h : Array Obj} {b : Nat} {o x : Obj} (e : h[b]? = some x) : (h.push o)[b]? = some x := by
  have hlt := (Array.getElem?_eq_some_iff.1 e).1
  rw [Array.getElem?_push, if_neg (by omega)]; exact e
theorem push_old {h : Array Obj} {b : Nat} {o : Obj} (hlt : b < h.size) : (h.push o)[b]? = h[b]? := by
  rw [Array.getElem?_push, if_neg (by omega)]
theorem push_new {h : Array Obj} {o : Obj} : (h.push o)[h.size]? = some o := by simp

theorem Res.ok_mono {M M' : Mem} {ν : Nu} {w w' : World} {k : Nat} (hM : M.le M') (hh : ∀ b x, w.heap[b]? = some x → (ν k).blk = some b → w'.heap[b]? = some x) : ∀ {r : Res}, r.ok M ν w k → r.ok M' ν w' k
  | .cells cs, h => by
    simp only [Res.ok] at h ⊢
    obtain ⟨b, c, et, e1, e2, e3⟩ := h
    exact ⟨b, c, et, e1, hh _ _ e2 e1, Cell.reps_mono hM _ _ e3⟩
  | .row sz rows, h => by
    simp only [Res.ok] at h ⊢
    obtain ⟨h1, h2, h3⟩ := h
    refine ⟨h1, h2, ?_⟩
    rcases h3 with h3 | ⟨b, c, et, mid, post, e1, e2, e3, e4, e5⟩
    · exact .inl h3
    · exact .inr ⟨b, c, et, mid, post, e1, hh _ _ e2 e1, e3, repRows_mono hM _ _ _ e4, e5⟩

theorem Res.blk_lt {M : Mem} {ν : Nu} {w : World} {k b : Nat} : ∀ {r : Res}, r.ok M ν w k → (ν k).blk = some b → b < w.heap.size
  | .cells cs, h, e => by
    simp only [Res.ok] at h
    obtain ⟨b', c, et, e1, e2, e3⟩ := h
    rw [e1] at e; cases e
    exact (Array.getElem?_eq_some_iff.1 e2).1
  | .row sz rows, h, e => by
    simp only [Res.ok] at h
    obtain ⟨h1, h2, h3⟩ := h
    rcases h3 with ⟨h3, _⟩ | ⟨b', c, et, mid, post, e1, e2, e3, e4, e5⟩
    · rw [h3] at e; cases e
    · rw [e1] at e; cases e
      exact (Array.getElem?_eq_some_iff.1 e2).1

def Mem.add (M : Mem) (b : Nat) (o : Obj) : Mem := fun k => if k = b then some o else M k

/-- a new block that is frozen at once -/
theorem frozen_push (w : World) (o : Obj) (ho : ∃ c t, o = .cells c t) (a : Addr) : ({ w with heap := w.heap.push o } : World).frozen? a = w.frozen? a := by
  obtain ⟨c, t, rfl⟩ := ho
  unfold World.frozen?
  by_cases h : a.block = w.heap.size
  · simp [h]
  · have : (w.heap.push (.cells c t))[a.block]? = w.heap[a.block]? := by
      rw [Array.getElem?_push]; simp [h]
    simp only [this]
theorem Sat.freeze_new {κ : Kap} {M : Mem} {ν : Nu} {B : Bx} {w : World} (h : Sat κ M ν B w) (o : Obj) (ho : ∃ c t, o = .cells c t) :
    M.ext κ (M.add w.heap.size o) ∧ Sat κ (M.add w.heap.size o) ν B { w with heap := w.heap.push o } := by
  have hle : M.le (M.add w.heap.size o) := by
    intro b x e
    unfold Mem.add
    split
    · rename_i hb; subst hb
      have := h.fro _ _ e; simp at this
    · exact e
  have hnew : ∀ b x, M.add w.heap.size o b = some x → M b = some x ∨ κ.w.heap.size ≤ b := by
    intro b x e
    unfold Mem.add at e
    split at e
    · rename_i hb; subst hb; exact .inr h.size
    · exact .inl e
  refine ⟨⟨hle, hnew⟩, h.os, h.tape, h.output, h.dr, by simp; have := h.size; omega, ?_, ?_, ?_, ?_, h.inj, h.nodup⟩
  · intro b hb hD
    rw [← h.unch b hb hD]
    exact push_old (Nat.lt_of_lt_of_le hb h.size)
  · intro b x e
    unfold Mem.add at e
    split at e
    · rename_i hb; subst hb; cases e; exact push_new
    · exact push_get (h.fro _ _ e)
  · intro k r hm
    exact Res.ok_mono hle (fun b x e _ => push_get e) (h.res k r hm)
  · intro k r b hm hb
    obtain ⟨h1, h2⟩ := h.away k r b hm hb
    refine ⟨?_, h2⟩
    unfold Mem.add
    have := Res.blk_lt (h.res k r hm) hb
    rw [if_neg (by omega)]; exact h1

/-! ### parts of a literal -/
def toCells : T → Option (List Cell)
  | .one c => some [c]
  | .st r => some (r.map .dat)
  | .agg cs => some cs
  | .tup _ => none
  | .un => none
def lenIs {α : Type} : Nat → List α → Bool
  | 0, [] => true
  | n + 1, _ :: l => lenIs n l
  | _, _ => false
theorem lenIs_spec {α : Type} : ∀ {n : Nat} {l : List α}, lenIs n l = true → l.length = n
  | 0, [], _ => rfl
  | n + 1, _ :: l, h => by simp only [lenIs] at h; simp [lenIs_spec h]
  | 0, _ :: _, h => by simp [lenIs] at h
  | n + 1, [], h => by simp [lenIs] at h

theorem toCells_rep {M : Mem} {ν : Nu} {t : T} {cs : List Cell} {v : Value} (h : toCells t = some cs) (hr : t.rep M ν v) (h1 : ∀ c, t = .one c → ∀ a, v ≠ .agg a) : Cell.reps M ν cs v.cells.toList := by
  cases t with
  | one c =>
    simp only [toCells, Option.some.injEq] at h; subst h
    simp only [T.rep] at hr
    have : v.cells.toList = [v] := by
      cases v <;> first | rfl | exact absurd rfl (h1 c rfl _)
    rw [this]
    simp only [Cell.reps]
    exact ⟨v, [], rfl, hr, rfl⟩
  | st r =>
    simp only [toCells, Option.some.injEq] at h; subst h
    simp only [T.rep] at hr
    obtain ⟨a, e, h⟩ := hr
    subst e
    exact Cell.reps_map_c.2 h
  | agg cs' =>
    simp only [toCells, Option.some.injEq] at h; subst h
    simp only [T.rep] at hr
    obtain ⟨a, e, h⟩ := hr
    subst e
    exact h
  | tup ts => cases h
  | un => cases h

theorem C.rep_noagg {M : Mem} {c : C} {v : Value} (h : c.rep M v) (a : Array Value) : v ≠ .agg a := by
  cases c <;> simp only [C.rep] at h
  case sl => obtain ⟨_, _, _, e, _⟩ := h; subst e; simp
  all_goals subst h; simp
theorem Cell.rep_noagg {M : Mem} {ν : Nu} {c : Cell} {v : Value} (h : c.rep M ν v) (a : Array Value) : v ≠ .agg a := by
  cases c <;> simp only [Cell.rep] at h
  case dat => exact C.rep_noagg h a
  case ptr => obtain ⟨_, _, e⟩ := h; subst e; simp
  case own => subst h; simp
  case rp => obtain ⟨_, _, e⟩ := h; subst e; simp
  case ref => obtain ⟨_, _, _, e, _⟩ := h; subst e; simp
  case clo => obtain ⟨_, e, _⟩ := h; subst e; simp

theorem cells_of {M : Mem} {ν : Nu} {t : T} {cs : List Cell} {v : Value} (h : toCells t = some cs) (hr : t.rep M ν v) : Cell.reps M ν cs v.cells.toList :=
  toCells_rep h hr fun c e a => by subst e; simp only [T.rep] at hr; exact Cell.rep_noagg hr a

/-- C cells that every world reads so: zero values -/
def zmatch : List C → List Value → Bool
  | [], [] => true
  | c :: cs, v :: vs => (match c, v with
    | .int k n, .int k' n' => decide (k = k' ∧ n = n')
    | .bool b, .bool b' => b == b'
    | .str [], .string s => s.data.size == 0
    | .nil _, .slice none 0 0 => true
    | _, _ => false) && zmatch cs vs
  | _, _ => false
theorem zmatch_spec {M : Mem} : ∀ {cs : List C} {vs : List Value}, zmatch cs vs = true → repRow M cs vs
  | [], [], _ => by simp only [repRow]
  | c :: cs, v :: vs, h => by
    simp only [zmatch, Bool.and_eq_true] at h
    simp only [repRow]
    refine ⟨v, vs, rfl, ?_, zmatch_spec h.2⟩
    have h1 := h.1
    split at h1
    · simp only [decide_eq_true_eq] at h1; obtain ⟨rfl, rfl⟩ := h1; simp only [C.rep]
    · simp only [beq_iff_eq] at h1; subst h1; simp only [C.rep]
    · rename_i s
      simp only [beq_iff_eq] at h1
      simp only [C.rep]
      have : s = ByteArray.mk [].toArray := by apply ByteArray.ext; exact Array.eq_empty_of_size_eq_zero h1
      rw [this]
    · simp only [C.rep]
    · cases h1
  | [], _ :: _, h => by simp [zmatch] at h
  | _ :: _, [], h => by simp [zmatch] at h

/-- the zero cells of a type, by its form -/
def zeroC (P : Program) : Nat → TypeId → Option (List C)
  | 0, _ => none
  | d + 1, t =>
    match P.underlying t with
    | some (.int k) => some [.int k 0]
    | some .bool => some [.bool false]
    | some .string => some [.str []]
    | some (.slice e) => (szT P e).map fun n => [.nil n]
    | some (.struct fs) => fs.toList.foldr (fun f acc => match zeroC P d f.type, acc with
      | some x, some y => some (x ++ y)
      | _, _ => none) (some [])
    | some (.array n e) => (zeroC P d e).map fun x => (List.replicate n x).flatten
    | _ => none
def zeroT (P : Program) (t : TypeId) : Option (List C) :=
  match zeroC P 12 t, (P.info? t).bind (·.zero) with
  | some zs, some z => bif zmatch zs z.cells.toList then some zs else none
  | _, _ => none
theorem zeroT_spec {t : TypeId} {zs : List C} (h : zeroT P t = some zs) : ∃ z, (∀ w, (zeroValue t).run P w = .ok z w) ∧ zmatch zs z.cells.toList = true := by
  unfold zeroT at h
  split at h
  · rename_i zs' z h1 h2
    cases hm : zmatch zs' z.cells.toList with
    | false => rw [hm] at h; cases h
    | true =>
      rw [hm] at h
      simp only [cond_true, Option.some.injEq] at h
      subst h
      obtain ⟨i, hi, hz⟩ := Option.bind_eq_some_iff.1 h2
      exact ⟨z, fun w => by simp [zeroValue, typeInfo, hi, hz], hm⟩
  · cases h

/-- place, size and type of part i of a struct or an array -/
def prtT (P : Program) (t i : Nat) : Option (Nat × Nat × TypeId) :=
  match P.underlying t with
  | some (.struct fs) => match fs[i]? with
    | some fd => (szT P fd.type).map fun n => (fd.offset, n, fd.type)
    | none => none
  | some (.array len e) => (szT P e).map fun n => (i * n, n, e)
  | _ => none
/-- the sizes of all fields are known -/
def fieldsOk (P : Program) (t : TypeId) : Bool :=
  match P.underlying t with
  | some (.struct fs) => fs.toList.all fun f => (szT P f.type).isSome
  | some (.array _ e) => (szT P e).isSome
  | _ => false

def vParts (P : Program) (t : TypeId) (env : Env) : List (Nat × Operand) → List Cell → Option (List Cell)
  | [], cs => some cs
  | (i, x) :: rest, cs => match prtT P t i with
    | some (off, n, ty) => match ev P env ty x with
      | some u => match toCells u with
        | some part => bif lenIs n part then (match cutC off cs with
          | some (pre, y) => match cutC n y with
            | some (_, post) => vParts P t env rest (pre ++ (part ++ post))
            | none => none
          | none => none) else none
        | none => none
      | none => none
    | none => none

def vBuild (P : Program) (t : TypeId) (env : Env) (parts : List (Nat × Operand)) (K : T → Prop) : Prop :=
  match zeroT P t with
  | some zs => match vParts P t env parts (zs.map .dat) with
    | some cs => fieldsOk P t = true ∧ K (mkAgg cs)
    | none => False
  | none => False

theorem splice (part : List Value) : ∀ (pre mid post : List Value) (j : Nat), mid.length = part.length →
    (part.zipIdx j).foldl (fun (cs : Array Value) (p : Value × Nat) => cs.setIfInBounds (pre.length - j + p.2) p.1) (pre ++ (mid ++ post)).toArray = (pre ++ (part ++ post)).toArray ∨ pre.length < j := by
  induction part with
  | nil => intro pre mid post j h; left; simp at h; subst h; simp
  | cons v part ih =>
    intro pre mid post j h
    by_cases hj : pre.length < j
    · exact .inr hj
    · left
      cases mid with
      | nil => simp at h
      | cons m mid =>
        rw [List.zipIdx_cons, List.foldl_cons]
        have e1 : ((pre ++ (m :: mid ++ post)).toArray).setIfInBounds (pre.length - j + j) v = ((pre ++ [v]) ++ (mid ++ post)).toArray := by
          have : pre.length - j + j = pre.length := by omega
          rw [this]
          apply Array.ext'
          simp
        rw [e1]
        have := ih (pre ++ [v]) mid post (j + 1) (by simpa using h)
        rcases this with this | this
        · have e2 : (pre ++ [v]).length - (j + 1) = pre.length - j := by simp
          rw [e2] at this
          rw [this]; simp
        · simp at this; omega

theorem fill_step {place : Nat → Option (Nat × Nat)} {cells : Array Value} {i off n : Nat} {v : Value} {rest : List (Nat × Value)} {pre mid post : List Value}
    (hp : place i = some (off, n)) (hv : v.cells.size = n) (hc : cells.toList = pre ++ (mid ++ post)) (h1 : pre.length = off) (h2 : mid.length = n) :
    Instr.fill place cells ((i, v) :: rest) = Instr.fill place (pre ++ (v.cells.toList ++ post)).toArray rest := by
  rw [Instr.fill]
  have hsz : cells.size = off + (n + post.length) := by
    rw [← Array.length_toList, hc]; simp [h1, h2]
  simp only [hp]
  rw [if_neg (by simp [hv]; omega)]
  congr 1
  have := splice v.cells.toList pre mid post 0 (by simp [h2, hv])
  rcases this with this | this
  · simp only [Nat.sub_zero] at this
    rw [← this, ← hc, ← h1]
    rw [← Array.foldl_toList]
    simp [Array.toList_zipIdx]
  · omega

theorem vParts_sound {t : TypeId} {env : Env} {M : Mem} {ν : Nu} {a : Act} {place : Nat → Option (Nat × Nat)} (hpl : ∀ i off n ty, prtT P t i = some (off, n, ty) → place i = some (off, n)) :
    ∀ (parts : List (Nat × Operand)) (cs cs' : List Cell) (cells : Array Value), (∀ p ∈ parts, ∀ ty u, ev P env ty p.2 = some u → u.rep M ν (a.eval p.2)) → vParts P t env parts cs = some cs' → Cell.reps M ν cs cells.toList →
      ∃ cells', Instr.fill place cells (parts.map fun (i, x) => (i, a.eval x)) = some cells' ∧ Cell.reps M ν cs' cells'.toList
  | [], cs, cs', cells, _, h, hr => by
    simp only [vParts, Option.some.injEq] at h
    subst h
    exact ⟨cells, rfl, hr⟩
  | (i, x) :: rest, cs, cs', cells, he, h, hr => by
    simp only [vParts] at h
    split at h
    · rename_i off n ty hp
      split at h
      · rename_i u hu
        split at h
        · rename_i part hpart
          cases hl : lenIs n part with
          | false => rw [hl] at h; cases h
          | true =>
            rw [hl] at h
            simp only [cond_true] at h
            split at h
            · rename_i pre y hc1
              split at h
              · rename_i old post hc2
                obtain ⟨e1, l1⟩ := cutC_spec hc1
                obtain ⟨e2, l2⟩ := cutC_spec hc2
                have hrep := cells_of hpart (he (i, x) (by simp) ty u hu)
                rw [e1] at hr
                obtain ⟨w1, w23, ew, hw1, hw23⟩ := Cell.reps_split hr
                rw [e2] at hw23
                obtain ⟨w2, w3, ew2, hw2, hw3⟩ := Cell.reps_split hw23
                have hvl : (a.eval x).cells.size = n := by rw [← Array.length_toList, Cell.reps_length hrep]; exact lenIs_spec hl
                have step := fill_step (place := place) (cells := cells) (i := i) (off := off) (n := n) (v := a.eval x) (rest := rest.map fun (i, x) => (i, a.eval x)) (pre := w1) (mid := w2) (post := w3)
                  (hpl i off n ty hp) hvl (by rw [ew, ew2]) (by rw [Cell.reps_length hw1, l1]) (by rw [Cell.reps_length hw2, l2])
                have hnew : Cell.reps M ν (pre ++ (part ++ post)) (w1 ++ ((a.eval x).cells.toList ++ w3)) := Cell.reps_append hw1 (Cell.reps_append hrep hw3)
                obtain ⟨cells', hf, hr'⟩ := vParts_sound hpl rest _ cs' (w1 ++ ((a.eval x).cells.toList ++ w3)).toArray (fun p hp => he p (List.mem_cons_of_mem _ hp)) h (by simpa using hnew)
                refine ⟨cells', ?_, hr'⟩
                rw [List.map_cons]
                rw [step]; exact hf
              · cases h
            · cases h
        · cases h
      · cases h
    · cases h

theorem mapM_places (fs : List Field) (h : ∀ f ∈ fs, (szT P f.type).isSome = true) (w : World) : (fs.mapM (m := Sem) fun f => do pure (f.offset, ← sizeOf f.type)).run P w = .ok (fs.map fun f => (f.offset, (szT P f.type).getD 0)) w := by
  induction fs with
  | nil => simp
  | cons f fs ih =>
    obtain ⟨n, hn⟩ := Option.isSome_iff_exists.1 (h f (by simp))
    simp only [List.mapM_cons, Sem.run_bind, run_sz hn, Result.andThen_ok, Sem.run_pure, ih fun g hg => h g (List.mem_cons_of_mem _ hg)]
    simp [hn]

theorem vBuild_sound {t : TypeId} {parts : List (Nat × Operand)} {env : Env} {B : Bx} {o : Oper} {K : T → Prop} (ho : o.op = .build t parts.toArray)
    (h : vBuild P t env parts K) : ∃ u, OpP P o env B u ∧ K u := by
  have hex : ∀ (a : Act), execOp a.eval o = (do pure (.value (← Instr.build t (parts.map fun (i, x) => (i, a.eval x)).toArray))) := by
    intro a; unfold execOp; rw [ho]; simp
  unfold vBuild at h
  split at h
  · rename_i zs hz
    split at h
    · rename_i cs hp
      obtain ⟨hf, hK⟩ := h
      obtain ⟨z, hzr, hzm⟩ := zeroT_spec hz
      refine ⟨_, OpP.of_val fun κ M ν ac w B' hB he hs => ?_, hK⟩
      have hops : ∀ p ∈ parts, ∀ ty u, ev P env ty p.2 = some u → u.rep M ν (ac.eval p.2) := by
        intro p hp ty u hu
        refine ev_rep he ?_ hu
        rw [ho]
        simp only [Op.operands]
        simp
        exact ⟨p.1, by cases p; exact hp⟩
      have hz0 : Cell.reps M ν (zs.map .dat) z.cells.toList := Cell.reps_map_c.2 (zmatch_spec hzm)
      unfold fieldsOk at hf
      split at hf
      · rename_i fs hu
        have hpl : ∀ i off n ty, prtT P t i = some (off, n, ty) → ((fs.toList.map fun f => (f.offset, (szT P f.type).getD 0))[i]?) = some (off, n) := by
          intro i off n ty hprt
          unfold prtT at hprt
          rw [hu] at hprt
          simp only [] at hprt
          split at hprt
          · rename_i fd hfd
            cases hsz : szT P fd.type with
            | none => simp [hsz] at hprt
            | some m =>
              simp only [hsz, Option.map_some, Option.some.injEq, Prod.mk.injEq] at hprt
              rw [List.getElem?_map, Array.getElem?_toList, hfd]
              simp [hsz, hprt.1, hprt.2.1]
          · cases hprt
        obtain ⟨cells', hfill, hrep⟩ := vParts_sound (place := fun i => ((fs.toList.map fun f => (f.offset, (szT P f.type).getD 0))[i]?)) hpl parts _ cs z.cells hops hp hz0
        refine ⟨.agg cells', exec_v (hex ac) ?_, mkAgg_rep hrep⟩
        have hm := mapM_places (P := P) fs.toList (List.all_eq_true.1 hf) w
        unfold Instr.build
        simp only [Sem.run_bind, hzr, Result.andThen_ok, run_underlying hu]
        have hm2 : (fs.mapM (m := Sem) fun f => do pure (f.offset, ← sizeOf f.type)).run P w = .ok (fs.toList.map fun f => (f.offset, (szT P f.type).getD 0)).toArray w := by
          rw [Array.mapM_eq_mapM_toList]
          simp only [Sem.run_map, hm, Result.andThen_ok]
        simp only [hm2, Result.andThen_ok]
        have : (fun (x : Nat) => ((fs.toList.map fun f => (f.offset, (szT P f.type).getD 0)).toArray[x]?)) = fun (i : Nat) => ((fs.toList.map fun f => (f.offset, (szT P f.type).getD 0))[i]?) := by
          funext i; simp
        rw [this, hfill]
        rfl
      · rename_i len e hu
        obtain ⟨n, hn⟩ := Option.isSome_iff_exists.1 hf
        have hpl : ∀ i off m ty, prtT P t i = some (off, m, ty) → (fun i => some (i * n, n)) i = some (off, m) := by
          intro i off m ty hprt
          unfold prtT at hprt
          rw [hu] at hprt
          simp only [hn, Option.map_some, Option.some.injEq, Prod.mk.injEq] at hprt ⊢
          exact ⟨hprt.1, hprt.2.1⟩
        obtain ⟨cells', hfill, hrep⟩ := vParts_sound hpl parts _ cs z.cells hops hp hz0
        refine ⟨.agg cells', exec_v (hex ac) ?_, mkAgg_rep hrep⟩
        unfold Instr.build
        simp only [Sem.run_bind, hzr, Result.andThen_ok, run_underlying hu, run_sz hn, hfill, Sem.run_pure]
      · cases hf
    · exact h.elim
  · exact h.elim

end Go.Sx
