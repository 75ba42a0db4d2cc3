/- A part of the proof: lemmas about the walk of the program and about plain integers and lists. No conditions beyond those that each lemma states. -/
import Derived.WalkKit
import Derived.Orders
import Derived.Still
import Derived.Deep.LoopGhost
/-! Abstract states of a walk: pure data, cells, named boxes; what it means that a world holds them. -/
set_option linter.unusedVariables false
set_option linter.unusedSimpArgs false
namespace Go.Sx

abbrev Mem := Nat → Option Obj
def Mem.le (M M' : Mem) : Prop := ∀ b o, M b = some o → M' b = some o
theorem Mem.le.refl (M : Mem) : M.le M := fun _ _ h => h
theorem Mem.le.trans {M M' M'' : Mem} (h : M.le M') (k : M'.le M'') : M.le M'' := fun b o e => k b o (h b o e)

/-- one cell of data that never changes -/
inductive C where
  | int (k : IntKind) (n : Int)
  | bool (b : Bool)
  | str (l : List UInt8)
  | sl (sz : Nat) (rows : List (List C))
  | nil (sz : Nat)
  | fn (f : FuncId)

/-- the values vs lie in the object o from place off on -/
def At (o : Option Obj) (off : Nat) (vs : List Value) : Prop :=
  ∃ c et fz pre post, o = some (.cells c et fz) ∧ c.toList = pre ++ (vs ++ post) ∧ pre.length = off

mutual
def C.rep (M : Mem) : C → Value → Prop
  | .int k n, v => v = .int k n
  | .bool b, v => v = .bool b
  | .str l, v => v = .string ⟨l.toArray⟩
  | .sl sz rows, v => ∃ a cap mid, v = .slice a rows.length cap ∧ rows.length ≤ cap ∧ cap ≤ maxLen ∧ repRows M sz rows mid ∧ (rows = [] ∨ ∃ b off, a = some ⟨b, off, none⟩ ∧ At (M b) off mid)
  | .nil _, v => v = .slice none 0 0
  | .fn f, v => v = .func (.func f) #[] #[]
def repRows (M : Mem) (sz : Nat) : List (List C) → List Value → Prop
  | [], vs => vs = []
  | r :: rs, vs => ∃ v1 v2, vs = v1 ++ v2 ∧ r.length = sz ∧ repRow M r v1 ∧ repRows M sz rs v2
def repRow (M : Mem) : List C → List Value → Prop
  | [], vs => vs = []
  | c :: cs, vs => ∃ v vs', vs = v :: vs' ∧ C.rep M c v ∧ repRow M cs vs'
end

theorem At.mono {M M' : Mem} (h : M.le M') {b off : Nat} {vs : List Value} (k : At (M b) off vs) : At (M' b) off vs := by
  obtain ⟨c, et, fz, pre, post, e, rest⟩ := k
  exact ⟨c, et, fz, pre, post, h _ _ e, rest⟩

mutual
theorem C.rep_mono {M M' : Mem} (h : M.le M') : ∀ (c : C) (v : Value), c.rep M v → c.rep M' v
  | .int k n, v, r => by simpa only [C.rep] using r
  | .bool b, v, r => by simpa only [C.rep] using r
  | .str l, v, r => by simpa only [C.rep] using r
  | .fn f, v, r => by simpa only [C.rep] using r
  | .nil n, v, r => by simpa only [C.rep] using r
  | .sl sz rows, v, r => by
    simp only [C.rep] at r ⊢
    obtain ⟨a, cap, mid, e, h1, h2, hr, ho⟩ := r
    refine ⟨a, cap, mid, e, h1, h2, repRows_mono h sz rows mid hr, ?_⟩
    rcases ho with ho | ⟨b, off, e2, k⟩
    · exact .inl ho
    · exact .inr ⟨b, off, e2, k.mono h⟩
theorem repRows_mono {M M' : Mem} (h : M.le M') (sz : Nat) : ∀ (rs : List (List C)) (vs : List Value), repRows M sz rs vs → repRows M' sz rs vs
  | [], vs, r => by simpa only [repRows] using r
  | r :: rs, vs, k => by
    simp only [repRows] at k ⊢
    obtain ⟨v1, v2, e, hl, h1, h2⟩ := k
    exact ⟨v1, v2, e, hl, repRow_mono h r v1 h1, repRows_mono h sz rs v2 h2⟩
theorem repRow_mono {M M' : Mem} (h : M.le M') : ∀ (cs : List C) (vs : List Value), repRow M cs vs → repRow M' cs vs
  | [], vs, r => by simpa only [repRow] using r
  | c :: cs, vs, k => by
    simp only [repRow] at k ⊢
    obtain ⟨v, vs', e, h1, h2⟩ := k
    exact ⟨v, vs', e, C.rep_mono h c v h1, repRow_mono h cs vs' h2⟩
end

theorem repRow_length {M : Mem} : ∀ {cs : List C} {vs : List Value}, repRow M cs vs → vs.length = cs.length
  | [], vs, h => by simp only [repRow] at h; simp [h]
  | c :: cs, vs, h => by
    simp only [repRow] at h
    obtain ⟨v, vs', e, _, h2⟩ := h
    subst e
    simp [repRow_length h2]

theorem repRow_append {M : Mem} : ∀ {cs ds : List C} {vs ws : List Value}, repRow M cs vs → repRow M ds ws → repRow M (cs ++ ds) (vs ++ ws)
  | [], ds, vs, ws, h, k => by simp only [repRow] at h; subst h; simpa using k
  | c :: cs, ds, vs, ws, h, k => by
    simp only [repRow] at h
    obtain ⟨v, vs', e, h1, h2⟩ := h
    subst e
    simp only [List.cons_append, repRow]
    exact ⟨v, _, rfl, h1, repRow_append h2 k⟩

theorem repRow_split {M : Mem} : ∀ {cs ds : List C} {vs : List Value}, repRow M (cs ++ ds) vs → ∃ v1 v2, vs = v1 ++ v2 ∧ repRow M cs v1 ∧ repRow M ds v2
  | [], ds, vs, h => ⟨[], vs, rfl, by simp only [repRow], h⟩
  | c :: cs, ds, vs, h => by
    simp only [List.cons_append, repRow] at h
    obtain ⟨v, vs', e, h1, h2⟩ := h
    obtain ⟨v1, v2, e2, k1, k2⟩ := repRow_split h2
    subst e; subst e2
    refine ⟨v :: v1, v2, rfl, ?_, k2⟩
    simp only [repRow]
    exact ⟨v, v1, rfl, h1, k1⟩

theorem repRows_length {M : Mem} {sz : Nat} : ∀ {rs : List (List C)} {vs : List Value}, repRows M sz rs vs → vs.length = rs.length * sz
  | [], vs, h => by simp only [repRows] at h; simp [h]
  | r :: rs, vs, h => by
    simp only [repRows] at h
    obtain ⟨v1, v2, e, hl, h1, h2⟩ := h
    subst e
    simp only [List.length_append, repRow_length h1, repRows_length h2, hl, List.length_cons, Nat.add_mul, Nat.one_mul]
    omega

theorem repRows_append {M : Mem} {sz : Nat} : ∀ {rs ss : List (List C)} {vs ws : List Value}, repRows M sz rs vs → repRows M sz ss ws → repRows M sz (rs ++ ss) (vs ++ ws)
  | [], ss, vs, ws, h, k => by simp only [repRows] at h; subst h; simpa using k
  | r :: rs, ss, vs, ws, h, k => by
    simp only [repRows] at h
    obtain ⟨v1, v2, e, hl, h1, h2⟩ := h
    subst e
    simp only [List.cons_append, repRows]
    exact ⟨v1, v2 ++ ws, by simp, hl, h1, repRows_append h2 k⟩

theorem repRows_split {M : Mem} {sz : Nat} : ∀ {rs ss : List (List C)} {vs : List Value}, repRows M sz (rs ++ ss) vs → ∃ v1 v2, vs = v1 ++ v2 ∧ repRows M sz rs v1 ∧ repRows M sz ss v2
  | [], ss, vs, h => ⟨[], vs, rfl, by simp only [repRows], h⟩
  | r :: rs, ss, vs, h => by
    simp only [List.cons_append, repRows] at h
    obtain ⟨v1, v2, e, hl, h1, h2⟩ := h
    obtain ⟨w1, w2, e2, k1, k2⟩ := repRows_split h2
    subst e; subst e2
    refine ⟨v1 ++ w1, w2, by simp, ?_, k2⟩
    simp only [repRows]
    exact ⟨v1, w1, rfl, hl, h1, k1⟩

theorem repRows_one {M : Mem} {sz : Nat} {r : List C} {vs : List Value} (hl : r.length = sz) (h : repRow M r vs) : repRows M sz [r] vs := by
  simp only [repRows]
  exact ⟨vs, [], by simp, hl, h, rfl⟩

/-- one cell, that may point into a box or own a row -/
inductive Cell where
  | dat (c : C)
  | ptr (k off : Nat)
  | own (k n : Nat)
  | rp (k sz i f : Nat)
  | arr (k n : Nat)
  | ref (r : List C)
  | clo (f : FuncId) (caps : List Cell)

structure Nm where
  blk : Option Nat
  cap : Nat
abbrev Nu := Nat → Nm

mutual
def Cell.rep (M : Mem) (ν : Nu) : Cell → Value → Prop
  | .dat c, v => c.rep M v
  | .ptr k off, v => ∃ b, (ν k).blk = some b ∧ v = .pointer (some ⟨b, off, none⟩)
  | .own k n, v => v = .slice ((ν k).blk.map fun b => ⟨b, 0, none⟩) n (ν k).cap
  | .rp k sz i f, v => ∃ b, (ν k).blk = some b ∧ v = .pointer (some ⟨b, i * sz + f, none⟩)
  | .arr k n, v => ∃ b, (ν k).blk = some b ∧ v = .slice (some ⟨b, 0, none⟩) n n
  | .ref r, v => ∃ b off vs, v = .pointer (some ⟨b, off, none⟩) ∧ At (M b) off vs ∧ repRow M r vs
  | .clo f caps, v => ∃ vs : List Value, v = .func (.func f) #[] vs.toArray ∧ Cell.reps M ν caps vs
def Cell.reps (M : Mem) (ν : Nu) : List Cell → List Value → Prop
  | [], vs => vs = []
  | c :: cs, vs => ∃ v vs', vs = v :: vs' ∧ Cell.rep M ν c v ∧ Cell.reps M ν cs vs'
end

mutual
theorem Cell.rep_mono {M M' : Mem} {ν : Nu} (h : M.le M') : ∀ (c : Cell) (v : Value), c.rep M ν v → c.rep M' ν v
  | .dat c, v, r => by simp only [Cell.rep] at r ⊢; exact C.rep_mono h c v r
  | .ptr k off, v, r => by simpa only [Cell.rep] using r
  | .own k n, v, r => by simpa only [Cell.rep] using r
  | .rp k sz i f, v, r => by simpa only [Cell.rep] using r
  | .arr k n, v, r => by simpa only [Cell.rep] using r
  | .ref r', v, r => by
    simp only [Cell.rep] at r ⊢
    obtain ⟨b, off, vs, e, k1, k2⟩ := r
    exact ⟨b, off, vs, e, k1.mono h, repRow_mono h _ _ k2⟩
  | .clo f caps, v, r => by
    simp only [Cell.rep] at r ⊢
    obtain ⟨vs, e, k⟩ := r
    exact ⟨vs, e, Cell.reps_mono h caps vs k⟩
theorem Cell.reps_mono {M M' : Mem} {ν : Nu} (h : M.le M') : ∀ (cs : List Cell) (vs : List Value), Cell.reps M ν cs vs → Cell.reps M' ν cs vs
  | [], vs, r => by simpa only [Cell.reps] using r
  | c :: cs, vs, k => by
    simp only [Cell.reps] at k ⊢
    obtain ⟨v, vs', e, h1, h2⟩ := k
    exact ⟨v, vs', e, Cell.rep_mono h c v h1, Cell.reps_mono h cs vs' h2⟩
end

theorem Cell.reps_length {M : Mem} {ν : Nu} : ∀ {cs : List Cell} {vs : List Value}, Cell.reps M ν cs vs → vs.length = cs.length
  | [], vs, h => by simp only [Cell.reps] at h; simp [h]
  | c :: cs, vs, h => by
    simp only [Cell.reps] at h
    obtain ⟨v, vs', e, _, h2⟩ := h
    subst e
    simp [Cell.reps_length h2]

theorem Cell.reps_append {M : Mem} {ν : Nu} : ∀ {cs ds : List Cell} {vs ws : List Value}, Cell.reps M ν cs vs → Cell.reps M ν ds ws → Cell.reps M ν (cs ++ ds) (vs ++ ws)
  | [], ds, vs, ws, h, k => by simp only [Cell.reps] at h; subst h; simpa using k
  | c :: cs, ds, vs, ws, h, k => by
    simp only [Cell.reps] at h
    obtain ⟨v, vs', e, h1, h2⟩ := h
    subst e
    simp only [List.cons_append, Cell.reps]
    exact ⟨v, _, rfl, h1, Cell.reps_append h2 k⟩

theorem Cell.reps_split {M : Mem} {ν : Nu} : ∀ {cs ds : List Cell} {vs : List Value}, Cell.reps M ν (cs ++ ds) vs → ∃ v1 v2, vs = v1 ++ v2 ∧ Cell.reps M ν cs v1 ∧ Cell.reps M ν ds v2
  | [], ds, vs, h => ⟨[], vs, rfl, by simp only [Cell.reps], h⟩
  | c :: cs, ds, vs, h => by
    simp only [List.cons_append, Cell.reps] at h
    obtain ⟨v, vs', e, h1, h2⟩ := h
    obtain ⟨v1, v2, e2, k1, k2⟩ := Cell.reps_split h2
    subst e; subst e2
    refine ⟨v :: v1, v2, rfl, ?_, k2⟩
    simp only [Cell.reps]
    exact ⟨v, v1, rfl, h1, k1⟩

theorem Cell.reps_map_c {M : Mem} {ν : Nu} : ∀ {r : List C} {vs : List Value}, Cell.reps M ν (r.map .dat) vs ↔ repRow M r vs
  | [], vs => by simp only [List.map_nil, Cell.reps, repRow]
  | c :: r, vs => by
    simp only [List.map_cons, Cell.reps, repRow, Cell.rep]
    constructor
    · rintro ⟨v, vs', e, h1, h2⟩; exact ⟨v, vs', e, h1, Cell.reps_map_c.1 h2⟩
    · rintro ⟨v, vs', e, h1, h2⟩; exact ⟨v, vs', e, h1, Cell.reps_map_c.2 h2⟩

/-- what a temporary holds -/
inductive T where
  | one (c : Cell)
  | st (r : List C)
  | agg (cs : List Cell)
  | tup (ts : List T)
  | un

mutual
def T.rep (M : Mem) (ν : Nu) : T → Value → Prop
  | .one c, v => c.rep M ν v
  | .st r, v => ∃ a : Array Value, v = .agg a ∧ repRow M r a.toList
  | .agg cs, v => ∃ a : Array Value, v = .agg a ∧ Cell.reps M ν cs a.toList
  | .tup ts, v => ∃ vs : List Value, v = .tuple vs.toArray ∧ T.reps M ν ts vs
  | .un, v => v = Go.undef
def T.reps (M : Mem) (ν : Nu) : List T → List Value → Prop
  | [], vs => vs = []
  | c :: cs, vs => ∃ v vs', vs = v :: vs' ∧ T.rep M ν c v ∧ T.reps M ν cs vs'
end

mutual
theorem T.rep_mono {M M' : Mem} {ν : Nu} (h : M.le M') : ∀ (t : T) (v : Value), t.rep M ν v → t.rep M' ν v
  | .one c, v, r => by simp only [T.rep] at r ⊢; exact Cell.rep_mono h c v r
  | .st r', v, r => by simp only [T.rep] at r ⊢; obtain ⟨a, e, k⟩ := r; exact ⟨a, e, repRow_mono h _ _ k⟩
  | .agg cs, v, r => by simp only [T.rep] at r ⊢; obtain ⟨a, e, k⟩ := r; exact ⟨a, e, Cell.reps_mono h _ _ k⟩
  | .tup ts, v, r => by simp only [T.rep] at r ⊢; obtain ⟨a, e, k⟩ := r; exact ⟨a, e, T.reps_mono h ts a k⟩
  | .un, v, r => by simpa only [T.rep] using r
theorem T.reps_mono {M M' : Mem} {ν : Nu} (h : M.le M') : ∀ (ts : List T) (vs : List Value), T.reps M ν ts vs → T.reps M' ν ts vs
  | [], vs, r => by simpa only [T.reps] using r
  | c :: cs, vs, k => by
    simp only [T.reps] at k ⊢
    obtain ⟨v, vs', e, h1, h2⟩ := k
    exact ⟨v, vs', e, T.rep_mono h c v h1, T.reps_mono h cs vs' h2⟩
end

/-- what a named box holds: a whole block of cells, or a row that grows -/
inductive Res where
  | cells (cs : List Cell)
  | row (sz : Nat) (rows : List (List C))

def Res.ok (M : Mem) (ν : Nu) (w : World) (k : Nat) : Res → Prop
  | .cells cs => ∃ b c et, (ν k).blk = some b ∧ w.heap[b]? = some (.cells c et (0, 0)) ∧ Cell.reps M ν cs c.toList
  | .row sz rows => rows.length ≤ (ν k).cap ∧ (ν k).cap ≤ maxLen ∧
      (((ν k).blk = none ∧ (ν k).cap = 0) ∨ ∃ b c et mid post, (ν k).blk = some b ∧ w.heap[b]? = some (.cells c et (0, 0)) ∧ c.toList = mid ++ post ∧ repRows M sz rows mid ∧ c.size = (ν k).cap * sz)

abbrev Bx := List (Nat × Res)
abbrev Env := List (Nat × T)

/-- the world in which the call began; the blocks that the call may write -/
structure Kap where
  w : World
  D : Nat → Prop
  nu : Nu
/-- names from here on keep their blocks -/
def pin : Nat := 1000000

structure Sat (κ : Kap) (M : Mem) (ν : Nu) (B : Bx) (w : World) : Prop where
  os : w.os = κ.w.os
  tape : w.tape = κ.w.tape
  output : w.output = κ.w.output
  dr : κ.w.drawn ≤ w.drawn
  size : κ.w.heap.size ≤ w.heap.size
  unch : ∀ b, b < κ.w.heap.size → ¬ κ.D b → w.heap[b]? = κ.w.heap[b]?
  fro : ∀ b o, M b = some o → w.heap[b]? = some o
  res : ∀ k r, (k, r) ∈ B → r.ok M ν w k
  away : ∀ k r b, (k, r) ∈ B → (ν k).blk = some b → M b = none ∧ (κ.w.heap.size ≤ b ∨ (pin ≤ k ∧ κ.D b))
  inj : ∀ k r k' r' b, (k, r) ∈ B → (k', r') ∈ B → (ν k).blk = some b → (ν k').blk = some b → k = k'
  nodup : (B.map (·.1)).Nodup

def EnvOk (M : Mem) (ν : Nu) (tmps : Array Value) (env : Env) : Prop :=
  ∀ d t, env.lookup d = some t → t.rep M ν (tmps.getD d undef)

/-- the frozen memory grows, and by blocks of the call's own alone -/
def Mem.ext (κ : Kap) (M M' : Mem) : Prop := M.le M' ∧ ∀ b o, M' b = some o → M b = some o ∨ κ.w.heap.size ≤ b
theorem Mem.ext.refl (κ : Kap) (M : Mem) : M.ext κ M := ⟨Mem.le.refl M, fun _ _ h => .inl h⟩
theorem Mem.ext.trans {κ : Kap} {M M' M'' : Mem} (h : M.ext κ M') (k : M'.ext κ M'') : M.ext κ M'' :=
  ⟨h.1.trans k.1, fun b o e => (k.2 b o e).elim (fun e => h.2 b o e) .inr⟩

structure AS where
  env : Env
  B : Bx

def St (κ : Kap) (M0 : Mem) (n : Nat) (σ : AS) (a : Act) (w : World) : Prop :=
  ∃ M ν, M0.ext κ M ∧ a.tmps.size = n ∧ a.defers = [] ∧ EnvOk M ν a.tmps σ.env ∧ Sat κ M ν σ.B w ∧ ∀ k, pin ≤ k → ν k = κ.nu k

/-- the code, begun in a state of σ, ends in a state that meets Q -/
def AWP (P : Program) (n : Nat) (c : Code) (σ : AS) (Q : Exit → AS → Prop) : Prop :=
  ∀ κ M0 a w, St κ M0 n σ a w → c.wp P (fun e a' w' => ∃ σ', St κ M0 n σ' a' w' ∧ Q e σ') a w

variable {P : Program} {n : Nat} {σ : AS} {Q : Exit → AS → Prop}

theorem AWP.mono {c : Code} {Q' : Exit → AS → Prop} (h : AWP P n c σ Q) (hq : ∀ e σ, Q e σ → Q' e σ) : AWP P n c σ Q' :=
  fun κ M0 a w hs => wp_mono (h κ M0 a w hs) fun e a' w' ⟨σ', s, q⟩ => ⟨σ', s, hq _ _ q⟩

def Then (K : AS → Prop) (Q : Exit → AS → Prop) : Exit → AS → Prop
  | .normal, σ => K σ
  | e, σ => Q e σ

theorem AWP.seq {x y : Code} (h : ∀ K : AS → Prop, (∀ σ', AWP P n y σ' Q → K σ') → AWP P n x σ (Then K Q)) : AWP P n (.seq x y) σ Q := by
  intro κ M0 a w hs
  have hx := h (fun σ' => AWP P n y σ' Q) (fun _ k => k) κ M0 a w hs
  refine wp_seq (wp_mono hx ?_)
  rintro e a' w' ⟨σ', s, q⟩
  cases e with
  | normal => exact q κ M0 a' w' s
  | exit id => exact ⟨σ', s, q⟩
  | goto l => exact ⟨σ', s, q⟩
  | ret => exact ⟨σ', s, q⟩
  | panic ch => exact ⟨σ', s, q⟩
  | outgrown => exact ⟨σ', s, q⟩

theorem AWP.skip (h : Q .normal σ) : AWP P n .skip σ Q := fun κ M0 a w hs => wp_skip ⟨σ, hs, h⟩
theorem AWP.ret (h : Q .ret σ) : AWP P n .ret σ Q := fun κ M0 a w hs => wp_ret ⟨σ, hs, h⟩
theorem AWP.exit {id : Nat} (h : Q (.exit id) σ) : AWP P n (.exit id) σ Q := fun κ M0 a w hs => wp_exit ⟨σ, hs, h⟩
theorem AWP.label {id : Nat} (h : Q .normal σ) : AWP P n (.label id) σ Q := fun κ M0 a w hs => wp_label ⟨σ, hs, h⟩

end Go.Sx
/-! Rules of the walk over abstract states. -/
set_option linter.unusedVariables false
set_option linter.unusedSimpArgs false
namespace Go.Sx
variable {P : Program} {n : Nat} {σ : AS} {Q : Exit → AS → Prop}

theorem EnvOk.nil {M : Mem} {ν : Nu} {tmps : Array Value} : EnvOk M ν tmps [] := fun d t h => by simp at h

theorem EnvOk.mono {M M' : Mem} {ν : Nu} {tmps : Array Value} {env : Env} (h : EnvOk M ν tmps env) (hm : M.le M') : EnvOk M' ν tmps env :=
  fun d t e => T.rep_mono hm t _ (h d t e)

/-- the slot that an operation writes -/
def AS.put (σ : AS) (dst : Option Tmp) (t : T) : AS :=
  match dst with
  | some d => { σ with env := (d, t) :: σ.env }
  | none => σ

def putE (env : Env) (dst : Option Tmp) (t : T) : Env :=
  match dst with
  | some d => (d, t) :: env
  | none => env

theorem EnvOk.put {M : Mem} {ν : Nu} {tmps : Array Value} {env : Env} (h : EnvOk M ν tmps env) {dst : Option Tmp} {v : Value} {t : T} {df : List Deferred}
    (hd : ∀ d, dst = some d → d < tmps.size) (hr : t.rep M ν v) : EnvOk M ν ((⟨tmps, df⟩ : Act).put dst v).tmps (putE env dst t) := by
  cases dst with
  | none => exact h
  | some d =>
    have hlt := hd d rfl
    intro k u hk
    simp only [putE, List.lookup_cons] at hk
    simp only [Act.put]
    by_cases hkd : k = d
    · subst hkd
      simp at hk
      subst hk
      simpa [hlt] using hr
    · have : (k == d) = false := by simpa using hkd
      rw [this] at hk
      have := h k u hk
      simpa [Array.getElem?_setIfInBounds_ne (Ne.symm hkd)] using this

theorem Act.put_size (a : Act) (dst : Option Tmp) (v : Value) : (a.put dst v).tmps.size = a.tmps.size := by
  cases dst <;> simp [Act.put]
theorem Act.put_defers' (a : Act) (dst : Option Tmp) (v : Value) : (a.put dst v).defers = a.defers := by
  cases dst <;> rfl

/-! ### conditions, blocks, loops -/

def ev0 (env : Env) : Operand → Option T
  | .tmp d => env.lookup d
  | .const (.bool b) => some (.one (.dat (.bool b)))
  | _ => none

def condT (b : Bool) (X Y : Prop) : Prop := (b = true → X) ∧ (b = false → Y)

theorem AWP.cond {c : Operand} {x y : Code} {b : Bool} (hc : ev0 σ.env c = some (.one (.dat (.bool b)))) (ht : b = true → AWP P n x σ Q) (hf : b = false → AWP P n y σ Q) :
    AWP P n (.cond c x y) σ Q := by
  intro κ M0 a w hs
  obtain ⟨M, ν, h1, h2, h3, h4, h5⟩ := id hs
  have he : a.eval c = .bool b := by
    cases c with
    | tmp d =>
      have := h4 d _ hc
      simp only [T.rep, Cell.rep, C.rep] at this
      exact this
    | const v => cases v <;> simp [ev0] at hc; subst hc; rfl
    | global g => simp [ev0] at hc
    | func f => simp [ev0] at hc
  exact wp_cond_split he (fun e => ht e κ M0 a w hs) (fun e => hf e κ M0 a w hs)

def InBlock (id : Nat) (Q : Exit → AS → Prop) : Exit → AS → Prop
  | .exit id', σ => if id' = id then Q .normal σ else Q (.exit id') σ
  | e, σ => Q e σ

theorem AWP.block {id : Nat} {c : Code} (h : AWP P n c σ (InBlock id Q)) : AWP P n (.block id c) σ Q := by
  intro κ M0 a w hs
  refine wp_block (wp_mono (h κ M0 a w hs) ?_)
  rintro e a' w' ⟨σ', s, q⟩
  cases e with
  | exit id' =>
    simp only [InBlock, Exit.inBlock] at q ⊢
    split <;> rename_i h <;> simp only [h, if_true, if_false] at q <;> exact ⟨σ', s, q⟩
  | normal => exact ⟨σ', s, q⟩
  | goto l => exact ⟨σ', s, q⟩
  | ret => exact ⟨σ', s, q⟩
  | panic ch => exact ⟨σ', s, q⟩
  | outgrown => exact ⟨σ', s, q⟩

theorem AWP.loop {c : Code} (I : Nat → AS → Prop) (k₀ : Nat) (h₀ : I k₀ σ)
    (round : ∀ (k : Nat) (σ : AS), I k σ → AWP P n c σ (Then (fun σ' => ∃ k', k' < k ∧ I k' σ') Q)) : AWP P n (.loop c) σ Q := by
  intro κ M0 a w hs
  refine wp_loop_ghost (fun k a w => ∃ σ, St κ M0 n σ a w ∧ I k σ) k₀ ⟨σ, hs, h₀⟩ ?_
  rintro k a w ⟨σ, hs, hI⟩
  refine wp_mono (round k σ hI κ M0 a w hs) ?_
  rintro e a' w' ⟨σ', s, q⟩
  cases e with
  | normal => obtain ⟨k', hk, hI'⟩ := q; exact ⟨k', hk, σ', s, hI'⟩
  | exit id' => exact ⟨σ', s, q⟩
  | goto l => exact ⟨σ', s, q⟩
  | ret => exact ⟨σ', s, q⟩
  | panic ch => exact ⟨σ', s, q⟩
  | outgrown => exact ⟨σ', s, q⟩

/-! ### names, and forgetting -/
mutual
def Cell.ren (ρ : Nat → Nat) : Cell → Cell
  | .dat c => .dat c
  | .ptr k off => .ptr (ρ k) off
  | .own k m => .own (ρ k) m
  | .rp k sz i f => .rp (ρ k) sz i f
  | .arr k n => .arr (ρ k) n
  | .ref r => .ref r
  | .clo f caps => .clo f (Cell.rens ρ caps)
def Cell.rens (ρ : Nat → Nat) : List Cell → List Cell
  | [] => []
  | c :: cs => Cell.ren ρ c :: Cell.rens ρ cs
end
mutual
def T.ren (ρ : Nat → Nat) : T → T
  | .one c => .one (c.ren ρ)
  | .st r => .st r
  | .agg cs => .agg (Cell.rens ρ cs)
  | .tup ts => .tup (T.rens ρ ts)
  | .un => .un
def T.rens (ρ : Nat → Nat) : List T → List T
  | [] => []
  | t :: ts => T.ren ρ t :: T.rens ρ ts
end
def Res.ren (ρ : Nat → Nat) : Res → Res
  | .cells cs => .cells (Cell.rens ρ cs)
  | .row sz rows => .row sz rows

mutual
theorem Cell.rep_ren {M : Mem} {ν : Nu} {ρ : Nat → Nat} : ∀ (c : Cell) (v : Value), (c.ren ρ).rep M ν v ↔ c.rep M (fun k => ν (ρ k)) v
  | .dat c, v => by simp only [Cell.ren, Cell.rep]
  | .ptr k off, v => by simp only [Cell.ren, Cell.rep]
  | .own k m, v => by simp only [Cell.ren, Cell.rep]
  | .rp k sz i f, v => by simp only [Cell.ren, Cell.rep]
  | .arr k n, v => by simp only [Cell.ren, Cell.rep]
  | .ref r, v => by simp only [Cell.ren, Cell.rep]
  | .clo f caps, v => by
    simp only [Cell.ren, Cell.rep]
    constructor
    · rintro ⟨vs, e, h⟩; exact ⟨vs, e, (Cell.reps_ren caps vs).1 h⟩
    · rintro ⟨vs, e, h⟩; exact ⟨vs, e, (Cell.reps_ren caps vs).2 h⟩
theorem Cell.reps_ren {M : Mem} {ν : Nu} {ρ : Nat → Nat} : ∀ (cs : List Cell) (vs : List Value), Cell.reps M ν (Cell.rens ρ cs) vs ↔ Cell.reps M (fun k => ν (ρ k)) cs vs
  | [], vs => by simp only [Cell.rens, Cell.reps]
  | c :: cs, vs => by
    simp only [Cell.rens, Cell.reps]
    constructor
    · rintro ⟨v, vs', e, h1, h2⟩; exact ⟨v, vs', e, (Cell.rep_ren c v).1 h1, (Cell.reps_ren cs vs').1 h2⟩
    · rintro ⟨v, vs', e, h1, h2⟩; exact ⟨v, vs', e, (Cell.rep_ren c v).2 h1, (Cell.reps_ren cs vs').2 h2⟩
end
mutual
theorem T.rep_ren {M : Mem} {ν : Nu} {ρ : Nat → Nat} : ∀ (t : T) (v : Value), (t.ren ρ).rep M ν v ↔ t.rep M (fun k => ν (ρ k)) v
  | .one c, v => by simp only [T.ren, T.rep]; exact Cell.rep_ren c v
  | .st r, v => by simp only [T.ren, T.rep]
  | .agg cs, v => by
    simp only [T.ren, T.rep]
    constructor
    · rintro ⟨a, e, h⟩; exact ⟨a, e, (Cell.reps_ren cs _).1 h⟩
    · rintro ⟨a, e, h⟩; exact ⟨a, e, (Cell.reps_ren cs _).2 h⟩
  | .tup ts, v => by
    simp only [T.ren, T.rep]
    constructor
    · rintro ⟨a, e, h⟩; exact ⟨a, e, (T.reps_ren ts _).1 h⟩
    · rintro ⟨a, e, h⟩; exact ⟨a, e, (T.reps_ren ts _).2 h⟩
  | .un, v => by simp only [T.ren, T.rep]
theorem T.reps_ren {M : Mem} {ν : Nu} {ρ : Nat → Nat} : ∀ (cs : List T) (vs : List Value), T.reps M ν (T.rens ρ cs) vs ↔ T.reps M (fun k => ν (ρ k)) cs vs
  | [], vs => by simp only [T.rens, T.reps]
  | c :: cs, vs => by
    simp only [T.rens, T.reps]
    constructor
    · rintro ⟨v, vs', e, h1, h2⟩; exact ⟨v, vs', e, (T.rep_ren c v).1 h1, (T.reps_ren cs vs').1 h2⟩
    · rintro ⟨v, vs', e, h1, h2⟩; exact ⟨v, vs', e, (T.rep_ren c v).2 h1, (T.reps_ren cs vs').2 h2⟩
end

/-- σ says all that τ says, τ's names read by ρ -/
structure Weak (ρ : Nat → Nat) (σ τ : AS) : Prop where
  env : ∀ p ∈ τ.env, σ.env.lookup p.1 = some (p.2.ren ρ)
  box : ∀ p ∈ τ.B, (ρ p.1, p.2.ren ρ) ∈ σ.B
  inj : (τ.B.map fun p => ρ p.1).Nodup
  nodup : (τ.B.map (·.1)).Nodup
  pins : ∀ k, pin ≤ k → ρ k = k
  low : ∀ k, k < pin → ρ k < pin

theorem lookup_mem {env : Env} {d : Nat} {t : T} (h : env.lookup d = some t) : (d, t) ∈ env := by
  induction env with
  | nil => simp at h
  | cons p env ih =>
    obtain ⟨e, u⟩ := p
    simp only [List.lookup_cons] at h
    by_cases he : d = e
    · subst he; simp at h; subst h; simp
    · have : (d == e) = false := by simpa using he
      rw [this] at h
      exact List.mem_cons_of_mem _ (ih h)

theorem nodup_inj {α : Type} {f : α → Nat} : ∀ {l : List α}, (l.map f).Nodup → ∀ x ∈ l, ∀ y ∈ l, f x = f y → x = y
  | [], _, x, hx, _, _, _ => by cases hx
  | a :: l, h, x, hx, y, hy, e => by
    simp only [List.map_cons, List.nodup_cons, List.mem_map, not_exists, not_and] at h
    rcases List.mem_cons.1 hx with rfl | hx' <;> rcases List.mem_cons.1 hy with rfl | hy'
    · rfl
    · exact absurd e.symm (h.1 y hy')
    · exact absurd e (h.1 x hx')
    · exact nodup_inj h.2 x hx' y hy' e

theorem Sat.weak {κ : Kap} {M : Mem} {ν : Nu} {w : World} {ρ : Nat → Nat} {σ τ : AS} (h : Sat κ M ν σ.B w) (hw : Weak ρ σ τ) : Sat κ M (fun k => ν (ρ k)) τ.B w where
  os := h.os
  tape := h.tape
  output := h.output
  dr := h.dr
  size := h.size
  unch := h.unch
  fro := h.fro
  res := fun k r hm => by
    have h1 := h.res _ _ (hw.box (k, r) hm)
    cases r with
    | cells cs =>
      simp only [Res.ren, Res.ok] at h1 ⊢
      obtain ⟨b, c, et, e1, e2, e3⟩ := h1
      exact ⟨b, c, et, e1, e2, (Cell.reps_ren cs _).1 e3⟩
    | row sz rows => exact h1
  away := fun k r b hm hb => by
    have h1 := h.away _ _ b (hw.box (k, r) hm) hb
    refine ⟨h1.1, h1.2.imp id fun h2 => ⟨?_, h2.2⟩⟩
    by_cases hk : pin ≤ k
    · exact hk
    · have := hw.low k (by omega)
      have h3 := h2.1
      simp only at h3
      omega
  inj := fun k r k' r' b hm hm' hb hb' => by
    have e := h.inj _ _ _ _ b (hw.box (k, r) hm) (hw.box (k', r') hm') hb hb'
    have := nodup_inj (f := fun p : Nat × Res => ρ p.1) hw.inj (k, r) hm (k', r') hm' e
    exact congrArg Prod.fst this
  nodup := hw.nodup

theorem St.weak {κ : Kap} {M0 : Mem} {a : Act} {w : World} {ρ : Nat → Nat} {σ τ : AS} (h : St κ M0 n σ a w) (hw : Weak ρ σ τ) : St κ M0 n τ a w := by
  obtain ⟨M, ν, h1, h2, h3, h4, h5, h6⟩ := h
  refine ⟨M, fun k => ν (ρ k), h1, h2, h3, ?_, h5.weak hw, fun k hk => by show ν (ρ k) = _; rw [hw.pins k hk]; exact h6 k hk⟩
  intro d t e
  have := h4 d _ (hw.env (d, t) (lookup_mem e))
  exact (T.rep_ren t _).1 this

theorem AWP.weak {c : Code} (ρ : Nat → Nat) (τ : AS) (hw : Weak ρ σ τ) (h : AWP P n c τ Q) : AWP P n c σ Q :=
  fun κ M0 a w hs => h κ M0 a w (hs.weak hw)

theorem AWP.post_weak {c : Code} (h : AWP P n c σ (fun e τ => ∃ ρ τ', Weak ρ τ τ' ∧ Q e τ')) : AWP P n c σ Q :=
  fun κ M0 a w hs => wp_mono (h κ M0 a w hs) fun e a' w' ⟨τ, s, ρ, τ', hw, q⟩ => ⟨τ', s.weak hw, q⟩

end Go.Sx
/-! Regions: one after the other, and in any order. -/
set_option linter.unusedVariables false
set_option linter.unusedSimpArgs false
namespace Go.Sx
variable {P : Program} {n : Nat} {σ : AS} {Q : Exit → AS → Prop}

mutual
def Cell.fresh (k : Nat) : Cell → Bool
  | .dat _ => true
  | .ptr j _ => j != k
  | .own j _ => j != k
  | .rp j _ _ _ => j != k
  | .arr j _ => j != k
  | .ref _ => true
  | .clo _ caps => Cell.freshs k caps
def Cell.freshs (k : Nat) : List Cell → Bool
  | [] => true
  | c :: cs => Cell.fresh k c && Cell.freshs k cs
end
mutual
def T.fresh (k : Nat) : T → Bool
  | .one c => c.fresh k
  | .st _ => true
  | .agg cs => Cell.freshs k cs
  | .tup ts => T.freshs k ts
  | .un => true
def T.freshs (k : Nat) : List T → Bool
  | [] => true
  | t :: ts => T.fresh k t && T.freshs k ts
end
def Env.fresh (k : Nat) : Env → Bool
  | [] => true
  | p :: env => p.2.fresh k && Env.fresh k env
def Bx.fresh (k : Nat) : Bx → Bool
  | [] => true
  | p :: B => p.1 != k && (match p.2 with | .cells cs => Cell.freshs k cs | .row _ _ => true) && Bx.fresh k B

mutual
theorem Cell.rep_fresh {M : Mem} {ν ν' : Nu} {k : Nat} (hν : ∀ j, j ≠ k → ν' j = ν j) : ∀ (c : Cell) (v : Value), c.fresh k = true → c.rep M ν v → c.rep M ν' v
  | .dat c, v, _, h => by simpa only [Cell.rep] using h
  | .ptr j off, v, hf, h => by simp only [Cell.fresh, bne_iff_ne] at hf; simp only [Cell.rep] at h ⊢; rw [hν j hf]; exact h
  | .own j m, v, hf, h => by simp only [Cell.fresh, bne_iff_ne] at hf; simp only [Cell.rep] at h ⊢; rw [hν j hf]; exact h
  | .rp j sz i f, v, hf, h => by simp only [Cell.fresh, bne_iff_ne] at hf; simp only [Cell.rep] at h ⊢; rw [hν j hf]; exact h
  | .arr j n, v, hf, h => by simp only [Cell.fresh, bne_iff_ne] at hf; simp only [Cell.rep] at h ⊢; rw [hν j hf]; exact h
  | .ref r, v, _, h => by simpa only [Cell.rep] using h
  | .clo f caps, v, hf, h => by
    simp only [Cell.fresh] at hf
    simp only [Cell.rep] at h ⊢
    obtain ⟨vs, e, h⟩ := h
    exact ⟨vs, e, Cell.reps_fresh hν caps vs hf h⟩
theorem Cell.reps_fresh {M : Mem} {ν ν' : Nu} {k : Nat} (hν : ∀ j, j ≠ k → ν' j = ν j) : ∀ (cs : List Cell) (vs : List Value), Cell.freshs k cs = true → Cell.reps M ν cs vs → Cell.reps M ν' cs vs
  | [], vs, _, h => by simpa only [Cell.reps] using h
  | c :: cs, vs, hf, h => by
    simp only [Cell.freshs, Bool.and_eq_true] at hf
    simp only [Cell.reps] at h ⊢
    obtain ⟨v, vs', e, h1, h2⟩ := h
    exact ⟨v, vs', e, Cell.rep_fresh hν c v hf.1 h1, Cell.reps_fresh hν cs vs' hf.2 h2⟩
end
mutual
theorem T.rep_fresh {M : Mem} {ν ν' : Nu} {k : Nat} (hν : ∀ j, j ≠ k → ν' j = ν j) : ∀ (c : T) (v : Value), c.fresh k = true → c.rep M ν v → c.rep M ν' v
  | .one c, v, hf, h => by simp only [T.rep] at h ⊢; exact Cell.rep_fresh hν c v (by simpa only [T.fresh] using hf) h
  | .st r, v, _, h => by simpa only [T.rep] using h
  | .agg cs, v, hf, h => by
    simp only [T.rep] at h ⊢
    obtain ⟨a, e, h⟩ := h
    exact ⟨a, e, Cell.reps_fresh hν cs _ (by simpa only [T.fresh] using hf) h⟩
  | .tup ts, v, hf, h => by
    simp only [T.rep] at h ⊢
    obtain ⟨a, e, h⟩ := h
    exact ⟨a, e, T.reps_fresh hν ts _ (by simpa only [T.fresh] using hf) h⟩
  | .un, v, _, h => by simpa only [T.rep] using h
theorem T.reps_fresh {M : Mem} {ν ν' : Nu} {k : Nat} (hν : ∀ j, j ≠ k → ν' j = ν j) : ∀ (cs : List T) (vs : List Value), T.freshs k cs = true → T.reps M ν cs vs → T.reps M ν' cs vs
  | [], vs, _, h => by simpa only [T.reps] using h
  | c :: cs, vs, hf, h => by
    simp only [T.freshs, Bool.and_eq_true] at hf
    simp only [T.reps] at h ⊢
    obtain ⟨v, vs', e, h1, h2⟩ := h
    exact ⟨v, vs', e, T.rep_fresh hν c v hf.1 h1, T.reps_fresh hν cs vs' hf.2 h2⟩
end

theorem Env.fresh_spec {k : Nat} : ∀ {env : Env} {d : Nat} {t : T}, Env.fresh k env = true → (d, t) ∈ env → t.fresh k = true
  | p :: env, d, t, h, hm => by
    simp only [Env.fresh, Bool.and_eq_true] at h
    rcases List.mem_cons.1 hm with rfl | hm
    · exact h.1
    · exact Env.fresh_spec h.2 hm

theorem EnvOk.fresh {M : Mem} {ν ν' : Nu} {tmps : Array Value} {env : Env} {k : Nat} (h : EnvOk M ν tmps env) (hf : Env.fresh k env = true) (hν : ∀ j, j ≠ k → ν' j = ν j) :
    EnvOk M ν' tmps env := fun d t e => T.rep_fresh hν t _ (Env.fresh_spec hf (lookup_mem e)) (h d t e)

/-- the operands of the operation, as the environment has them -/
def EnvOn (M : Mem) (ν : Nu) (a : Act) (env : Env) (o : Oper) : Prop :=
  ∀ d t, Operand.tmp d ∈ o.op.operands → env.lookup d = some t → t.rep M ν (a.tmps.getD d undef)

theorem EnvOk.on {M : Mem} {ν : Nu} {a : Act} {env : Env} (h : EnvOk M ν a.tmps env) (o : Oper) : EnvOn M ν a env o := fun d t _ e => h d t e

/-- an operation that only reads boxes, and may freeze new blocks -/
def OpP (P : Program) (o : Oper) (env : Env) (B : Bx) (t : T) : Prop :=
  ∀ κ M ν a w B', (∀ x ∈ B, x ∈ B') → EnvOn M ν a env o → Sat κ M ν B' w →
    o.wp P a w (fun a' w' => ∃ v M', a' = a.put o.dst v ∧ M.ext κ M' ∧ t.rep M' ν v ∧ Sat κ M' ν B' w') (fun _ _ _ => False)

/-- an operation that turns boxes, their names kept -/
def OpE (P : Program) (o : Oper) (env : Env) (B : Bx) (t : T) (B' : Bx) : Prop :=
  ∀ κ M ν a w, EnvOn M ν a env o → Sat κ M ν B w →
    o.wp P a w (fun a' w' => ∃ v M', a' = a.put o.dst v ∧ M.ext κ M' ∧ t.rep M' ν v ∧ Sat κ M' ν B' w') (fun _ _ _ => False)

/-- an operation that makes the name k -/
def OpG (P : Program) (o : Oper) (env : Env) (B : Bx) (k : Nat) (t : T) (B' : Bx) : Prop :=
  ∀ κ M ν a w, EnvOn M ν a env o → Sat κ M ν B w →
    o.wp P a w (fun a' w' => ∃ v M' ν', a' = a.put o.dst v ∧ M.ext κ M' ∧ (∀ j, j ≠ k → ν' j = ν j) ∧ t.rep M' ν' v ∧ Sat κ M' ν' B' w') (fun _ _ _ => False)

theorem OpP.e {o : Oper} {env : Env} {B : Bx} {t : T} (h : OpP P o env B t) : OpE P o env B t B :=
  fun κ M ν a w he hs => h κ M ν a w B (fun _ h => h) he hs

def undefT : T := .un

def dstOk (n : Nat) (o : Oper) : Bool := match o.dst with | some d => decide (d < n) | none => true

inductive StepO (P : Program) (n : Nat) (o : Oper) (σ : AS) (K : AS → Prop) : Prop
  | pure (t : T) (h : OpP P o σ.env σ.B t) (hd : dstOk n o = true) (k : K (σ.put o.dst t))
  | eff (t : T) (B' : Bx) (h : OpE P o σ.env σ.B t B') (hd : dstOk n o = true) (k : K (AS.put ⟨σ.env, B'⟩ o.dst t))
  | gen (j : Nat) (t : T) (B' : Bx) (h : OpG P o σ.env σ.B j t B') (hj : j < pin) (hf : Env.fresh j σ.env = true) (hd : dstOk n o = true) (k : K (AS.put ⟨σ.env, B'⟩ o.dst t))

def guardT (all : List Oper) (env : Env) (o : Oper) (X Y : Prop) : Prop :=
  match o.guard with
  | none => X
  | some (j, want) => match ((all[j]?).bind (·.dst)).bind (fun d => env.lookup d) with
    | some (.one (.dat (.bool b))) => bif b == want then X else Y
    | some .un => Y
    | _ => False

theorem yielded_un {all : List Oper} {tmps : Array Value} {j d : Nat} (hd : (all[j]?).bind (·.dst) = some d) (hr : tmps.getD d undef = undef) : yielded all.toArray tmps j = none := by
  unfold yielded
  have : (all.toArray[j]?).bind (·.dst) = some d := by simpa using hd
  rw [this]
  by_cases hlt : d < tmps.size
  · have : tmps[d]? = some undef := by
      simp [hlt] at hr
      simp [hlt, hr]
    simp [this, undef]
  · simp [Nat.le_of_not_lt hlt]

def seqSem (P : Program) (n : Nat) (all : List Oper) : List Oper → AS → (AS → Prop) → Prop
  | [], σ, K => K σ
  | o :: os, σ, K => guardT all σ.env o (StepO P n o σ fun σ' => seqSem P n all os σ' K) (dstOk n o = true ∧ seqSem P n all os (σ.put o.dst undefT) K)

theorem put_St {κ : Kap} {M0 M M' : Mem} {ν : Nu} {a : Act} {w : World} {env : Env} {B : Bx} {dst : Option Tmp} {t : T} {v : Value}
    (h1 : M0.ext κ M) (h2 : a.tmps.size = n) (h3 : a.defers = []) (h4 : EnvOk M' ν a.tmps env) (hm : M.ext κ M') (hd : ∀ d, dst = some d → d < n) (hr : t.rep M' ν v) (hs : Sat κ M' ν B w) (hp : ∀ k, pin ≤ k → ν k = κ.nu k) :
    St κ M0 n (AS.put ⟨env, B⟩ dst t) (a.put dst v) w := by
  refine ⟨M', ν, h1.trans hm, by rw [Act.put_size]; exact h2, by rw [Act.put_defers']; exact h3, ?_, ?_⟩
  · have := EnvOk.put (df := a.defers) h4 (dst := dst) (fun d e => by rw [h2]; exact hd d e) hr
    cases dst <;> exact this
  · cases dst <;> exact ⟨hs, hp⟩

theorem dstOk_spec {o : Oper} (h : dstOk n o = true) : ∀ d, o.dst = some d → d < n := by
  intro d e
  simpa [dstOk, e] using h

theorem guard_some {all : List Oper} {env : Env} {o : Oper} {X Y : Prop} {M : Mem} {ν : Nu} {tmps : Array Value} (he : EnvOk M ν tmps env) (h : guardT all env o X Y) :
    (Region.wanted o (yielded all.toArray tmps) = true ∧ X) ∨ (Region.wanted o (yielded all.toArray tmps) = false ∧ Y) := by
  unfold guardT at h
  split at h
  · rename_i hg
    exact .inl ⟨by simp [Region.wanted, hg], h⟩
  · rename_i j want hg
    split at h
    · rename_i b hb
      obtain ⟨d, hd, hl⟩ := Option.bind_eq_some_iff.1 hb
      have hr := he d _ hl
      simp only [T.rep, Cell.rep, C.rep] at hr
      have hy : yielded all.toArray tmps j = some b := by
        unfold yielded
        have : (all.toArray[j]?).bind (·.dst) = some d := by simpa using hd
        rw [this]
        by_cases hlt : d < tmps.size
        · have : tmps[d]? = some (.bool b) := by
            simp [hlt] at hr
            simp [hlt, hr]
          simp [this]
        · simp [Nat.le_of_not_lt hlt] at hr
          simp [undef] at hr
      by_cases hbw : b = want
      · subst hbw
        simp only [beq_self_eq_true, cond_true] at h
        exact .inl ⟨by simp [Region.wanted, hg, hy], h⟩
      · have : (b == want) = false := by simpa using hbw
        rw [this] at h
        exact .inr ⟨by simp [Region.wanted, hg, hy, hbw], h⟩
    · rename_i hb
      obtain ⟨d, hd, hl⟩ := Option.bind_eq_some_iff.1 hb
      have hr := he d _ hl
      simp only [T.rep] at hr
      exact .inr ⟨by simp [Region.wanted, hg, yielded_un hd hr], h⟩
    · exact h.elim

theorem Oper.wp_mono_Q {o : Oper} {a : Act} {w : World} {K : Act → World → Prop} {Q' : Exit → Act → World → Prop} (h : o.wp P a w K (fun _ _ _ => False)) : o.wp P a w K Q' := by
  unfold Oper.wp at *
  generalize (execOp a.eval o).run P w = r at *
  cases r with
  | ok x w' =>
    cases x <;> simp only [Oper.upon] at h ⊢ <;> try exact h
    refine Calls.mono h fun e w'' he => ?_
    cases e with
    | returned v => exact he
    | panicked c => exact he.elim
    | outgrown => obtain ⟨_, _, hf⟩ := he; exact hf.elim
  | halt x w' => cases x <;> simp only [Oper.upon] at h ⊢ <;> exact h.elim

theorem seq_sound {κ : Kap} {M0 : Mem} {K : AS → Prop} {Q' : Exit → Act → World → Prop} (all : List Oper) (hQ : ∀ a w σ', St κ M0 n σ' a w → K σ' → Q' .normal a w) :
    ∀ (l : List Oper) (σ : AS) (a : Act) (w : World), seqSem P n all l σ K → St κ M0 n σ a w → wpList P all.toArray Q' l a w
  | [], σ, a, w, h, hs => hQ a w σ hs h
  | o :: os, σ, a, w, h, hs => by
    obtain ⟨M, ν, h1, h2, h3, h4, h5, h6⟩ := id hs
    unfold wpList
    rcases guard_some h4 h with ⟨hw, hx⟩ | ⟨hw, hd, hx⟩
    · rw [if_pos hw]
      left
      cases hx with
      | pure t hop hd k =>
        refine Oper.wp_mono_Q (Oper.wp_mono ?_ (hop κ M ν a w σ.B (fun _ h => h) (h4.on o) h5))
        rintro a' w' ⟨v, M', rfl, hle, hr, hsat⟩
        exact seq_sound all hQ os _ _ w' k (put_St h1 h2 h3 (h4.mono hle.1) hle (dstOk_spec hd) hr hsat h6)
      | eff t B' hop hd k =>
        refine Oper.wp_mono_Q (Oper.wp_mono ?_ (hop κ M ν a w (h4.on o) h5))
        rintro a' w' ⟨v, M', rfl, hle, hr, hsat⟩
        exact seq_sound all hQ os _ _ w' k (put_St h1 h2 h3 (h4.mono hle.1) hle (dstOk_spec hd) hr hsat h6)
      | gen j t B' hop hj hf hd k =>
        refine Oper.wp_mono_Q (Oper.wp_mono ?_ (hop κ M ν a w (h4.on o) h5))
        rintro a' w' ⟨v, M', ν', rfl, hle, hν, hr, hsat⟩
        exact seq_sound all hQ os _ _ w' k (put_St h1 h2 h3 ((h4.fresh hf hν).mono hle.1) hle (dstOk_spec hd) hr hsat (fun i hi => by rw [hν i (by omega)]; exact h6 i hi))
    · rw [hw]
      have := put_St (t := undefT) (v := undef) (dst := o.dst) h1 h2 h3 h4 (Mem.ext.refl κ M) (dstOk_spec hd) (by simp [undefT, T.rep, Cell.rep, C.rep]) h5 h6
      exact seq_sound all hQ os _ _ w hx this

theorem AWP.region_seq {id : Nat} {ops : List Oper} (h : ∀ K : AS → Prop, (∀ σ', Q .normal σ' → K σ') → seqSem P n ops ops σ K) : AWP P n (.region id ops.toArray false) σ Q := by
  intro κ M0 a w hs
  refine wp_region_lit ?_
  exact seq_sound ops (fun a w σ' s k => ⟨σ', s, k⟩) ops σ a w (h _ fun _ k => k) hs

end Go.Sx
