/- A part of the proof: lemmas about the walk of the program and about plain integers and lists. No conditions beyond those that each lemma states. -/
import Derived.WalkKit
import Derived.Orders
/-! Abstract states of a walk: pure data, cells, named boxes; what it means that a world holds them. -/
set_option linter.unusedVariables false
set_option linter.unusedSimpArgs false
namespace Go.Sx

abbrev Mem := Nat → Option Obj
def Mem.le (M M' : Mem) : Prop := ∀ b o, M b = some o → M' b = some o
theorem Mem.le.refl (M : Mem) : M.le M := fun _ _ h => h
theorem Mem.le.trans {M M' M'' : Mem} (h : M.le M') (k : M'.le M'') : M.le M'' := fun b o e => k b o (h b o e)

/-- one cell of data that never changes -/
inductive C where
  | int (k : IntKind) (n : Int)
  | bool (b : Bool)
  | str (l : List UInt8)
  | sl (sz : Nat) (rows : List (List C))
  | nil (sz : Nat)
  | fn (f : FuncId)

/-- the values vs lie in the object o from place off on -/
def At (o : Option Obj) (off : Nat) (vs : List Value) : Prop :=
  ∃ c et fz pre post, o = some (.cells c et fz) ∧ c.toList = pre ++ (vs ++ post) ∧ pre.length = off

mutual
def C.rep (M : Mem) : C → Value → Prop
  | .int k n, v => v = .int k n
  | .bool b, v => v = .bool b
  | .str l, v => v = .string ⟨l.toArray⟩
  | .sl sz rows, v => ∃ a cap mid, v = .slice a rows.length cap ∧ rows.length ≤ cap ∧ cap ≤ maxLen ∧ repRows M sz rows mid ∧ (rows = [] ∨ ∃ b off, a = some ⟨b, off, none⟩ ∧ At (M b) off mid)
  | .nil _, v => v = .slice none 0 0
  | .fn f, v => v = .func (.func f) #[] #[]
def repRows (M : Mem) (sz : Nat) : List (List C) → List Value → Prop
  | [], vs => vs = []
  | r :: rs, vs => ∃ v1 v2, vs = v1 ++ v2 ∧ r.length = sz ∧ repRow M r v1 ∧ repRows M sz rs v2
def repRow (M : Mem) : List C → List Value → Prop
  | [], vs => vs = []
  | c :: cs, vs => ∃ v vs', vs = v :: vs' ∧ C.rep M c v ∧ repRow M cs vs'
end

theorem At.mono {M M' : Mem} (h : M.le M') {b off : Nat} {vs : List Value} (k : At (M b) off vs) : At (M' b) off vs := by
  obtain ⟨c, et, fz, pre, post, e, rest⟩ := k
  exact ⟨c, et, fz, pre, post, h _ _ e, rest⟩

mutual
theorem C.rep_mono {M M' : Mem} (h : M.le M') : ∀ (c : C) (v : Value), c.rep M v → c.rep M' v
  | .int k n, v, r => by simpa only [C.rep] using r
  | .bool b, v, r => by simpa only [C.rep] using r
  | .str l, v, r => by simpa only [C.rep] using r
  | .fn f, v, r => by simpa only [C.rep] using r
  | .nil n, v, r => by simpa only [C.rep] using r
  | .sl sz rows, v, r => by
    simp only [C.rep] at r ⊢
    obtain ⟨a, cap, mid, e, h1, h2, hr, ho⟩ := r
    refine ⟨a, cap, mid, e, h1, h2, repRows_mono h sz rows mid hr, ?_⟩
    rcases ho with ho | ⟨b, off, e2, k⟩
    · exact .inl ho
    · exact .inr ⟨b, off, e2, k.mono h⟩
theorem repRows_mono {M M' : Mem} (h : M.le M') (sz : Nat) : ∀ (rs : List (List C)) (vs : List Value), repRows M sz rs vs → repRows M' sz rs vs
  | [], vs, r => by simpa only [repRows] using r
  | r :: rs, vs, k => by
    simp only [repRows] at k ⊢
    obtain ⟨v1, v2, e, hl, h1, h2⟩ := k
    exact ⟨v1, v2, e, hl, repRow_mono h r v1 h1, repRows_mono h sz rs v2 h2⟩
theorem repRow_mono {M M' : Mem} (h : M.le M') : ∀ (cs : List C) (vs : List Value), repRow M cs vs → repRow M' cs vs
  | [], vs, r => by simpa only [repRow] using r
  | c :: cs, vs, k => by
    simp only [repRow] at k ⊢
    obtain ⟨v, vs', e, h1, h2⟩ := k
    exact ⟨v, vs', e, C.rep_mono h c v h1, repRow_mono h cs vs' h2⟩
end

theorem repRow_length {M : Mem} : ∀ {cs : List C} {vs : List Value}, repRow M cs vs → vs.length = cs.length
  | [], vs, h => by simp only [repRow] at h; simp [h]
  | c :: cs, vs, h => by
    simp only [repRow] at h
    obtain ⟨v, vs', e, _, h2⟩ := h
    subst e
    simp [repRow_length h2]

theorem repRow_append {M : Mem} : ∀ {cs ds : List C} {vs ws : List Value}, repRow M cs vs → repRow M ds ws → repRow M (cs ++ ds) (vs ++ ws)
  | [], ds, vs, ws, h, k => by simp only [repRow] at h; subst h; simpa using k
  | c :: cs, ds, vs, ws, h, k => by
    simp only [repRow] at h
    obtain ⟨v, vs', e, h1, h2⟩ := h
    subst e
    simp only [List.cons_append, repRow]
    exact ⟨v, _, rfl, h1, repRow_append h2 k⟩

theorem repRow_split {M : Mem} : ∀ {cs ds : List C} {vs : List Value}, repRow M (cs ++ ds) vs → ∃ v1 v2, vs = v1 ++ v2 ∧ repRow M cs v1 ∧ repRow M ds v2
  | [], ds, vs, h => ⟨[], vs, rfl, by simp only [repRow], h⟩
  | c :: cs, ds, vs, h => by
    simp only [List.cons_append, repRow] at h
    obtain ⟨v, vs', e, h1, h2⟩ := h
    obtain ⟨v1, v2, e2, k1, k2⟩ := repRow_split h2
    subst e; subst e2
    refine ⟨v :: v1, v2, rfl, ?_, k2⟩
    simp only [repRow]
    exact ⟨v, v1, rfl, h1, k1⟩

theorem repRows_length {M : Mem} {sz : Nat} : ∀ {rs : List (List C)} {vs : List Value}, repRows M sz rs vs → vs.length = rs.length * sz
  | [], vs, h => by simp only [repRows] at h; simp [h]
  | r :: rs, vs, h => by
    simp only [repRows] at h
    obtain ⟨v1, v2, e, hl, h1, h2⟩ := h
    subst e
    simp only [List.length_append, repRow_length h1, repRows_length h2, hl, List.length_cons, Nat.add_mul, Nat.one_mul]
    omega

theorem repRows_append {M : Mem} {sz : Nat} : ∀ {rs ss : List (List C)} {vs ws : List Value}, repRows M sz rs vs → repRows M sz ss ws → repRows M sz (rs ++ ss) (vs ++ ws)
  | [], ss, vs, ws, h, k => by simp only [repRows] at h; subst h; simpa using k
  | r :: rs, ss, vs, ws, h, k => by
    simp only [repRows] at h
    obtain ⟨v1, v2, e, hl, h1, h2⟩ := h
    subst e
    simp only [List.cons_append, repRows]
    exact ⟨v1, v2 ++ ws, by simp, hl, h1, repRows_append h2 k⟩

theorem repRows_split {M : Mem} {sz : Nat} : ∀ {rs ss : List (List C)} {vs : List Value}, repRows M sz (rs ++ ss) vs → ∃ v1 v2, vs = v1 ++ v2 ∧ repRows M sz rs v1 ∧ repRows M sz ss v2
  | [], ss, vs, h => ⟨[], vs, rfl, by simp only [repRows], h⟩
  | r :: rs, ss, vs, h => by
    simp only [List.cons_append, repRows] at h
    obtain ⟨v1, v2, e, hl, h1, h2⟩ := h
    obtain ⟨w1, w2, e2, k1, k2⟩ := repRows_split h2
    subst e; subst e2
    refine ⟨v1 ++ w1, w2, by simp, ?_, k2⟩
    simp only [repRows]
    exact ⟨v1, w1, rfl, hl, h1, k1⟩

theorem repRows_one {M : Mem} {sz : Nat} {r : List C} {vs : List Value} (hl : r.length = sz) (h : repRow M r vs) : repRows M sz [r] vs := by
  simp only [repRows]
  exact ⟨vs, [], by simp, hl, h, rfl⟩

/-- one cell, that may point into a box or own a row -/
inductive Cell where
  | dat (c : C)
  | ptr (k off : Nat)
  | own (k n : Nat)
  | rp (k sz i f : Nat)
  | ref (r : List C)
  | clo (f : FuncId) (caps : List Cell)

structure Nm where
  blk : Option Nat
  cap : Nat
abbrev Nu := Nat → Nm

mutual
def Cell.rep (M : Mem) (ν : Nu) : Cell → Value → Prop
  | .dat c, v => c.rep M v
  | .ptr k off, v => ∃ b, (ν k).blk = some b ∧ v = .pointer (some ⟨b, off, none⟩)
  | .own k n, v => v = .slice ((ν k).blk.map fun b => ⟨b, 0, none⟩) n (ν k).cap
  | .rp k sz i f, v => ∃ b, (ν k).blk = some b ∧ v = .pointer (some ⟨b, i * sz + f, none⟩)
  | .ref r, v => ∃ b off vs, v = .pointer (some ⟨b, off, none⟩) ∧ At (M b) off vs ∧ repRow M r vs
  | .clo f caps, v => ∃ vs : List Value, v = .func (.func f) #[] vs.toArray ∧ Cell.reps M ν caps vs
def Cell.reps (M : Mem) (ν : Nu) : List Cell → List Value → Prop
  | [], vs => vs = []
  | c :: cs, vs => ∃ v vs', vs = v :: vs' ∧ Cell.rep M ν c v ∧ Cell.reps M ν cs vs'
end

mutual
theorem Cell.rep_mono {M M' : Mem} {ν : Nu} (h : M.le M') : ∀ (c : Cell) (v : Value), c.rep M ν v → c.rep M' ν v
  | .dat c, v, r => by simp only [Cell.rep] at r ⊢; exact C.rep_mono h c v r
  | .ptr k off, v, r => by simpa only [Cell.rep] using r
  | .own k n, v, r => by simpa only [Cell.rep] using r
  | .rp k sz i f, v, r => by simpa only [Cell.rep] using r
  | .ref r', v, r => by
    simp only [Cell.rep] at r ⊢
    obtain ⟨b, off, vs, e, k1, k2⟩ := r
    exact ⟨b, off, vs, e, k1.mono h, repRow_mono h _ _ k2⟩
  | .clo f caps, v, r => by
    simp only [Cell.rep] at r ⊢
    obtain ⟨vs, e, k⟩ := r
    exact ⟨vs, e, Cell.reps_mono h caps vs k⟩
theorem Cell.reps_mono {M M' : Mem} {ν : Nu} (h : M.le M') : ∀ (cs : List Cell) (vs : List Value), Cell.reps M ν cs vs → Cell.reps M' ν cs vs
  | [], vs, r => by simpa only [Cell.reps] using r
  | c :: cs, vs, k => by
    simp only [Cell.reps] at k ⊢
    obtain ⟨v, vs', e, h1, h2⟩ := k
    exact ⟨v, vs', e, Cell.rep_mono h c v h1, Cell.reps_mono h cs vs' h2⟩
end

theorem Cell.reps_length {M : Mem} {ν : Nu} : ∀ {cs : List Cell} {vs : List Value}, Cell.reps M ν cs vs → vs.length = cs.length
  | [], vs, h => by simp only [Cell.reps] at h; simp [h]
  | c :: cs, vs, h => by
    simp only [Cell.reps] at h
    obtain ⟨v, vs', e, _, h2⟩ := h
    subst e
    simp [Cell.reps_length h2]

theorem Cell.reps_append {M : Mem} {ν : Nu} : ∀ {cs ds : List Cell} {vs ws : List Value}, Cell.reps M ν cs vs → Cell.reps M ν ds ws → Cell.reps M ν (cs ++ ds) (vs ++ ws)
  | [], ds, vs, ws, h, k => by simp only [Cell.reps] at h; subst h; simpa using k
  | c :: cs, ds, vs, ws, h, k => by
    simp only [Cell.reps] at h
    obtain ⟨v, vs', e, h1, h2⟩ := h
    subst e
    simp only [List.cons_append, Cell.reps]
    exact ⟨v, _, rfl, h1, Cell.reps_append h2 k⟩

theorem Cell.reps_split {M : Mem} {ν : Nu} : ∀ {cs ds : List Cell} {vs : List Value}, Cell.reps M ν (cs ++ ds) vs → ∃ v1 v2, vs = v1 ++ v2 ∧ Cell.reps M ν cs v1 ∧ Cell.reps M ν ds v2
  | [], ds, vs, h => ⟨[], vs, rfl, by simp only [Cell.reps], h⟩
  | c :: cs, ds, vs, h => by
    simp only [List.cons_append, Cell.reps] at h
    obtain ⟨v, vs', e, h1, h2⟩ := h
    obtain ⟨v1, v2, e2, k1, k2⟩ := Cell.reps_split h2
    subst e; subst e2
    refine ⟨v :: v1, v2, rfl, ?_, k2⟩
    simp only [Cell.reps]
    exact ⟨v, v1, rfl, h1, k1⟩

theorem Cell.reps_map_c {M : Mem} {ν : Nu} : ∀ {r : List C} {vs : List Value}, Cell.reps M ν (r.map .dat) vs ↔ repRow M r vs
  | [], vs => by simp only [List.map_nil, Cell.reps, repRow]
  | c :: r, vs => by
    simp only [List.map_cons, Cell.reps, repRow, Cell.rep]
    constructor
    · rintro ⟨v, vs', e, h1, h2⟩; exact ⟨v, vs', e, h1, Cell.reps_map_c.1 h2⟩
    · rintro ⟨v, vs', e, h1, h2⟩; exact ⟨v, vs', e, h1, Cell.reps_map_c.2 h2⟩

/-- what a temporary holds -/
inductive T where
  | one (c : Cell)
  | st (r : List C)
  | agg (cs : List Cell)
  | tup (ts : List T)
  | un

mutual
def T.rep (M : Mem) (ν : Nu) : T → Value → Prop
  | .one c, v => c.rep M ν v
  | .st r, v => ∃ a : Array Value, v = .agg a ∧ repRow M r a.toList
  | .agg cs, v => ∃ a : Array Value, v = .agg a ∧ Cell.reps M ν cs a.toList
  | .tup ts, v => ∃ vs : List Value, v = .tuple vs.toArray ∧ T.reps M ν ts vs
  | .un, v => v = Go.undef
def T.reps (M : Mem) (ν : Nu) : List T → List Value → Prop
  | [], vs => vs = []
  | c :: cs, vs => ∃ v vs', vs = v :: vs' ∧ T.rep M ν c v ∧ T.reps M ν cs vs'
end

mutual
theorem T.rep_mono {M M' : Mem} {ν : Nu} (h : M.le M') : ∀ (t : T) (v : Value), t.rep M ν v → t.rep M' ν v
  | .one c, v, r => by simp only [T.rep] at r ⊢; exact Cell.rep_mono h c v r
  | .st r', v, r => by simp only [T.rep] at r ⊢; obtain ⟨a, e, k⟩ := r; exact ⟨a, e, repRow_mono h _ _ k⟩
  | .agg cs, v, r => by simp only [T.rep] at r ⊢; obtain ⟨a, e, k⟩ := r; exact ⟨a, e, Cell.reps_mono h _ _ k⟩
  | .tup ts, v, r => by simp only [T.rep] at r ⊢; obtain ⟨a, e, k⟩ := r; exact ⟨a, e, T.reps_mono h ts a k⟩
  | .un, v, r => by simpa only [T.rep] using r
theorem T.reps_mono {M M' : Mem} {ν : Nu} (h : M.le M') : ∀ (ts : List T) (vs : List Value), T.reps M ν ts vs → T.reps M' ν ts vs
  | [], vs, r => by simpa only [T.reps] using r
  | c :: cs, vs, k => by
    simp only [T.reps] at k ⊢
    obtain ⟨v, vs', e, h1, h2⟩ := k
    exact ⟨v, vs', e, T.rep_mono h c v h1, T.reps_mono h cs vs' h2⟩
end

/-- what a named box holds: a whole block of cells, or a row that grows -/
inductive Res where
  | cells (cs : List Cell)
  | row (sz : Nat) (rows : List (List C))

def Res.ok (M : Mem) (ν : Nu) (w : World) (k : Nat) : Res → Prop
  | .cells cs => ∃ b c et, (ν k).blk = some b ∧ w.heap[b]? = some (.cells c et (0, 0)) ∧ Cell.reps M ν cs c.toList
  | .row sz rows => rows.length ≤ (ν k).cap ∧ (ν k).cap ≤ maxLen ∧
      (((ν k).blk = none ∧ (ν k).cap = 0) ∨ ∃ b c et mid post, (ν k).blk = some b ∧ w.heap[b]? = some (.cells c et (0, 0)) ∧ c.toList = mid ++ post ∧ repRows M sz rows mid ∧ c.size = (ν k).cap * sz)

abbrev Bx := List (Nat × Res)
abbrev Env := List (Nat × T)

/-- the world in which the call began; the blocks that the call may write -/
structure Kap where
  w : World
  D : Nat → Prop
  nu : Nu
/-- names from here on keep their blocks -/
def pin : Nat := 1000000

structure Sat (κ : Kap) (M : Mem) (ν : Nu) (B : Bx) (w : World) : Prop where
  os : w.os = κ.w.os
  tape : w.tape = κ.w.tape
  output : w.output = κ.w.output
  dr : κ.w.drawn ≤ w.drawn
  size : κ.w.heap.size ≤ w.heap.size
  unch : ∀ b, b < κ.w.heap.size → ¬ κ.D b → w.heap[b]? = κ.w.heap[b]?
  fro : ∀ b o, M b = some o → w.heap[b]? = some o
  res : ∀ k r, (k, r) ∈ B → r.ok M ν w k
  away : ∀ k r b, (k, r) ∈ B → (ν k).blk = some b → M b = none ∧ (κ.w.heap.size ≤ b ∨ (pin ≤ k ∧ κ.D b))
  inj : ∀ k r k' r' b, (k, r) ∈ B → (k', r') ∈ B → (ν k).blk = some b → (ν k').blk = some b → k = k'
  nodup : (B.map (·.1)).Nodup

def EnvOk (M : Mem) (ν : Nu) (tmps : Array Value) (env : Env) : Prop :=
  ∀ d t, env.lookup d = some t → t.rep M ν (tmps.getD d undef)

/-- the frozen memory grows, and by blocks of the call's own alone -/
def Mem.ext (κ : Kap) (M M' : Mem) : Prop := M.le M' ∧ ∀ b o, M' b = some o → M b = some o ∨ κ.w.heap.size ≤ b
theorem Mem.ext.refl (κ : Kap) (M : Mem) : M.ext κ M := ⟨Mem.le.refl M, fun _ _ h => .inl h⟩
theorem Mem.ext.trans {κ : Kap} {M M' M'' : Mem} (h : M.ext κ M') (k : M'.ext κ M'') : M.ext κ M'' :=
  ⟨h.1.trans k.1, fun b o e => (k.2 b o e).elim (fun e => h.2 b o e) .inr⟩

structure AS where
  env : Env
  B : Bx

def St (κ : Kap) (M0 : Mem) (n : Nat) (σ : AS) (a : Act) (w : World) : Prop :=
  ∃ M ν, M0.ext κ M ∧ a.tmps.size = n ∧ a.defers = [] ∧ EnvOk M ν a.tmps σ.env ∧ Sat κ M ν σ.B w ∧ ∀ k, pin ≤ k → ν k = κ.nu k

/-- the code, begun in a state of σ, ends in a state that meets Q -/
def AWP (P : Program) (n : Nat) (c : Code) (σ : AS) (Q : Exit → AS → Prop) : Prop :=
  ∀ κ M0 a w, St κ M0 n σ a w → c.wp P (fun e a' w' => ∃ σ', St κ M0 n σ' a' w' ∧ Q e σ') a w

variable {P : Program} {n : Nat} {σ : AS} {Q : Exit → AS → Prop}

theorem AWP.mono {c : Code} {Q' : Exit → AS → Prop} (h : AWP P n c σ Q) (hq : ∀ e σ, Q e σ → Q' e σ) : AWP P n c σ Q' :=
  fun κ M0 a w hs => wp_mono (h κ M0 a w hs) fun e a' w' ⟨σ', s, q⟩ => ⟨σ', s, hq _ _ q⟩

def Then (K : AS → Prop) (Q : Exit → AS → Prop) : Exit → AS → Prop
  | .normal, σ => K σ
  | e, σ => Q e σ

theorem AWP.seq {x y : Code} (h : ∀ K : AS → Prop, (∀ σ', AWP P n y σ' Q → K σ') → AWP P n x σ (Then K Q)) : AWP P n (.seq x y) σ Q := by
  intro κ M0 a w hs
  have hx := h (fun σ' => AWP P n y σ' Q) (fun _ k => k) κ M0 a w hs
  refine wp_seq (wp_mono hx ?_)
  rintro e a' w' ⟨σ', s, q⟩
  cases e with
  | normal => exact q κ M0 a' w' s
  | exit id => exact ⟨σ', s, q⟩
  | goto l => exact ⟨σ', s, q⟩
  | ret => exact ⟨σ', s, q⟩
  | panic ch => exact ⟨σ', s, q⟩
  | outgrown => exact ⟨σ', s, q⟩

theorem AWP.skip (h : Q .normal σ) : AWP P n .skip σ Q := fun κ M0 a w hs => wp_skip ⟨σ, hs, h⟩
theorem AWP.ret (h : Q .ret σ) : AWP P n .ret σ Q := fun κ M0 a w hs => wp_ret ⟨σ, hs, h⟩
theorem AWP.exit {id : Nat} (h : Q (.exit id) σ) : AWP P n (.exit id) σ Q := fun κ M0 a w hs => wp_exit ⟨σ, hs, h⟩
theorem AWP.label {id : Nat} (h : Q .normal σ) : AWP P n (.label id) σ Q := fun κ M0 a w hs => wp_label ⟨σ, hs, h⟩

end Go.Sx
