/- A part of the proof: lemmas about the walk of the program and about plain integers and lists. No conditions beyond those that each lemma states. -/
import Derived.WalkKit
import Derived.Orders
import Derived.Still
import Derived.Deep.LoopGhost
set_option linter.unusedVariables false
set_option linter.unusedSimpArgs false
namespace Go.Sx
abbrev Mem0 := Nat → Option Obj
def Mem0.le (M M' : Mem0) : Prop := ∀ b o, M b = some o → M' b = some o
theorem Mem0.le.refl (M : Mem0) : M.le M := fun _ _ h => h
theorem Mem0.le.trans {M M' M'' : Mem0} (h : M.le M') (k : M'.le M'') : M.le M'' := fun b o e => k b o (h b o e)
/-- one cell of data that never changes -/
inductive C where
  | int (k : IntKind) (n : Int)
  | bool (b : Bool)
  | str (l : List UInt8)
  | sl (sz : Nat) (rows : List (List C))
  | nil (sz : Nat)
  | fn (f : FuncId)
  | fnc (f : FuncId) (caps : List (List C))
  | fnil
  | err (b : Bool)
/-- the package's variables that the walk knows: block, cells (another tree may have another list) -/
def gl : List (Nat × List C) := []
/-- the values vs lie in the object o from place off on -/
def At (o : Option Obj) (off : Nat) (vs : List Value) : Prop :=
  ∃ c et fz pre post, o = some (.cells c et fz) ∧ c.toList = pre ++ (vs ++ post) ∧ pre.length = off
mutual
def C.rep (M : Mem0) : C → Value → Prop
  | .int k n, v => v = .int k n
  | .bool b, v => v = .bool b
  | .str l, v => v = .string ⟨l.toArray⟩
  | .sl sz rows, v => ∃ a cap mid, v = .slice a rows.length cap ∧ rows.length ≤ cap ∧ cap ≤ maxLen ∧ repRows M sz rows mid ∧ (rows = [] ∨ ∃ b off, a = some ⟨b, off, none⟩ ∧ At (M b) off mid)
  | .nil _, v => v = .slice none 0 0
  | .fn f, v => v = .func (.func f) #[] #[]
  | .fnc f caps, v => ∃ vs : List Value, v = .func (.func f) #[] vs.toArray ∧ repRefs M caps vs
  | .fnil, v => v = .nilFunc
  | .err b, v => bif b then ∃ te pe, v = .iface te pe else v = .nilIface
def repRefs (M : Mem0) : List (List C) → List Value → Prop
  | [], vs => vs = []
  | r :: rs, vs => ∃ b off mid vs', vs = .pointer (some ⟨b, off, none⟩) :: vs' ∧ At (M b) off mid ∧ repRow M r mid ∧ repRefs M rs vs'
def repRows (M : Mem0) (sz : Nat) : List (List C) → List Value → Prop
  | [], vs => vs = []
  | r :: rs, vs => ∃ v1 v2, vs = v1 ++ v2 ∧ r.length = sz ∧ repRow M r v1 ∧ repRows M sz rs v2
def repRow (M : Mem0) : List C → List Value → Prop
  | [], vs => vs = []
  | c :: cs, vs => ∃ v vs', vs = v :: vs' ∧ C.rep M c v ∧ repRow M cs vs'
end
theorem At.mono {M M' : Mem0} (h : M.le M') {b off : Nat} {vs : List Value} (k : At (M b) off vs) : At (M' b) off vs := by
  obtain ⟨c, et, fz, pre, post, e, rest⟩ := k
  exact ⟨c, et, fz, pre, post, h _ _ e, rest⟩
mutual
theorem C.rep_mono {M M' : Mem0} (h : M.le M') : ∀ (c : C) (v : Value), c.rep M v → c.rep M' v
  | .int k n, v, r => by simpa only [C.rep] using r
  | .bool b, v, r => by simpa only [C.rep] using r
  | .str l, v, r => by simpa only [C.rep] using r
  | .fn f, v, r => by simpa only [C.rep] using r
  | .fnil, v, r => by simpa only [C.rep] using r
  | .err b, v, r => by simpa only [C.rep] using r
  | .fnc f caps, v, r => by
    simp only [C.rep] at r ⊢
    obtain ⟨vs, e, h1⟩ := r
    exact ⟨vs, e, repRefs_mono h caps vs h1⟩
  | .nil n, v, r => by simpa only [C.rep] using r
  | .sl sz rows, v, r => by
    simp only [C.rep] at r ⊢
    obtain ⟨a, cap, mid, e, h1, h2, hr, ho⟩ := r
    refine ⟨a, cap, mid, e, h1, h2, repRows_mono h sz rows mid hr, ?_⟩
    rcases ho with ho | ⟨b, off, e2, k⟩
    · exact .inl ho
    · exact .inr ⟨b, off, e2, k.mono h⟩
theorem repRefs_mono {M M' : Mem0} (h : M.le M') : ∀ (rs : List (List C)) (vs : List Value), repRefs M rs vs → repRefs M' rs vs
  | [], vs, r => by simpa only [repRefs] using r
  | r :: rs, vs, k => by
    simp only [repRefs] at k ⊢
    obtain ⟨b, off, mid, vs', e, h1, h2, h3⟩ := k
    exact ⟨b, off, mid, vs', e, h1.mono h, repRow_mono h r mid h2, repRefs_mono h rs vs' h3⟩
theorem repRows_mono {M M' : Mem0} (h : M.le M') (sz : Nat) : ∀ (rs : List (List C)) (vs : List Value), repRows M sz rs vs → repRows M' sz rs vs
  | [], vs, r => by simpa only [repRows] using r
  | r :: rs, vs, k => by
    simp only [repRows] at k ⊢
    obtain ⟨v1, v2, e, hl, h1, h2⟩ := k
    exact ⟨v1, v2, e, hl, repRow_mono h r v1 h1, repRows_mono h sz rs v2 h2⟩
theorem repRow_mono {M M' : Mem0} (h : M.le M') : ∀ (cs : List C) (vs : List Value), repRow M cs vs → repRow M' cs vs
  | [], vs, r => by simpa only [repRow] using r
  | c :: cs, vs, k => by
    simp only [repRow] at k ⊢
    obtain ⟨v, vs', e, h1, h2⟩ := k
    exact ⟨v, vs', e, C.rep_mono h c v h1, repRow_mono h cs vs' h2⟩
end
theorem repRow_length {M : Mem0} : ∀ {cs : List C} {vs : List Value}, repRow M cs vs → vs.length = cs.length
  | [], vs, h => by simp only [repRow] at h; simp [h]
  | c :: cs, vs, h => by
    simp only [repRow] at h
    obtain ⟨v, vs', e, _, h2⟩ := h
    subst e
    simp [repRow_length h2]
theorem repRow_append {M : Mem0} : ∀ {cs ds : List C} {vs ws : List Value}, repRow M cs vs → repRow M ds ws → repRow M (cs ++ ds) (vs ++ ws)
  | [], ds, vs, ws, h, k => by simp only [repRow] at h; subst h; simpa using k
  | c :: cs, ds, vs, ws, h, k => by
    simp only [repRow] at h
    obtain ⟨v, vs', e, h1, h2⟩ := h
    subst e
    simp only [List.cons_append, repRow]
    exact ⟨v, _, rfl, h1, repRow_append h2 k⟩
theorem repRow_split {M : Mem0} : ∀ {cs ds : List C} {vs : List Value}, repRow M (cs ++ ds) vs → ∃ v1 v2, vs = v1 ++ v2 ∧ repRow M cs v1 ∧ repRow M ds v2
  | [], ds, vs, h => ⟨[], vs, rfl, by simp only [repRow], h⟩
  | c :: cs, ds, vs, h => by
    simp only [List.cons_append, repRow] at h
    obtain ⟨v, vs', e, h1, h2⟩ := h
    obtain ⟨v1, v2, e2, k1, k2⟩ := repRow_split h2
    subst e; subst e2
    refine ⟨v :: v1, v2, rfl, ?_, k2⟩
    simp only [repRow]
    exact ⟨v, v1, rfl, h1, k1⟩
theorem repRows_length {M : Mem0} {sz : Nat} : ∀ {rs : List (List C)} {vs : List Value}, repRows M sz rs vs → vs.length = rs.length * sz
  | [], vs, h => by simp only [repRows] at h; simp [h]
  | r :: rs, vs, h => by
    simp only [repRows] at h
    obtain ⟨v1, v2, e, hl, h1, h2⟩ := h
    subst e
    simp only [List.length_append, repRow_length h1, repRows_length h2, hl, List.length_cons, Nat.add_mul, Nat.one_mul]
    omega
theorem repRows_append {M : Mem0} {sz : Nat} : ∀ {rs ss : List (List C)} {vs ws : List Value}, repRows M sz rs vs → repRows M sz ss ws → repRows M sz (rs ++ ss) (vs ++ ws)
  | [], ss, vs, ws, h, k => by simp only [repRows] at h; subst h; simpa using k
  | r :: rs, ss, vs, ws, h, k => by
    simp only [repRows] at h
    obtain ⟨v1, v2, e, hl, h1, h2⟩ := h
    subst e
    simp only [List.cons_append, repRows]
    exact ⟨v1, v2 ++ ws, by simp, hl, h1, repRows_append h2 k⟩
theorem repRows_split {M : Mem0} {sz : Nat} : ∀ {rs ss : List (List C)} {vs : List Value}, repRows M sz (rs ++ ss) vs → ∃ v1 v2, vs = v1 ++ v2 ∧ repRows M sz rs v1 ∧ repRows M sz ss v2
  | [], ss, vs, h => ⟨[], vs, rfl, by simp only [repRows], h⟩
  | r :: rs, ss, vs, h => by
    simp only [List.cons_append, repRows] at h
    obtain ⟨v1, v2, e, hl, h1, h2⟩ := h
    obtain ⟨w1, w2, e2, k1, k2⟩ := repRows_split h2
    subst e; subst e2
    refine ⟨v1 ++ w1, w2, by simp, ?_, k2⟩
    simp only [repRows]
    exact ⟨v1, w1, rfl, hl, h1, k1⟩
theorem repRows_one {M : Mem0} {sz : Nat} {r : List C} {vs : List Value} (hl : r.length = sz) (h : repRow M r vs) : repRows M sz [r] vs := by
  simp only [repRows]
  exact ⟨vs, [], by simp, hl, h, rfl⟩
/-- one cell, that may point into a box or own a row -/
inductive Cell where
  | dat (c : C)
  | ptr (k off : Nat)
  | own (k n : Nat)
  | rp (k sz i f : Nat)
  | arr (k n : Nat)
  | ref (r : List C)
  | clo (f : FuncId) (caps : List Cell)
  | mp (k : Nat)
structure Nm where
  blk : Option Nat
  cap : Nat
abbrev Nu := Nat → Nm
mutual
def Cell.rep (M : Mem0) (ν : Nu) : Cell → Value → Prop
  | .dat c, v => c.rep M v
  | .ptr k off, v => ∃ b, (ν k).blk = some b ∧ v = .pointer (some ⟨b, off, none⟩)
  | .own k n, v => v = .slice ((ν k).blk.map fun b => ⟨b, 0, none⟩) n (ν k).cap
  | .rp k sz i f, v => ∃ b, (ν k).blk = some b ∧ v = .pointer (some ⟨b, i * sz + f, none⟩)
  | .arr k n, v => ∃ b, (ν k).blk = some b ∧ v = .slice (some ⟨b, 0, none⟩) n n
  | .ref r, v => ∃ b off vs, v = .pointer (some ⟨b, off, none⟩) ∧ At (M b) off vs ∧ repRow M r vs
  | .clo f caps, v => ∃ vs : List Value, v = .func (.func f) #[] vs.toArray ∧ Cell.reps M ν caps vs
  | .mp k, v => ∃ b, (ν k).blk = some b ∧ v = .map (some b)
def Cell.reps (M : Mem0) (ν : Nu) : List Cell → List Value → Prop
  | [], vs => vs = []
  | c :: cs, vs => ∃ v vs', vs = v :: vs' ∧ Cell.rep M ν c v ∧ Cell.reps M ν cs vs'
end
mutual
theorem Cell.rep_mono {M M' : Mem0} {ν : Nu} (h : M.le M') : ∀ (c : Cell) (v : Value), c.rep M ν v → c.rep M' ν v
  | .dat c, v, r => by simp only [Cell.rep] at r ⊢; exact C.rep_mono h c v r
  | .ptr k off, v, r => by simpa only [Cell.rep] using r
  | .own k n, v, r => by simpa only [Cell.rep] using r
  | .rp k sz i f, v, r => by simpa only [Cell.rep] using r
  | .arr k n, v, r => by simpa only [Cell.rep] using r
  | .mp k, v, r => by simpa only [Cell.rep] using r
  | .ref r', v, r => by
    simp only [Cell.rep] at r ⊢
    obtain ⟨b, off, vs, e, k1, k2⟩ := r
    exact ⟨b, off, vs, e, k1.mono h, repRow_mono h _ _ k2⟩
  | .clo f caps, v, r => by
    simp only [Cell.rep] at r ⊢
    obtain ⟨vs, e, k⟩ := r
    exact ⟨vs, e, Cell.reps_mono h caps vs k⟩
theorem Cell.reps_mono {M M' : Mem0} {ν : Nu} (h : M.le M') : ∀ (cs : List Cell) (vs : List Value), Cell.reps M ν cs vs → Cell.reps M' ν cs vs
  | [], vs, r => by simpa only [Cell.reps] using r
  | c :: cs, vs, k => by
    simp only [Cell.reps] at k ⊢
    obtain ⟨v, vs', e, h1, h2⟩ := k
    exact ⟨v, vs', e, Cell.rep_mono h c v h1, Cell.reps_mono h cs vs' h2⟩
end
theorem Cell.reps_length {M : Mem0} {ν : Nu} : ∀ {cs : List Cell} {vs : List Value}, Cell.reps M ν cs vs → vs.length = cs.length
  | [], vs, h => by simp only [Cell.reps] at h; simp [h]
  | c :: cs, vs, h => by
    simp only [Cell.reps] at h
    obtain ⟨v, vs', e, _, h2⟩ := h
    subst e
    simp [Cell.reps_length h2]
theorem Cell.reps_append {M : Mem0} {ν : Nu} : ∀ {cs ds : List Cell} {vs ws : List Value}, Cell.reps M ν cs vs → Cell.reps M ν ds ws → Cell.reps M ν (cs ++ ds) (vs ++ ws)
  | [], ds, vs, ws, h, k => by simp only [Cell.reps] at h; subst h; simpa using k
  | c :: cs, ds, vs, ws, h, k => by
    simp only [Cell.reps] at h
    obtain ⟨v, vs', e, h1, h2⟩ := h
    subst e
    simp only [List.cons_append, Cell.reps]
    exact ⟨v, _, rfl, h1, Cell.reps_append h2 k⟩
theorem Cell.reps_split {M : Mem0} {ν : Nu} : ∀ {cs ds : List Cell} {vs : List Value}, Cell.reps M ν (cs ++ ds) vs → ∃ v1 v2, vs = v1 ++ v2 ∧ Cell.reps M ν cs v1 ∧ Cell.reps M ν ds v2
  | [], ds, vs, h => ⟨[], vs, rfl, by simp only [Cell.reps], h⟩
  | c :: cs, ds, vs, h => by
    simp only [List.cons_append, Cell.reps] at h
    obtain ⟨v, vs', e, h1, h2⟩ := h
    obtain ⟨v1, v2, e2, k1, k2⟩ := Cell.reps_split h2
    subst e; subst e2
    refine ⟨v :: v1, v2, rfl, ?_, k2⟩
    simp only [Cell.reps]
    exact ⟨v, v1, rfl, h1, k1⟩
theorem Cell.reps_map_c {M : Mem0} {ν : Nu} : ∀ {r : List C} {vs : List Value}, Cell.reps M ν (r.map .dat) vs ↔ repRow M r vs
  | [], vs => by simp only [List.map_nil, Cell.reps, repRow]
  | c :: r, vs => by
    simp only [List.map_cons, Cell.reps, repRow, Cell.rep]
    constructor
    · rintro ⟨v, vs', e, h1, h2⟩; exact ⟨v, vs', e, h1, Cell.reps_map_c.1 h2⟩
    · rintro ⟨v, vs', e, h1, h2⟩; exact ⟨v, vs', e, h1, Cell.reps_map_c.2 h2⟩
/-- what a temporary holds -/
inductive T where
  | one (c : Cell)
  | st (r : List C)
  | agg (cs : List Cell)
  | tup (ts : List T)
  | un
mutual
def T.rep (M : Mem0) (ν : Nu) : T → Value → Prop
  | .one c, v => c.rep M ν v
  | .st r, v => ∃ a : Array Value, v = .agg a ∧ repRow M r a.toList
  | .agg cs, v => ∃ a : Array Value, v = .agg a ∧ Cell.reps M ν cs a.toList
  | .tup ts, v => ∃ vs : List Value, v = .tuple vs.toArray ∧ T.reps M ν ts vs
  | .un, v => v = Go.undef
def T.reps (M : Mem0) (ν : Nu) : List T → List Value → Prop
  | [], vs => vs = []
  | c :: cs, vs => ∃ v vs', vs = v :: vs' ∧ T.rep M ν c v ∧ T.reps M ν cs vs'
end
mutual
theorem T.rep_mono {M M' : Mem0} {ν : Nu} (h : M.le M') : ∀ (t : T) (v : Value), t.rep M ν v → t.rep M' ν v
  | .one c, v, r => by simp only [T.rep] at r ⊢; exact Cell.rep_mono h c v r
  | .st r', v, r => by simp only [T.rep] at r ⊢; obtain ⟨a, e, k⟩ := r; exact ⟨a, e, repRow_mono h _ _ k⟩
  | .agg cs, v, r => by simp only [T.rep] at r ⊢; obtain ⟨a, e, k⟩ := r; exact ⟨a, e, Cell.reps_mono h _ _ k⟩
  | .tup ts, v, r => by simp only [T.rep] at r ⊢; obtain ⟨a, e, k⟩ := r; exact ⟨a, e, T.reps_mono h ts a k⟩
  | .un, v, r => by simpa only [T.rep] using r
theorem T.reps_mono {M M' : Mem0} {ν : Nu} (h : M.le M') : ∀ (ts : List T) (vs : List Value), T.reps M ν ts vs → T.reps M' ν ts vs
  | [], vs, r => by simpa only [T.reps] using r
  | c :: cs, vs, k => by
    simp only [T.reps] at k ⊢
    obtain ⟨v, vs', e, h1, h2⟩ := k
    exact ⟨v, vs', e, T.rep_mono h c v h1, T.reps_mono h cs vs' h2⟩
end
/-- what a named box holds: a whole block of cells, or a row that grows -/
inductive Res where
  | cells (cs : List Cell)
  | row (sz : Nat) (rows : List (List C))
  | mp (ag : Bool) (es : List (List UInt8 × List C))
/-- what an element of a map reads as -/
def repVal (M : Mem0) (ag : Bool) (r : List C) (v : Value) : Prop := bif ag then ∃ a : Array Value, v = .agg a ∧ repRow M r a.toList else repRow M r [v]
def repEnts (M : Mem0) (ag : Bool) : List (List UInt8 × List C) → List MapEntry → Prop
  | [], es => es = []
  | p :: ps, es => ∃ e es', es = e :: es' ∧ e.key = .string ⟨p.1.toArray⟩ ∧ repVal M ag p.2 e.val ∧ repEnts M ag ps es'
theorem repVal_mono {M M' : Mem0} (h : M.le M') {ag : Bool} {r : List C} {v : Value} (k : repVal M ag r v) : repVal M' ag r v := by
  unfold repVal at *
  cases ag with
  | true => obtain ⟨a, e, k⟩ := k; exact ⟨a, e, repRow_mono h _ _ k⟩
  | false => exact repRow_mono h _ _ k
theorem repEnts_mono {M M' : Mem0} (h : M.le M') {ag : Bool} : ∀ (ps : List (List UInt8 × List C)) (es : List MapEntry), repEnts M ag ps es → repEnts M' ag ps es
  | [], es, k => k
  | p :: ps, es, k => by
    obtain ⟨e, es', h1, h2, h3, h4⟩ := k
    exact ⟨e, es', h1, h2, repVal_mono h h3, repEnts_mono h ps es' h4⟩
def Res.ok (M : Mem0) (ν : Nu) (w : World) (k : Nat) : Res → Prop
  | .cells cs => ∃ b c et, (ν k).blk = some b ∧ w.heap[b]? = some (.cells c et (0, 0)) ∧ Cell.reps M ν cs c.toList
  | .row sz rows => rows.length ≤ (ν k).cap ∧ (ν k).cap ≤ maxLen ∧
      (((ν k).blk = none ∧ (ν k).cap = 0) ∨ ∃ b c et mid post, (ν k).blk = some b ∧ w.heap[b]? = some (.cells c et (0, 0)) ∧ c.toList = mid ++ post ∧ repRows M sz rows mid ∧ c.size = (ν k).cap * sz)
  | .mp ag es => ∃ b ents clock, (ν k).blk = some b ∧ w.heap[b]? = some (.map ents clock) ∧ repEnts M ag es ents.toList
/-- what else is known of them -/
def glX (M : Mem0) : Prop := True
/-- the package's variables are frozen, and read as gl says -/
def GlobOk (M : Mem0) : Prop := (∀ g r, gl.lookup g = some r → ∃ vs, At (M g) 0 vs ∧ repRow M r vs) ∧ glX M
theorem GlobOk.mono {M M' : Mem0} (h : M.le M') (k : GlobOk M) : GlobOk M' := ⟨fun g r e => by
  obtain ⟨vs, h1, h2⟩ := k.1 g r e
  exact ⟨vs, h1.mono h, repRow_mono h _ _ h2⟩, trivial⟩
theorem GlobOk.none (M : Mem0) : GlobOk M := ⟨fun g r e => (by cases e), trivial⟩
/-- what never changes -/
structure Mem where
  f : Mem0
  glo : GlobOk f
instance : CoeFun Mem (fun _ => Nat → Option Obj) := ⟨Mem.f⟩
instance : Coe Mem Mem0 := ⟨Mem.f⟩
abbrev Mem.le (M M' : Mem) : Prop := Mem0.le M.f M'.f
theorem Mem.le.refl (M : Mem) : M.le M := fun _ _ h => h
theorem Mem.le.trans {M M' M'' : Mem} (h : M.le M') (k : M'.le M'') : M.le M'' := fun b o e => k b o (h b o e)
/-- the memory f, if it is M and more -/
def Mem.up (M : Mem) (f : Mem0) (h : M.f.le f) : Mem := ⟨f, M.glo.mono h⟩
/-- M, and o at b where M has nothing -/
def Mem.add (M : Mem) (b : Nat) (o : Obj) : Mem := M.up (fun k => (M k).or (if k = b then some o else none)) fun k x e => by show (M k).or _ = _; rw [e]; rfl
theorem Mem.add_at {M : Mem} {b : Nat} {o : Obj} (h : M b = none) (k : Nat) : M.add b o k = if k = b then some o else M k := by
  show (M k).or _ = _
  by_cases hk : k = b
  · subst hk; rw [h]; simp
  · simp [hk]
abbrev Bx := List (Nat × Res)
abbrev Env := List (Nat × T)
/-- the world in which the call began; the blocks that the call may write -/
structure Kap where
  w : World
  D : Nat → Prop
  nu : Nu
/-- names from here on keep their blocks -/
def pin : Nat := 1000000
structure Sat (κ : Kap) (M : Mem) (ν : Nu) (B : Bx) (w : World) : Prop where
  os : w.os = κ.w.os
  tape : w.tape = κ.w.tape
  output : w.output = κ.w.output
  dr : 0 ≤ w.drawn
  size : κ.w.heap.size ≤ w.heap.size
  unch : ∀ b, b < κ.w.heap.size → ¬ κ.D b → w.heap[b]? = κ.w.heap[b]?
  fro : ∀ b o, M b = some o → w.heap[b]? = some o
  res : ∀ k r, (k, r) ∈ B → r.ok M ν w k
  away : ∀ k r b, (k, r) ∈ B → (ν k).blk = some b → M b = none ∧ (κ.w.heap.size ≤ b ∨ κ.D b)
  inj : ∀ k r k' r' b, (k, r) ∈ B → (k', r') ∈ B → (ν k).blk = some b → (ν k').blk = some b → k = k'
  nodup : (B.map (·.1)).Nodup
def EnvOk (M : Mem) (ν : Nu) (tmps : Array Value) (env : Env) : Prop :=
  ∀ d t, env.lookup d = some t → t.rep M ν (tmps.getD d undef)
/-- the frozen memory grows, and by blocks of the call's own alone -/
def Mem.ext (κ : Kap) (M M' : Mem) : Prop := M.le M' ∧ ∀ b o, M' b = some o → M b = some o ∨ κ.w.heap.size ≤ b ∨ κ.D b
theorem Mem.ext.refl (κ : Kap) (M : Mem) : M.ext κ M := ⟨Mem.le.refl M, fun _ _ h => .inl h⟩
theorem Mem.ext.trans {κ : Kap} {M M' M'' : Mem} (h : M.ext κ M') (k : M'.ext κ M'') : M.ext κ M'' :=
  ⟨h.1.trans k.1, fun b o e => (k.2 b o e).elim (fun e => h.2 b o e) .inr⟩
structure AS where
  env : Env
  B : Bx
def St (κ : Kap) (M0 : Mem) (n : Nat) (σ : AS) (a : Act) (w : World) : Prop :=
  ∃ M ν, M0.ext κ M ∧ a.tmps.size = n ∧ a.defers = [] ∧ EnvOk M ν a.tmps σ.env ∧ Sat κ M ν σ.B w ∧ ∀ k, pin ≤ k → ν k = κ.nu k
/-- the code, begun in a state of σ, ends in a state that meets Q -/
def AWP (P : Program) (n : Nat) (c : Code) (σ : AS) (Q : Exit → AS → Prop) : Prop :=
  ∀ κ M0 a w, St κ M0 n σ a w → c.wp P (fun e a' w' => ∃ σ', St κ M0 n σ' a' w' ∧ Q e σ') a w
variable {P : Program} {n : Nat} {σ : AS} {Q : Exit → AS → Prop}
theorem AWP.mono {c : Code} {Q' : Exit → AS → Prop} (h : AWP P n c σ Q) (hq : ∀ e σ, Q e σ → Q' e σ) : AWP P n c σ Q' :=
  fun κ M0 a w hs => wp_mono (h κ M0 a w hs) fun e a' w' ⟨σ', s, q⟩ => ⟨σ', s, hq _ _ q⟩
def Then (K : AS → Prop) (Q : Exit → AS → Prop) : Exit → AS → Prop
  | .normal, σ => K σ
  | e, σ => Q e σ
theorem AWP.seq {x y : Code} (h : ∀ K : AS → Prop, (∀ σ', AWP P n y σ' Q → K σ') → AWP P n x σ (Then K Q)) : AWP P n (.seq x y) σ Q := by
  intro κ M0 a w hs
  have hx := h (fun σ' => AWP P n y σ' Q) (fun _ k => k) κ M0 a w hs
  refine wp_seq (wp_mono hx ?_)
  rintro e a' w' ⟨σ', s, q⟩
  cases e with
  | normal => exact q κ M0 a' w' s
  | exit id => exact ⟨σ', s, q⟩
  | goto l => exact ⟨σ', s, q⟩
  | ret => exact ⟨σ', s, q⟩
  | panic ch => exact ⟨σ', s, q⟩
  | outgrown => exact ⟨σ', s, q⟩
theorem AWP.skip (h : Q .normal σ) : AWP P n .skip σ Q := fun κ M0 a w hs => wp_skip ⟨σ, hs, h⟩
theorem AWP.ret (h : Q .ret σ) : AWP P n .ret σ Q := fun κ M0 a w hs => wp_ret ⟨σ, hs, h⟩
theorem AWP.exit {id : Nat} (h : Q (.exit id) σ) : AWP P n (.exit id) σ Q := fun κ M0 a w hs => wp_exit ⟨σ, hs, h⟩
end Go.Sx
set_option linter.unusedVariables false
set_option linter.unusedSimpArgs false
namespace Go.Sx
variable {P : Program} {n : Nat} {σ : AS} {Q : Exit → AS → Prop}
theorem EnvOk.nil {M : Mem} {ν : Nu} {tmps : Array Value} : EnvOk M ν tmps [] := fun d t h => by simp at h
theorem EnvOk.mono {M M' : Mem} {ν : Nu} {tmps : Array Value} {env : Env} (h : EnvOk M ν tmps env) (hm : M.le M') : EnvOk M' ν tmps env :=
  fun d t e => T.rep_mono hm t _ (h d t e)
/-- the slot that an operation writes -/
def AS.put (σ : AS) (dst : Option Tmp) (t : T) : AS :=
  match dst with
  | some d => { σ with env := (d, t) :: σ.env }
  | none => σ
def putE (env : Env) (dst : Option Tmp) (t : T) : Env :=
  match dst with
  | some d => (d, t) :: env
  | none => env
theorem EnvOk.put {M : Mem} {ν : Nu} {tmps : Array Value} {env : Env} (h : EnvOk M ν tmps env) {dst : Option Tmp} {v : Value} {t : T} {df : List Deferred}
    (hd : ∀ d, dst = some d → d < tmps.size) (hr : t.rep M ν v) : EnvOk M ν ((⟨tmps, df⟩ : Act).put dst v).tmps (putE env dst t) := by
  cases dst with
  | none => exact h
  | some d =>
    have hlt := hd d rfl
    intro k u hk
    simp only [putE, List.lookup_cons] at hk
    simp only [Act.put]
    by_cases hkd : k = d
    · subst hkd
      simp at hk
      subst hk
      simpa [hlt] using hr
    · have : (k == d) = false := by simpa using hkd
      rw [this] at hk
      have := h k u hk
      simpa [Array.getElem?_setIfInBounds_ne (Ne.symm hkd)] using this
theorem Act.put_size (a : Act) (dst : Option Tmp) (v : Value) : (a.put dst v).tmps.size = a.tmps.size := by
  cases dst <;> simp [Act.put]
theorem Act.put_defers' (a : Act) (dst : Option Tmp) (v : Value) : (a.put dst v).defers = a.defers := by
  cases dst <;> rfl
def ev0 (env : Env) : Operand → Option T
  | .tmp d => env.lookup d
  | .const (.bool b) => some (.one (.dat (.bool b)))
  | _ => none
def condT (b : Bool) (X Y : Prop) : Prop := (b = true → X) ∧ (b = false → Y)
theorem AWP.cond {c : Operand} {x y : Code} {b : Bool} (hc : ev0 σ.env c = some (.one (.dat (.bool b)))) (ht : b = true → AWP P n x σ Q) (hf : b = false → AWP P n y σ Q) :
    AWP P n (.cond c x y) σ Q := by
  intro κ M0 a w hs
  obtain ⟨M, ν, h1, h2, h3, h4, h5⟩ := id hs
  have he : a.eval c = .bool b := by
    cases c with
    | tmp d =>
      have := h4 d _ hc
      simp only [T.rep, Cell.rep, C.rep] at this
      exact this
    | const v => cases v <;> simp [ev0] at hc; subst hc; rfl
    | global g => simp [ev0] at hc
    | func f => simp [ev0] at hc
  exact wp_cond_split he (fun e => ht e κ M0 a w hs) (fun e => hf e κ M0 a w hs)
def InBlock (id : Nat) (Q : Exit → AS → Prop) : Exit → AS → Prop
  | .exit id', σ => if id' = id then Q .normal σ else Q (.exit id') σ
  | e, σ => Q e σ
theorem AWP.block {id : Nat} {c : Code} (h : AWP P n c σ (InBlock id Q)) : AWP P n (.block id c) σ Q := by
  intro κ M0 a w hs
  refine wp_block (wp_mono (h κ M0 a w hs) ?_)
  rintro e a' w' ⟨σ', s, q⟩
  cases e with
  | exit id' =>
    simp only [InBlock, Exit.inBlock] at q ⊢
    split <;> rename_i h <;> simp only [h, if_true, if_false] at q <;> exact ⟨σ', s, q⟩
  | normal => exact ⟨σ', s, q⟩
  | goto l => exact ⟨σ', s, q⟩
  | ret => exact ⟨σ', s, q⟩
  | panic ch => exact ⟨σ', s, q⟩
  | outgrown => exact ⟨σ', s, q⟩
theorem AWP.loop {c : Code} (I : Nat → AS → Prop) (k₀ : Nat) (h₀ : I k₀ σ)
    (round : ∀ (k : Nat) (σ : AS), I k σ → AWP P n c σ (Then (fun σ' => ∃ k', k' < k ∧ I k' σ') Q)) : AWP P n (.loop c) σ Q := by
  intro κ M0 a w hs
  refine wp_loop_ghost (fun k a w => ∃ σ, St κ M0 n σ a w ∧ I k σ) k₀ ⟨σ, hs, h₀⟩ ?_
  rintro k a w ⟨σ, hs, hI⟩
  refine wp_mono (round k σ hI κ M0 a w hs) ?_
  rintro e a' w' ⟨σ', s, q⟩
  cases e with
  | normal => obtain ⟨k', hk, hI'⟩ := q; exact ⟨k', hk, σ', s, hI'⟩
  | exit id' => exact ⟨σ', s, q⟩
  | goto l => exact ⟨σ', s, q⟩
  | ret => exact ⟨σ', s, q⟩
  | panic ch => exact ⟨σ', s, q⟩
  | outgrown => exact ⟨σ', s, q⟩
mutual
def Cell.ren (ρ : Nat → Nat) : Cell → Cell
  | .dat c => .dat c
  | .ptr k off => .ptr (ρ k) off
  | .own k m => .own (ρ k) m
  | .rp k sz i f => .rp (ρ k) sz i f
  | .arr k n => .arr (ρ k) n
  | .ref r => .ref r
  | .mp k => .mp (ρ k)
  | .clo f caps => .clo f (Cell.rens ρ caps)
def Cell.rens (ρ : Nat → Nat) : List Cell → List Cell
  | [] => []
  | c :: cs => Cell.ren ρ c :: Cell.rens ρ cs
end
mutual
def T.ren (ρ : Nat → Nat) : T → T
  | .one c => .one (c.ren ρ)
  | .st r => .st r
  | .agg cs => .agg (Cell.rens ρ cs)
  | .tup ts => .tup (T.rens ρ ts)
  | .un => .un
def T.rens (ρ : Nat → Nat) : List T → List T
  | [] => []
  | t :: ts => T.ren ρ t :: T.rens ρ ts
end
def Res.ren (ρ : Nat → Nat) : Res → Res
  | .cells cs => .cells (Cell.rens ρ cs)
  | .row sz rows => .row sz rows
  | .mp ag es => .mp ag es
mutual
theorem Cell.rep_ren {M : Mem} {ν : Nu} {ρ : Nat → Nat} : ∀ (c : Cell) (v : Value), (c.ren ρ).rep M ν v ↔ c.rep M (fun k => ν (ρ k)) v
  | .dat c, v => by simp only [Cell.ren, Cell.rep]
  | .ptr k off, v => by simp only [Cell.ren, Cell.rep]
  | .own k m, v => by simp only [Cell.ren, Cell.rep]
  | .rp k sz i f, v => by simp only [Cell.ren, Cell.rep]
  | .arr k n, v => by simp only [Cell.ren, Cell.rep]
  | .ref r, v => by simp only [Cell.ren, Cell.rep]
  | .mp k, v => by simp only [Cell.ren, Cell.rep]
  | .clo f caps, v => by
    simp only [Cell.ren, Cell.rep]
    constructor
    · rintro ⟨vs, e, h⟩; exact ⟨vs, e, (Cell.reps_ren caps vs).1 h⟩
    · rintro ⟨vs, e, h⟩; exact ⟨vs, e, (Cell.reps_ren caps vs).2 h⟩
theorem Cell.reps_ren {M : Mem} {ν : Nu} {ρ : Nat → Nat} : ∀ (cs : List Cell) (vs : List Value), Cell.reps M ν (Cell.rens ρ cs) vs ↔ Cell.reps M (fun k => ν (ρ k)) cs vs
  | [], vs => by simp only [Cell.rens, Cell.reps]
  | c :: cs, vs => by
    simp only [Cell.rens, Cell.reps]
    constructor
    · rintro ⟨v, vs', e, h1, h2⟩; exact ⟨v, vs', e, (Cell.rep_ren c v).1 h1, (Cell.reps_ren cs vs').1 h2⟩
    · rintro ⟨v, vs', e, h1, h2⟩; exact ⟨v, vs', e, (Cell.rep_ren c v).2 h1, (Cell.reps_ren cs vs').2 h2⟩
end
mutual
theorem T.rep_ren {M : Mem} {ν : Nu} {ρ : Nat → Nat} : ∀ (t : T) (v : Value), (t.ren ρ).rep M ν v ↔ t.rep M (fun k => ν (ρ k)) v
  | .one c, v => by simp only [T.ren, T.rep]; exact Cell.rep_ren c v
  | .st r, v => by simp only [T.ren, T.rep]
  | .agg cs, v => by
    simp only [T.ren, T.rep]
    constructor
    · rintro ⟨a, e, h⟩; exact ⟨a, e, (Cell.reps_ren cs _).1 h⟩
    · rintro ⟨a, e, h⟩; exact ⟨a, e, (Cell.reps_ren cs _).2 h⟩
  | .tup ts, v => by
    simp only [T.ren, T.rep]
    constructor
    · rintro ⟨a, e, h⟩; exact ⟨a, e, (T.reps_ren ts _).1 h⟩
    · rintro ⟨a, e, h⟩; exact ⟨a, e, (T.reps_ren ts _).2 h⟩
  | .un, v => by simp only [T.ren, T.rep]
theorem T.reps_ren {M : Mem} {ν : Nu} {ρ : Nat → Nat} : ∀ (cs : List T) (vs : List Value), T.reps M ν (T.rens ρ cs) vs ↔ T.reps M (fun k => ν (ρ k)) cs vs
  | [], vs => by simp only [T.rens, T.reps]
  | c :: cs, vs => by
    simp only [T.rens, T.reps]
    constructor
    · rintro ⟨v, vs', e, h1, h2⟩; exact ⟨v, vs', e, (T.rep_ren c v).1 h1, (T.reps_ren cs vs').1 h2⟩
    · rintro ⟨v, vs', e, h1, h2⟩; exact ⟨v, vs', e, (T.rep_ren c v).2 h1, (T.reps_ren cs vs').2 h2⟩
end
/-- σ says all that τ says, τ's names read by ρ -/
structure Weak (ρ : Nat → Nat) (σ τ : AS) : Prop where
  env : ∀ p ∈ τ.env, σ.env.lookup p.1 = some (p.2.ren ρ)
  box : ∀ p ∈ τ.B, (ρ p.1, p.2.ren ρ) ∈ σ.B
  inj : (τ.B.map fun p => ρ p.1).Nodup
  nodup : (τ.B.map (·.1)).Nodup
  pins : ∀ k, pin ≤ k → ρ k = k
  low : ∀ k, k < pin → ρ k < pin
theorem lookup_mem {env : Env} {d : Nat} {t : T} (h : env.lookup d = some t) : (d, t) ∈ env := by
  induction env with
  | nil => simp at h
  | cons p env ih =>
    obtain ⟨e, u⟩ := p
    simp only [List.lookup_cons] at h
    by_cases he : d = e
    · subst he; simp at h; subst h; simp
    · have : (d == e) = false := by simpa using he
      rw [this] at h
      exact List.mem_cons_of_mem _ (ih h)
theorem nodup_inj {α : Type} {f : α → Nat} : ∀ {l : List α}, (l.map f).Nodup → ∀ x ∈ l, ∀ y ∈ l, f x = f y → x = y
  | [], _, x, hx, _, _, _ => by cases hx
  | a :: l, h, x, hx, y, hy, e => by
    simp only [List.map_cons, List.nodup_cons, List.mem_map, not_exists, not_and] at h
    rcases List.mem_cons.1 hx with rfl | hx' <;> rcases List.mem_cons.1 hy with rfl | hy'
    · rfl
    · exact absurd e.symm (h.1 y hy')
    · exact absurd e (h.1 x hx')
    · exact nodup_inj h.2 x hx' y hy' e
theorem Sat.weak {κ : Kap} {M : Mem} {ν : Nu} {w : World} {ρ : Nat → Nat} {σ τ : AS} (h : Sat κ M ν σ.B w) (hw : Weak ρ σ τ) : Sat κ M (fun k => ν (ρ k)) τ.B w where
  os := h.os
  tape := h.tape
  output := h.output
  dr := Nat.zero_le _
  size := h.size
  unch := h.unch
  fro := h.fro
  res := fun k r hm => by
    have h1 := h.res _ _ (hw.box (k, r) hm)
    cases r with
    | cells cs =>
      simp only [Res.ren, Res.ok] at h1 ⊢
      obtain ⟨b, c, et, e1, e2, e3⟩ := h1
      exact ⟨b, c, et, e1, e2, (Cell.reps_ren cs _).1 e3⟩
    | row sz rows => exact h1
    | mp ag es => exact h1
  away := fun k r b hm hb => by
    exact h.away _ _ b (hw.box (k, r) hm) hb
  inj := fun k r k' r' b hm hm' hb hb' => by
    have e := h.inj _ _ _ _ b (hw.box (k, r) hm) (hw.box (k', r') hm') hb hb'
    have := nodup_inj (f := fun p : Nat × Res => ρ p.1) hw.inj (k, r) hm (k', r') hm' e
    exact congrArg Prod.fst this
  nodup := hw.nodup
theorem St.weak {κ : Kap} {M0 : Mem} {a : Act} {w : World} {ρ : Nat → Nat} {σ τ : AS} (h : St κ M0 n σ a w) (hw : Weak ρ σ τ) : St κ M0 n τ a w := by
  obtain ⟨M, ν, h1, h2, h3, h4, h5, h6⟩ := h
  refine ⟨M, fun k => ν (ρ k), h1, h2, h3, ?_, h5.weak hw, fun k hk => by show ν (ρ k) = _; rw [hw.pins k hk]; exact h6 k hk⟩
  intro d t e
  have := h4 d _ (hw.env (d, t) (lookup_mem e))
  exact (T.rep_ren t _).1 this
theorem AWP.weak {c : Code} (ρ : Nat → Nat) (τ : AS) (hw : Weak ρ σ τ) (h : AWP P n c τ Q) : AWP P n c σ Q :=
  fun κ M0 a w hs => h κ M0 a w (hs.weak hw)
mutual
def Cell.fresh (k : Nat) : Cell → Bool
  | .dat _ => true
  | .ptr j _ => j != k
  | .own j _ => j != k
  | .rp j _ _ _ => j != k
  | .arr j _ => j != k
  | .ref _ => true
  | .mp j => j != k
  | .clo _ caps => Cell.freshs k caps
def Cell.freshs (k : Nat) : List Cell → Bool
  | [] => true
  | c :: cs => Cell.fresh k c && Cell.freshs k cs
end
mutual
def T.fresh (k : Nat) : T → Bool
  | .one c => c.fresh k
  | .st _ => true
  | .agg cs => Cell.freshs k cs
  | .tup ts => T.freshs k ts
  | .un => true
def T.freshs (k : Nat) : List T → Bool
  | [] => true
  | t :: ts => T.fresh k t && T.freshs k ts
end
def Env.fresh (k : Nat) : Env → Bool
  | [] => true
  | p :: env => p.2.fresh k && Env.fresh k env
def Bx.fresh (k : Nat) : Bx → Bool
  | [] => true
  | p :: B => p.1 != k && (match p.2 with | .cells cs => Cell.freshs k cs | .row _ _ => true | .mp _ _ => true) && Bx.fresh k B
mutual
theorem Cell.rep_fresh {M : Mem} {ν ν' : Nu} {k : Nat} (hν : ∀ j, j ≠ k → ν' j = ν j) : ∀ (c : Cell) (v : Value), c.fresh k = true → c.rep M ν v → c.rep M ν' v
  | .dat c, v, _, h => by simpa only [Cell.rep] using h
  | .ptr j off, v, hf, h => by simp only [Cell.fresh, bne_iff_ne] at hf; simp only [Cell.rep] at h ⊢; rw [hν j hf]; exact h
  | .own j m, v, hf, h => by simp only [Cell.fresh, bne_iff_ne] at hf; simp only [Cell.rep] at h ⊢; rw [hν j hf]; exact h
  | .rp j sz i f, v, hf, h => by simp only [Cell.fresh, bne_iff_ne] at hf; simp only [Cell.rep] at h ⊢; rw [hν j hf]; exact h
  | .arr j n, v, hf, h => by simp only [Cell.fresh, bne_iff_ne] at hf; simp only [Cell.rep] at h ⊢; rw [hν j hf]; exact h
  | .ref r, v, _, h => by simpa only [Cell.rep] using h
  | .mp j, v, hf, h => by simp only [Cell.fresh, bne_iff_ne] at hf; simp only [Cell.rep] at h ⊢; rw [hν j hf]; exact h
  | .clo f caps, v, hf, h => by
    simp only [Cell.fresh] at hf
    simp only [Cell.rep] at h ⊢
    obtain ⟨vs, e, h⟩ := h
    exact ⟨vs, e, Cell.reps_fresh hν caps vs hf h⟩
theorem Cell.reps_fresh {M : Mem} {ν ν' : Nu} {k : Nat} (hν : ∀ j, j ≠ k → ν' j = ν j) : ∀ (cs : List Cell) (vs : List Value), Cell.freshs k cs = true → Cell.reps M ν cs vs → Cell.reps M ν' cs vs
  | [], vs, _, h => by simpa only [Cell.reps] using h
  | c :: cs, vs, hf, h => by
    simp only [Cell.freshs, Bool.and_eq_true] at hf
    simp only [Cell.reps] at h ⊢
    obtain ⟨v, vs', e, h1, h2⟩ := h
    exact ⟨v, vs', e, Cell.rep_fresh hν c v hf.1 h1, Cell.reps_fresh hν cs vs' hf.2 h2⟩
end
mutual
theorem T.rep_fresh {M : Mem} {ν ν' : Nu} {k : Nat} (hν : ∀ j, j ≠ k → ν' j = ν j) : ∀ (c : T) (v : Value), c.fresh k = true → c.rep M ν v → c.rep M ν' v
  | .one c, v, hf, h => by simp only [T.rep] at h ⊢; exact Cell.rep_fresh hν c v (by simpa only [T.fresh] using hf) h
  | .st r, v, _, h => by simpa only [T.rep] using h
  | .agg cs, v, hf, h => by
    simp only [T.rep] at h ⊢
    obtain ⟨a, e, h⟩ := h
    exact ⟨a, e, Cell.reps_fresh hν cs _ (by simpa only [T.fresh] using hf) h⟩
  | .tup ts, v, hf, h => by
    simp only [T.rep] at h ⊢
    obtain ⟨a, e, h⟩ := h
    exact ⟨a, e, T.reps_fresh hν ts _ (by simpa only [T.fresh] using hf) h⟩
  | .un, v, _, h => by simpa only [T.rep] using h
theorem T.reps_fresh {M : Mem} {ν ν' : Nu} {k : Nat} (hν : ∀ j, j ≠ k → ν' j = ν j) : ∀ (cs : List T) (vs : List Value), T.freshs k cs = true → T.reps M ν cs vs → T.reps M ν' cs vs
  | [], vs, _, h => by simpa only [T.reps] using h
  | c :: cs, vs, hf, h => by
    simp only [T.freshs, Bool.and_eq_true] at hf
    simp only [T.reps] at h ⊢
    obtain ⟨v, vs', e, h1, h2⟩ := h
    exact ⟨v, vs', e, T.rep_fresh hν c v hf.1 h1, T.reps_fresh hν cs vs' hf.2 h2⟩
end
theorem Env.fresh_spec {k : Nat} : ∀ {env : Env} {d : Nat} {t : T}, Env.fresh k env = true → (d, t) ∈ env → t.fresh k = true
  | p :: env, d, t, h, hm => by
    simp only [Env.fresh, Bool.and_eq_true] at h
    rcases List.mem_cons.1 hm with rfl | hm
    · exact h.1
    · exact Env.fresh_spec h.2 hm
theorem EnvOk.fresh {M : Mem} {ν ν' : Nu} {tmps : Array Value} {env : Env} {k : Nat} (h : EnvOk M ν tmps env) (hf : Env.fresh k env = true) (hν : ∀ j, j ≠ k → ν' j = ν j) :
    EnvOk M ν' tmps env := fun d t e => T.rep_fresh hν t _ (Env.fresh_spec hf (lookup_mem e)) (h d t e)
/-- the operands of the operation, as the environment has them -/
def EnvOn (M : Mem) (ν : Nu) (a : Act) (env : Env) (o : Oper) : Prop :=
  ∀ d t, Operand.tmp d ∈ o.op.operands → env.lookup d = some t → t.rep M ν (a.tmps.getD d undef)
theorem EnvOk.on {M : Mem} {ν : Nu} {a : Act} {env : Env} (h : EnvOk M ν a.tmps env) (o : Oper) : EnvOn M ν a env o := fun d t _ e => h d t e
/-- an operation that only reads boxes, and may freeze new blocks -/
def OpP (P : Program) (o : Oper) (env : Env) (B : Bx) (t : T) : Prop :=
  ∀ κ M ν a w B', (∀ x ∈ B, x ∈ B') → EnvOn M ν a env o → Sat κ M ν B' w →
    o.wp P a w (fun a' w' => ∃ v M', a' = a.put o.dst v ∧ M.ext κ M' ∧ t.rep M' ν v ∧ Sat κ M' ν B' w') (fun _ _ _ => False)
/-- an operation that turns boxes, their names kept -/
def OpE (P : Program) (o : Oper) (env : Env) (B : Bx) (t : T) (B' : Bx) : Prop :=
  ∀ κ M ν a w, EnvOn M ν a env o → Sat κ M ν B w →
    o.wp P a w (fun a' w' => ∃ v M', a' = a.put o.dst v ∧ M.ext κ M' ∧ t.rep M' ν v ∧ Sat κ M' ν B' w') (fun _ _ _ => False)
/-- an operation that makes the name k -/
def OpG (P : Program) (o : Oper) (env : Env) (B : Bx) (k : Nat) (t : T) (B' : Bx) : Prop :=
  ∀ κ M ν a w, EnvOn M ν a env o → Sat κ M ν B w →
    o.wp P a w (fun a' w' => ∃ v M' ν', a' = a.put o.dst v ∧ M.ext κ M' ∧ (∀ j, j ≠ k → ν' j = ν j) ∧ t.rep M' ν' v ∧ Sat κ M' ν' B' w') (fun _ _ _ => False)
/-- an operation that makes the names js -/
def OpX (P : Program) (o : Oper) (env : Env) (B : Bx) (js : List Nat) (t : T) (B' : Bx) : Prop :=
  ∀ κ M ν a w, EnvOn M ν a env o → Sat κ M ν B w →
    o.wp P a w (fun a' w' => ∃ v M' ν', a' = a.put o.dst v ∧ M.ext κ M' ∧ (∀ j, j ∉ js → ν' j = ν j) ∧ t.rep M' ν' v ∧ Sat κ M' ν' B' w') (fun _ _ _ => False)
def Env.freshL (js : List Nat) (env : Env) : Bool := js.all fun j => Env.fresh j env
theorem EnvOk.freshL {M : Mem} {tmps : Array Value} {env : Env} : ∀ {js : List Nat} {ν ν' : Nu}, EnvOk M ν tmps env → Env.freshL js env = true → (∀ j, j ∉ js → ν' j = ν j) → EnvOk M ν' tmps env
  | [], ν, ν', h, _, hν => by
    have : ν' = ν := funext fun j => hν j (by simp)
    rw [this]; exact h
  | k :: js, ν, ν', h, hf, hν => by
    simp only [Env.freshL, List.all_cons, Bool.and_eq_true] at hf
    refine EnvOk.freshL (js := js) (ν := fun i => if i = k then ν' i else ν i) (h.fresh (k := k) hf.1 fun j hj => by simp [hj]) hf.2 fun j hj => ?_
    by_cases hjk : j = k
    · simp [hjk]
    · simp only [hjk, if_false]; exact hν j (by simp [hjk, hj])
theorem OpP.e {o : Oper} {env : Env} {B : Bx} {t : T} (h : OpP P o env B t) : OpE P o env B t B :=
  fun κ M ν a w he hs => h κ M ν a w B (fun _ h => h) he hs
def undefT : T := .un
def dstOk (n : Nat) (o : Oper) : Bool := match o.dst with | some d => decide (d < n) | none => true
inductive StepO (P : Program) (n : Nat) (o : Oper) (σ : AS) (K : AS → Prop) : Prop
  | pure (t : T) (h : OpP P o σ.env σ.B t) (hd : dstOk n o = true) (k : K (σ.put o.dst t))
  | eff (t : T) (B' : Bx) (h : OpE P o σ.env σ.B t B') (hd : dstOk n o = true) (k : K (AS.put ⟨σ.env, B'⟩ o.dst t))
  | gen (j : Nat) (t : T) (B' : Bx) (h : OpG P o σ.env σ.B j t B') (hj : j < pin) (hf : Env.fresh j σ.env = true) (hd : dstOk n o = true) (k : K (AS.put ⟨σ.env, B'⟩ o.dst t))
  | genx (js : List Nat) (t : T) (B' : Bx) (h : OpX P o σ.env σ.B js t B') (hj : ∀ j ∈ js, j < pin) (hf : Env.freshL js σ.env = true) (hd : dstOk n o = true) (k : K (AS.put ⟨σ.env, B'⟩ o.dst t))
def guardT (all : List Oper) (env : Env) (o : Oper) (X Y : Prop) : Prop :=
  match o.guard with
  | none => X
  | some (j, want) => match ((all[j]?).bind (·.dst)).bind (fun d => env.lookup d) with
    | some (.one (.dat (.bool b))) => bif b == want then X else Y
    | some .un => Y
    | _ => False
theorem yielded_un {all : List Oper} {tmps : Array Value} {j d : Nat} (hd : (all[j]?).bind (·.dst) = some d) (hr : tmps.getD d undef = undef) : yielded all.toArray tmps j = none := by
  unfold yielded
  have : (all.toArray[j]?).bind (·.dst) = some d := by simpa using hd
  rw [this]
  by_cases hlt : d < tmps.size
  · have : tmps[d]? = some undef := by
      simp [hlt] at hr
      simp [hlt, hr]
    simp [this, undef]
  · simp [Nat.le_of_not_lt hlt]
def seqSem (P : Program) (n : Nat) (all : List Oper) : List Oper → AS → (AS → Prop) → Prop
  | [], σ, K => K σ
  | o :: os, σ, K => guardT all σ.env o (StepO P n o σ fun σ' => seqSem P n all os σ' K) (dstOk n o = true ∧ seqSem P n all os (σ.put o.dst undefT) K)
theorem put_St {κ : Kap} {M0 M M' : Mem} {ν : Nu} {a : Act} {w : World} {env : Env} {B : Bx} {dst : Option Tmp} {t : T} {v : Value}
    (h1 : M0.ext κ M) (h2 : a.tmps.size = n) (h3 : a.defers = []) (h4 : EnvOk M' ν a.tmps env) (hm : M.ext κ M') (hd : ∀ d, dst = some d → d < n) (hr : t.rep M' ν v) (hs : Sat κ M' ν B w) (hp : ∀ k, pin ≤ k → ν k = κ.nu k) :
    St κ M0 n (AS.put ⟨env, B⟩ dst t) (a.put dst v) w := by
  refine ⟨M', ν, h1.trans hm, by rw [Act.put_size]; exact h2, by rw [Act.put_defers']; exact h3, ?_, ?_⟩
  · have := EnvOk.put (df := a.defers) h4 (dst := dst) (fun d e => by rw [h2]; exact hd d e) hr
    cases dst <;> exact this
  · cases dst <;> exact ⟨hs, hp⟩
theorem dstOk_spec {o : Oper} (h : dstOk n o = true) : ∀ d, o.dst = some d → d < n := by
  intro d e
  simpa [dstOk, e] using h
theorem guard_some {all : List Oper} {env : Env} {o : Oper} {X Y : Prop} {M : Mem} {ν : Nu} {tmps : Array Value} (he : EnvOk M ν tmps env) (h : guardT all env o X Y) :
    (Region.wanted o (yielded all.toArray tmps) = true ∧ X) ∨ (Region.wanted o (yielded all.toArray tmps) = false ∧ Y) := by
  unfold guardT at h
  split at h
  · rename_i hg
    exact .inl ⟨by simp [Region.wanted, hg], h⟩
  · rename_i j want hg
    split at h
    · rename_i b hb
      obtain ⟨d, hd, hl⟩ := Option.bind_eq_some_iff.1 hb
      have hr := he d _ hl
      simp only [T.rep, Cell.rep, C.rep] at hr
      have hy : yielded all.toArray tmps j = some b := by
        unfold yielded
        have : (all.toArray[j]?).bind (·.dst) = some d := by simpa using hd
        rw [this]
        by_cases hlt : d < tmps.size
        · have : tmps[d]? = some (.bool b) := by
            simp [hlt] at hr
            simp [hlt, hr]
          simp [this]
        · simp [Nat.le_of_not_lt hlt] at hr
          simp [undef] at hr
      by_cases hbw : b = want
      · subst hbw
        simp only [beq_self_eq_true, cond_true] at h
        exact .inl ⟨by simp [Region.wanted, hg, hy], h⟩
      · have : (b == want) = false := by simpa using hbw
        rw [this] at h
        exact .inr ⟨by simp [Region.wanted, hg, hy, hbw], h⟩
    · rename_i hb
      obtain ⟨d, hd, hl⟩ := Option.bind_eq_some_iff.1 hb
      have hr := he d _ hl
      simp only [T.rep] at hr
      exact .inr ⟨by simp [Region.wanted, hg, yielded_un hd hr], h⟩
    · exact h.elim
theorem Oper.wp_mono_Q {o : Oper} {a : Act} {w : World} {K : Act → World → Prop} {Q' : Exit → Act → World → Prop} (h : o.wp P a w K (fun _ _ _ => False)) : o.wp P a w K Q' := by
  unfold Oper.wp at *
  generalize (execOp a.eval o).run P w = r at *
  cases r with
  | ok x w' =>
    cases x <;> simp only [Oper.upon] at h ⊢ <;> try exact h
    refine Calls.mono h fun e w'' he => ?_
    cases e with
    | returned v => exact he
    | panicked c => exact he.elim
    | outgrown => obtain ⟨_, _, hf⟩ := he; exact hf.elim
  | halt x w' => cases x <;> simp only [Oper.upon] at h ⊢ <;> exact h.elim
theorem seq_sound {κ : Kap} {M0 : Mem} {K : AS → Prop} {Q' : Exit → Act → World → Prop} (all : List Oper) (hQ : ∀ a w σ', St κ M0 n σ' a w → K σ' → Q' .normal a w) :
    ∀ (l : List Oper) (σ : AS) (a : Act) (w : World), seqSem P n all l σ K → St κ M0 n σ a w → wpList P all.toArray Q' l a w
  | [], σ, a, w, h, hs => hQ a w σ hs h
  | o :: os, σ, a, w, h, hs => by
    obtain ⟨M, ν, h1, h2, h3, h4, h5, h6⟩ := id hs
    unfold wpList
    rcases guard_some h4 h with ⟨hw, hx⟩ | ⟨hw, hd, hx⟩
    · rw [if_pos hw]
      left
      cases hx with
      | pure t hop hd k =>
        refine Oper.wp_mono_Q (Oper.wp_mono ?_ (hop κ M ν a w σ.B (fun _ h => h) (h4.on o) h5))
        rintro a' w' ⟨v, M', rfl, hle, hr, hsat⟩
        exact seq_sound all hQ os _ _ w' k (put_St h1 h2 h3 (h4.mono hle.1) hle (dstOk_spec hd) hr hsat h6)
      | eff t B' hop hd k =>
        refine Oper.wp_mono_Q (Oper.wp_mono ?_ (hop κ M ν a w (h4.on o) h5))
        rintro a' w' ⟨v, M', rfl, hle, hr, hsat⟩
        exact seq_sound all hQ os _ _ w' k (put_St h1 h2 h3 (h4.mono hle.1) hle (dstOk_spec hd) hr hsat h6)
      | gen j t B' hop hj hf hd k =>
        refine Oper.wp_mono_Q (Oper.wp_mono ?_ (hop κ M ν a w (h4.on o) h5))
        rintro a' w' ⟨v, M', ν', rfl, hle, hν, hr, hsat⟩
        exact seq_sound all hQ os _ _ w' k (put_St h1 h2 h3 ((h4.fresh hf hν).mono hle.1) hle (dstOk_spec hd) hr hsat (fun i hi => by rw [hν i (by omega)]; exact h6 i hi))
      | genx js t B' hop hj hf hd k =>
        refine Oper.wp_mono_Q (Oper.wp_mono ?_ (hop κ M ν a w (h4.on o) h5))
        rintro a' w' ⟨v, M', ν', rfl, hle, hν, hr, hsat⟩
        exact seq_sound all hQ os _ _ w' k (put_St h1 h2 h3 ((h4.freshL hf hν).mono hle.1) hle (dstOk_spec hd) hr hsat (fun i hi => by rw [hν i (fun hm => by have := hj i hm; omega)]; exact h6 i hi))
    · rw [hw]
      have := put_St (t := undefT) (v := undef) (dst := o.dst) h1 h2 h3 h4 (Mem.ext.refl κ M) (dstOk_spec hd) (by simp [undefT, T.rep, Cell.rep, C.rep]) h5 h6
      exact seq_sound all hQ os _ _ w hx this
theorem AWP.region_seq {id : Nat} {ops : List Oper} (h : ∀ K : AS → Prop, (∀ σ', Q .normal σ' → K σ') → seqSem P n ops ops σ K) : AWP P n (.region id ops.toArray false) σ Q := by
  intro κ M0 a w hs
  refine wp_region_lit ?_
  exact seq_sound ops (fun a w σ' s k => ⟨σ', s, k⟩) ops σ a w (h _ fun _ k => k) hs
/-- operations that may turn a box -/
def mayEff (o : Oper) : Bool :=
  match o.op with
  | .call { callee := .value _, args := _, argTypes := _ } => true
  | .store .. => true
  | _ => false
inductive ParO (P : Program) (n : Nat) (o : Oper) (fixB : Bx) (env : Env) (B : Bx) (K : T → Bx → Prop) : Prop
  | pure (t : T) (h : OpP P o env fixB t) (hd : dstOk n o = true) (k : K t B)
  | eff (t : T) (B' : Bx) (he : mayEff o = true) (hx : ∀ x ∈ fixB, x ∈ B') (h : OpE P o env B t B') (hd : dstOk n o = true) (k : K t B')
def parSem (P : Program) (n : Nat) (all : List Oper) (fixB : Bx) : List Oper → Env → Bx → (Env → Bx → Prop) → Prop
  | [], env, B, K => K env B
  | o :: os, env, B, K => guardT all env o (ParO P n o fixB env B fun t B' => parSem P n all fixB os (putE env o.dst t) B' K)
      (dstOk n o = true ∧ parSem P n all fixB os (putE env o.dst undefT) B K)
/-- what the walk found of one operation; FS: the boxes that a reading may meet -/
def OSpecF (P : Program) (n : Nat) (all : List Oper) (FS : Bx → Prop) (o : Oper) (env : Env) (b : Bx) (t : T) (b' : Bx) (e : Bool) : Prop :=
  dstOk n o = true ∧
  ((guardT all env o True False ∧ ((e = false ∧ (∀ B0, FS B0 → OpP P o env B0 t) ∧ b' = b) ∨ (e = true ∧ mayEff o = true ∧ OpE P o env b t b'))) ∨
   (guardT all env o False True ∧ t = undefT ∧ b' = b ∧ e = false))
/-- what the walk found of one operation -/
def OSpec (P : Program) (n : Nat) (all : List Oper) (fixB : Bx) (o : Oper) (env : Env) (b : Bx) (t : T) (b' : Bx) (e : Bool) : Prop :=
  dstOk n o = true ∧
  ((guardT all env o True False ∧ ((e = false ∧ OpP P o env fixB t ∧ b' = b) ∨ (e = true ∧ mayEff o = true ∧ OpE P o env b t b'))) ∨
   (guardT all env o False True ∧ t = undefT ∧ b' = b ∧ e = false))
def envA (l : List Oper) (t : Nat → T) (X : Nat → Bool) (env : Env) : Nat → Env
  | 0 => env
  | i + 1 => bif X i then putE (envA l t X env i) ((l[i]?).bind (·.dst)) (t i) else envA l t X env i
theorem envA_cons (o : Oper) (l : List Oper) (t : Nat → T) (env : Env) : ∀ i,
    envA (o :: l) t (fun _ => true) env (i + 1) = envA l (fun j => t (j + 1)) (fun _ => true) (putE env o.dst (t 0)) i
  | 0 => rfl
  | i + 1 => by
    have ih := envA_cons o l t env i
    rw [envA, ih]
    simp [envA]
theorem guardT_true {all : List Oper} {env : Env} {o : Oper} {X Y : Prop} (h : guardT all env o X Y) : (guardT all env o True False ∧ X) ∨ (guardT all env o False True ∧ Y) := by
  unfold guardT at *
  cases hg : o.guard with
  | none => rw [hg] at h; exact .inl ⟨trivial, h⟩
  | some p =>
    obtain ⟨j, want⟩ := p
    rw [hg] at h
    simp only [] at h ⊢
    split at h
    · rename_i b hb
      cases hbw : (b == want) <;> rw [hbw] at h
      · exact .inr ⟨trivial, h⟩
      · exact .inl ⟨trivial, h⟩
    · exact .inr ⟨trivial, h⟩
    · exact h.elim
theorem rep_getD (m j : Nat) : (Array.replicate m false).getD j false = false := by
  simp only [Array.getD_eq_getD_getElem?, Array.getElem?_replicate]
  split <;> rfl
theorem par_trace (all : List Oper) (fixB : Bx) (K : Env → Bx → Prop) : ∀ (l : List Oper) (env : Env) (B : Bx), (∀ x ∈ fixB, x ∈ B) → parSem P n all fixB l env B K →
    ∃ (t : Nat → T) (b : Nat → Bx) (e : Nat → Bool), b 0 = B ∧ (∀ i o, l[i]? = some o → OSpec P n all fixB o (envA l t (fun _ => true) env i) (b i) (t i) (b (i + 1)) (e i)) ∧
      (∀ i, i ≤ l.length → ∀ x ∈ fixB, x ∈ b i) ∧ K (envA l t (fun _ => true) env l.length) (b l.length)
  | [], env, B, hB, h => ⟨fun _ => undefT, fun _ => B, fun _ => false, rfl, fun i o ho => by simp at ho, fun i _ => hB, h⟩
  | o :: os, env, B, hB, h => by
    have step : ∃ (t0 : T) (B' : Bx) (e0 : Bool), OSpec P n all fixB o env B t0 B' e0 ∧ (∀ x ∈ fixB, x ∈ B') ∧ parSem P n all fixB os (putE env o.dst t0) B' K := by
      rcases guardT_true h with ⟨hg, hx⟩ | ⟨hg, hd, hx⟩
      · cases hx with
        | pure t hop hd k => exact ⟨t, B, false, ⟨hd, .inl ⟨hg, .inl ⟨rfl, hop, rfl⟩⟩⟩, hB, k⟩
        | eff t B' he hfix hop hd k => exact ⟨t, B', true, ⟨hd, .inl ⟨hg, .inr ⟨rfl, he, hop⟩⟩⟩, hfix, k⟩
      · exact ⟨undefT, B, false, ⟨hd, .inr ⟨hg, rfl, rfl, rfl⟩⟩, hB, hx⟩
    obtain ⟨t0, B', e0, hspec, hfix, hk⟩ := step
    obtain ⟨t, b, e, hb0, hs, hf, hK⟩ := par_trace all fixB K os _ B' hfix hk
    refine ⟨fun i => match i with | 0 => t0 | i + 1 => t i, fun i => match i with | 0 => B | i + 1 => b i, fun i => match i with | 0 => e0 | i + 1 => e i, rfl, ?_, ?_, ?_⟩
    · intro i o' ho
      cases i with
      | zero => simp at ho; subst ho; rw [← hb0] at hspec; exact hspec
      | succ i =>
        rw [envA_cons]
        exact hs i o' (by simpa using ho)
    · intro i hi
      cases i with
      | zero => exact hB
      | succ i => exact hf i (by simpa using hi)
    · rw [List.length_cons, envA_cons]; exact hK
def xs (listed : Array Bool) (i : Nat) : Bool := listed.getD i false
theorem putE_lookup (env : Env) (dst : Option Tmp) (t : T) (k : Nat) : (putE env dst t).lookup k = if dst = some k then some t else env.lookup k := by
  cases dst with
  | none => simp [putE]
  | some d =>
    simp only [putE, List.lookup_cons]
    by_cases h : k = d
    · subst h; simp
    · have : (k == d) = false := by simpa using h
      rw [this]
      simp [Ne.symm h]
theorem envA_skip (l : List Oper) (t : Nat → T) (X : Nat → Bool) (env : Env) (d i : Nat) : ∀ m, i ≤ m → (∀ j o, i ≤ j → j < m → l[j]? = some o → o.dst = some d → X j = false) →
    (envA l t X env m).lookup d = (envA l t X env i).lookup d
  | 0, h, _ => by have : i = 0 := by omega
                  subst this; rfl
  | m + 1, h, hw => by
    by_cases hi : i = m + 1
    · subst hi; rfl
    · have ih := envA_skip l t X env d i m (by omega) (fun j o h1 h2 => hw j o h1 (by omega))
      rw [envA]
      cases hx : X m with
      | false => simpa using ih
      | true =>
        simp only [cond_true, putE_lookup]
        rw [if_neg, ih]
        intro e
        obtain ⟨o, ho, hd⟩ := Option.bind_eq_some_iff.1 e
        have := hw m o (by omega) (by omega) ho hd
        rw [hx] at this; cases this
theorem envA_same (l : List Oper) (t : Nat → T) (X Y : Nat → Bool) (env : Env) (d : Nat) : ∀ m, (∀ j o, j < m → l[j]? = some o → o.dst = some d → X j = Y j) →
    (envA l t X env m).lookup d = (envA l t Y env m).lookup d
  | 0, _ => rfl
  | m + 1, hw => by
    have ih := envA_same l t X Y env d m (fun j o h => hw j o (by omega))
    rw [envA, envA]
    by_cases e : (l[m]?).bind (·.dst) = some d
    · obtain ⟨o, ho, hd⟩ := Option.bind_eq_some_iff.1 e
      rw [← hw m o (by omega) ho hd]
      cases hx : X m
      · simpa using ih
      · simp [putE_lookup, e]
    · cases hx : X m <;> cases hy : Y m <;> simp [putE_lookup, e, ih]
/-- each pair of operations is apart, or the later one waits for the earlier one -/
def Pairs (l : List Oper) : Prop := ∀ i j oi oj, i < j → l[i]? = some oi → l[j]? = some oj →
  (∃ e ∈ oj.after, Region.binds .any e = true ∧ e.on = i) ∨ oi.apart l.toArray oj = true
/-- every edge leads back -/
def Back (l : List Oper) : Prop := ∀ j oj, l[j]? = some oj → ∀ e ∈ oj.after, Region.binds .any e = true → e.on < j
theorem lex_spec (ops : Array Oper) : ∀ (fuel k : Nat) (listed : Array Bool), listed.size = ops.size → fuel + k = ops.size → (∀ j, j < ops.size → (listed.getD j false = true ↔ j < k)) → Region.lexFrom .any ops fuel k listed = true →
    (∀ j oj, k ≤ j → ops[j]? = some oj → ∀ e ∈ oj.after, Region.binds .any e = true → e.on < j) ∧
    (∀ i j oi oj, k ≤ i → i < j → ops[i]? = some oi → ops[j]? = some oj → (∃ e ∈ oj.after, Region.binds .any e = true ∧ e.on = i) ∨ oi.apart ops oj = true)
  | 0, k, listed, _, hk, _, _ => by
    have : k = ops.size := by omega
    subst this
    refine ⟨fun j oj h1 h2 => ?_, fun i j oi oj h1 h2 h3 h4 => ?_⟩
    · have := (Array.getElem?_eq_some_iff.1 h2).1; omega
    · have := (Array.getElem?_eq_some_iff.1 h3).1; omega
  | fuel + 1, k, listed, hsz, hk, hl, h => by
    simp only [Region.lexFrom, Bool.and_eq_true] at h
    obtain ⟨⟨hr, hf⟩, hB'⟩ := h
    have hklt : k < ops.size := by omega
    have ih := lex_spec ops fuel (k + 1) (listed.setIfInBounds k true) (by simpa using hsz) (by omega) (fun j hj => by
      by_cases hjk : k = j
      · subst hjk; simp [hsz, hklt]
      · rw [getD_set_ne false hjk, hl j hj]; omega) hB'
    have hready := mem_ready.1 (List.contains_iff_mem.1 hr)
    refine ⟨fun j oj h1 h2 e he hb => ?_, fun i j oi oj h1 h2 h3 h4 => ?_⟩
    · by_cases hjk : j = k
      · subst hjk
        obtain ⟨_, o, ho, hall⟩ := hready
        rw [h2] at ho
        cases ho
        have ht := hall e he hb
        by_cases hlt : e.on < ops.size
        · exact (hl _ hlt).1 ht
        · exfalso; simp [Array.getElem?_eq_none (show listed.size ≤ e.on by omega)] at ht
      · exact ih.1 j oj (by omega) h2 e he hb
    · by_cases hik : i = k
      · subst hik
        by_cases hex : ∃ e ∈ oj.after, Region.binds .any e = true ∧ e.on = i
        · exact .inl hex
        · refine .inr (Region.free_spec h3 hf j oj h4 (by omega) ?_ (fun e he hb heq => hex ⟨e, he, hb, heq⟩))
          have hjs := (Array.getElem?_eq_some_iff.1 h4).1
          have h0 : ¬ listed.getD j false = true := fun hc => by have := (hl j hjs).1 hc; omega
          have hjl : j < listed.size := by omega
          simp [hjl] at h0 ⊢
          exact h0
      · exact ih.2 i j oi oj (by omega) h2 h3 h4
theorem lex_pairs {l : List Oper} (h : Region.lexB .any l.toArray = true) : Back l ∧ Pairs l ∧ Region.noSelect l.toArray = true := by
  simp only [Region.lexB, Bool.and_eq_true] at h
  have := lex_spec l.toArray l.toArray.size 0 (Array.replicate l.toArray.size false) (by simp) (by simp) (fun j hj => by rw [rep_getD]; simp) h.2
  exact ⟨fun j oj hj => this.1 j oj (by omega) (by simpa using hj), fun i j oi oj hij hi hj => this.2 i j oi oj (by omega) hij (by simpa using hi) (by simpa using hj), h.1⟩
def Closed (l : List Oper) (listed : Array Bool) : Prop := ∀ j oj, l[j]? = some oj → listed.getD j false = true → ∀ e ∈ oj.after, Region.binds .any e = true → listed.getD e.on false = true
/-- what is known while the operations of 'listed' are done -/
structure Mid (κ : Kap) (M0 : Mem) (n : Nat) (l : List Oper) (t : Nat → T) (b : Nat → Bx) (e : Nat → Bool) (env0 : Env) (listed : Array Bool) (a : Act) (w : World) : Prop where
  size : listed.size = l.length
  closed : Closed l listed
  st : ∃ M ν m, M0.ext κ M ∧ a.tmps.size = n ∧ a.defers = [] ∧ EnvOk M ν a.tmps (envA l t (xs listed) env0 l.length) ∧ m ≤ l.length ∧
    (∀ i, i < l.length → e i = true → (listed.getD i false = true ↔ i < m)) ∧ Sat κ M ν (b m) w ∧ ∀ k, pin ≤ k → ν k = κ.nu k
theorem wanted_of {all : List Oper} {env : Env} {o : Oper} {M : Mem} {ν : Nu} {a : Act} (h : guardT all env o True False)
    (he : ∀ g want d t, o.guard = some (g, want) → (all[g]?).bind (·.dst) = some d → env.lookup d = some t → t.rep M ν (a.tmps.getD d undef)) : Region.wanted o (yielded all.toArray a.tmps) = true := by
  unfold guardT at h
  split at h
  · rename_i hg; simp [Region.wanted, hg]
  · rename_i j want hg
    split at h
    · rename_i b hb
      obtain ⟨d, hd, hl⟩ := Option.bind_eq_some_iff.1 hb
      have hr := he j want d _ hg hd hl
      simp only [T.rep, Cell.rep, C.rep] at hr
      have hy : yielded all.toArray a.tmps j = some b := by
        unfold yielded
        have : (all.toArray[j]?).bind (·.dst) = some d := by simpa using hd
        rw [this]
        by_cases hlt : d < a.tmps.size
        · have : a.tmps[d]? = some (.bool b) := by
            simp [hlt] at hr
            simp [hlt, hr]
          simp [this]
        · simp [Nat.le_of_not_lt hlt] at hr
          simp [undef] at hr
      cases hbw : (b == want) <;> rw [hbw] at h
      · exact h.elim
      · have : b = want := by simpa using hbw
        simp [Region.wanted, hg, hy, this]
    · exact h.elim
    · exact h.elim
theorem unwanted_of {all : List Oper} {env : Env} {o : Oper} {M : Mem} {ν : Nu} {a : Act} (h : guardT all env o False True)
    (he : ∀ g want d t, o.guard = some (g, want) → (all[g]?).bind (·.dst) = some d → env.lookup d = some t → t.rep M ν (a.tmps.getD d undef)) : Region.wanted o (yielded all.toArray a.tmps) = false := by
  unfold guardT at h
  split at h
  · exact h.elim
  · rename_i j want hg
    split at h
    · rename_i b hb
      obtain ⟨d, hd, hl⟩ := Option.bind_eq_some_iff.1 hb
      have hr := he j want d _ hg hd hl
      simp only [T.rep, Cell.rep, C.rep] at hr
      have hy : yielded all.toArray a.tmps j = some b := by
        unfold yielded
        have : (all.toArray[j]?).bind (·.dst) = some d := by simpa using hd
        rw [this]
        by_cases hlt : d < a.tmps.size
        · have : a.tmps[d]? = some (.bool b) := by
            simp [hlt] at hr
            simp [hlt, hr]
          simp [this]
        · simp [Nat.le_of_not_lt hlt] at hr
          simp [undef] at hr
      cases hbw : (b == want) <;> rw [hbw] at h
      · simp [Region.wanted, hg, hy]; simpa using hbw
      · exact h.elim
    · rename_i hb
      obtain ⟨d, hd, hl⟩ := Option.bind_eq_some_iff.1 hb
      have hr := he j want d _ hg hd hl
      simp only [T.rep] at hr
      simp [Region.wanted, hg, yielded_un hd hr]
    · exact h.elim
theorem const_b {b : Nat → Bx} {e : Nat → Bool} {l : List Oper} (hb : ∀ i, i < l.length → e i = false → b (i + 1) = b i) (m : Nat) : ∀ i, m ≤ i → i ≤ l.length → (∀ j, m ≤ j → j < i → e j = false) → b i = b m
  | 0, h, _, _ => by have : m = 0 := by omega
                     subst this; rfl
  | i + 1, h, hl, hn => by
    by_cases hm : m = i + 1
    · subst hm; rfl
    · rw [hb i (by omega) (hn i (by omega) (by omega))]
      exact const_b hb m i (by omega) (by omega) (fun j h1 h2 => hn j h1 (by omega))
theorem looksAt_op {ops : Array Oper} {o : Oper} {d : Nat} (h : Operand.tmp d ∈ o.op.operands) : d ∈ o.looksAt ops :=
  List.mem_append_left _ (List.mem_filterMap.2 ⟨.tmp d, by simpa using h, rfl⟩)
theorem looksAt_guard {l : List Oper} {o : Oper} {g d : Nat} {want : Bool} (h : o.guard = some (g, want)) (hd : (l[g]?).bind (·.dst) = some d) : d ∈ o.looksAt l.toArray := by
  refine List.mem_append_right _ ?_
  have : ((l.toArray[g]?).bind (·.dst)) = some d := by simpa using hd
  rw [h]
  simp only [this]
  simp
/-- effects come in the order of the text -/
def EffOrd (l : List Oper) (e : Nat → Bool) : Prop := ∀ listed : Array Bool, Closed l listed → ∀ i j, i < j → j < l.length → e i = true → e j = true → listed.getD j false = true → listed.getD i false = true
theorem par_soundF {κ : Kap} {M0 : Mem} {l : List Oper} {FS : Bx → Prop} {t : Nat → T} {b : Nat → Bx} {e : Nat → Bool} {env0 : Env} {Q' : Exit → Act → World → Prop}
    (hback : Back l) (hpairs : Pairs l) (hord : EffOrd l e)
    (hs : ∀ i o, l[i]? = some o → OSpecF P n l FS o (envA l t (fun _ => true) env0 i) (b i) (t i) (b (i + 1)) (e i)) (hf : ∀ i, i ≤ l.length → FS (b i))
    (hQ : ∀ a w, St κ M0 n ⟨envA l t (fun _ => true) env0 l.length, b l.length⟩ a w → Q' .normal a w) :
    ∀ (fuel : Nat) (listed : Array Bool) (a : Act) (w : World), ((List.range l.length).filter fun i => !listed.getD i false).length = fuel → Mid κ M0 n l t b e env0 listed a w →
      wpAny P .any l.toArray Q' fuel listed a w := by
  have hbc : ∀ i, i < l.length → e i = false → b (i + 1) = b i := by
    intro i hi he
    rcases (hs i l[i] (by simp [hi])).2 with ⟨_, ⟨_, _, h⟩ | ⟨h, _⟩⟩ | ⟨_, _, h, _⟩
    · exact h
    · rw [he] at h; cases h
    · exact h
  -- an operation that is not done, all before it done, is ready
  have least : ∀ (listed : Array Bool), listed.size = l.length → Region.ready .any l.toArray listed = [] → ∀ i, i < l.length → listed.getD i false = true := by
    intro listed hsz hr i
    induction i using Nat.strongRecOn with
    | _ i ih =>
      intro hi
      cases hc : listed.getD i false with
      | true => rfl
      | false =>
        exfalso
        have : i ∈ Region.ready .any l.toArray listed := by
          rw [mem_ready]
          refine ⟨?_, l[i], by simp [hi], fun e' he' hb' => ?_⟩
          · have : i < listed.size := by omega
            simp [this] at hc ⊢
            exact hc
          · have := hback i l[i] (by simp [hi]) e' he' hb'
            exact ih e'.on this (by omega)
        rw [hr] at this
        cases this
  have done : ∀ (listed : Array Bool) (a : Act) (w : World), Mid κ M0 n l t b e env0 listed a w → (∀ i, i < l.length → listed.getD i false = true) → Q' .normal a w := by
    intro listed a w hm hall
    obtain ⟨M, ν, m, h1, h2, h3, h4, h5, h6, h7, h8⟩ := hm.st
    refine hQ a w ⟨M, ν, h1, h2, h3, ?_, ?_⟩
    · intro d u hu
      refine h4 d u ?_
      rw [envA_same l t (xs listed) (fun _ => true) env0 d l.length (fun j o hj _ _ => hall j hj)]
      exact hu
    · have : b l.length = b m := const_b hbc m l.length h5 (Nat.le_refl _) (fun j hj1 hj2 => by
        cases hj : e j with
        | false => rfl
        | true => have := (h6 j hj2 hj).1 (hall j hj2); omega)
      simp only [this]
      exact ⟨h7, h8⟩
  intro fuel
  induction fuel with
  | zero =>
    intro listed a w hfuel hm
    have hall : ∀ i, i < l.length → listed.getD i false = true := by
      intro i hi
      cases hc : listed.getD i false with
      | true => rfl
      | false =>
        exfalso
        have : i ∈ (List.range l.length).filter fun i => !listed.getD i false := by
          rw [List.mem_filter]; exact ⟨by simpa using hi, by simp only [hc]; rfl⟩
        rw [List.length_eq_zero_iff.1 hfuel] at this
        cases this
    refine ⟨?_, done listed a w hm hall⟩
    cases hr : Region.ready .any l.toArray listed with
    | nil => rfl
    | cons x xs' =>
      exfalso
      have hx : x ∈ Region.ready .any l.toArray listed := by rw [hr]; simp
      obtain ⟨h0, o, ho, _⟩ := mem_ready.1 hx
      have hlt : x < l.length := by have := (Array.getElem?_eq_some_iff.1 ho).1; simpa using this
      have := hall x hlt
      have hsz : x < listed.size := by rw [hm.size]; exact hlt
      simp [hsz] at h0 this
      rw [h0] at this; cases this
  | succ fuel ih =>
    intro listed a w hfuel hm
    refine ⟨fun hr => done listed a w hm (least listed hm.size hr), fun i hi => ?_⟩
    obtain ⟨h0, oi, hoi, hall⟩ := mem_ready.1 hi
    have hil : i < l.length := by have := (Array.getElem?_eq_some_iff.1 hoi).1; simpa using this
    have hoi' : l[i]? = some oi := by simpa using hoi
    have hisz : i < listed.size := by rw [hm.size]; exact hil
    have hxi : listed.getD i false = false := by simp [hisz] at h0 ⊢; exact h0
    obtain ⟨M, ν, m, h1, h2, h3, h4, h5, h6, h7, h8⟩ := hm.st
    obtain ⟨hd, hspec⟩ := hs i oi hoi'
    -- the operands stand as in the order of the text
    have look : ∀ d, d ∈ oi.looksAt l.toArray → (envA l t (xs listed) env0 l.length).lookup d = (envA l t (fun _ => true) env0 i).lookup d := by
      intro d hdm
      rw [envA_skip l t (xs listed) env0 d i l.length (by omega) ?_, envA_same l t (xs listed) (fun _ => true) env0 d i ?_]
      · intro j o hj ho hod
        rcases hpairs j i o oi hj ho hoi' with ⟨e', he', hb', hon⟩ | hap
        · exact hon ▸ hall e' he' hb'
        · exact absurd hdm ((Oper.apart_spec hap).1 d hod)
      · intro j o hj hjl ho hod
        by_cases hji : i = j
        · subst hji; exact hxi
        · cases hxj : xs listed j with
          | false => rfl
          | true =>
            rcases hpairs i j oi o (by omega) hoi' ho with ⟨e', he', hb', hon⟩ | hap
            · have := hm.closed j o ho hxj e' he' hb'
              rw [hon, hxi] at this; cases this
            · exact absurd hdm ((Oper.apart_spec hap).2.2 d hod)
    have hclosed : Closed l (listed.setIfInBounds i true) := by
      intro j oj hj hx e' he' hb'
      by_cases hji : i = j
      · subst hji
        rw [hoi'] at hj; cases hj
        exact getD_set_true (hall e' he' hb')
      · rw [getD_set_ne false hji] at hx
        exact getD_set_true (hm.closed j oj hj hx e' he' hb')
    have hcount : ((List.range l.length).filter fun j => !(listed.setIfInBounds i true).getD j false).length = fuel := by
      have hsplit : ∀ r : List Nat, r.Nodup → i ∈ r → (r.filter fun j => !listed.getD j false).length = (r.filter fun j => !(listed.setIfInBounds i true).getD j false).length + 1 := by
        intro r
        induction r with
        | nil => intro _ h; cases h
        | cons y r ihr =>
          intro hnd hmem
          simp only [List.nodup_cons] at hnd
          have hself : (listed.setIfInBounds i true).getD i false = true := by simp [hisz]
          rcases List.mem_cons.1 hmem with rfl | hmem
          · have : (r.filter fun j => !listed.getD j false) = (r.filter fun j => !(listed.setIfInBounds i true).getD j false) := by
              apply List.filter_congr
              intro j hj
              have hne : i ≠ j := fun h => hnd.1 (h ▸ hj)
              rw [getD_set_ne false hne]
            rw [List.filter_cons, List.filter_cons, hxi, hself, this]
            simp
          · have hne : i ≠ y := fun h => hnd.1 (h ▸ hmem)
            have ih' := ihr hnd.2 hmem
            rw [List.filter_cons, List.filter_cons, getD_set_ne false hne]
            cases listed.getD y false <;> simp only [Bool.not_true, Bool.not_false, if_true, if_false, Bool.false_eq_true, List.length_cons] <;> omega
      have := hsplit (List.range l.length) List.nodup_range (by simpa using hil)
      omega
    -- after the operation
    have after : ∀ (M' : Mem) (v : Value) (w' : World) (m' : Nat), M.ext κ M' → (t i).rep M' ν v → m' ≤ l.length →
        (∀ j, j < l.length → e j = true → ((listed.setIfInBounds i true).getD j false = true ↔ j < m')) → Sat κ M' ν (b m') w' →
        Mid κ M0 n l t b e env0 (listed.setIfInBounds i true) (a.put oi.dst v) w' := by
      intro M' v w' m' hle hr hm' hem hsat
      refine ⟨by simpa using hm.size, hclosed, M', ν, m', h1.trans hle, by rw [Act.put_size]; exact h2, by rw [Act.put_defers']; exact h3, ?_, hm', hem, hsat, h8⟩
      have hput := EnvOk.put (df := a.defers) (h4.mono hle.1) (dst := oi.dst) (v := v) (t := t i) (fun d he => by rw [h2]; exact dstOk_spec hd d he) hr
      intro k u hu
      refine hput k u ?_
      rw [putE_lookup]
      by_cases hk : oi.dst = some k
      · rw [if_pos hk]
        -- nobody behind i that writes k is done
        have e1 := envA_skip l t (xs (listed.setIfInBounds i true)) env0 k (i + 1) l.length (by omega) (fun j o hj hjl ho hod => by
          cases hxj : xs (listed.setIfInBounds i true) j with
          | false => rfl
          | true =>
            have hne : i ≠ j := by omega
            have hxj' : listed.getD j false = true := by rw [← getD_set_ne false hne]; exact hxj
            rcases hpairs i j oi o (by omega) hoi' ho with ⟨e', he', hb', hon⟩ | hap
            · have := hm.closed j o ho hxj' e' he' hb'
              rw [hon, hxi] at this; cases this
            · exact absurd hod ((Oper.apart_spec hap).2.1 k hk))
        rw [e1] at hu
        have hself : xs (listed.setIfInBounds i true) i = true := by simp [xs, hisz]
        rw [envA, hself] at hu
        simp only [cond_true, putE_lookup, hoi', Option.bind_some, hk, if_true] at hu
        exact hu
      · rw [if_neg hk]
        have e2 := envA_same l t (xs (listed.setIfInBounds i true)) (xs listed) env0 k l.length (fun j o hj ho hod => by
          have hne : i ≠ j := fun h => by subst h; rw [hoi'] at ho; cases ho; exact hk hod
          exact getD_set_ne false hne)
        rw [← e2]; exact hu
    have hon : EnvOn M ν a (envA l t (fun _ => true) env0 i) oi := by
      intro d u hdo hu
      refine h4 d u ?_
      rw [look d (looksAt_op hdo)]; exact hu
    have hgd : ∀ g want d u, oi.guard = some (g, want) → (l[g]?).bind (·.dst) = some d → (envA l t (fun _ => true) env0 i).lookup d = some u → u.rep M ν (a.tmps.getD d undef) := by
      intro g want d u hg hgd hu
      refine h4 d u ?_
      rw [look d (looksAt_guard hg hgd)]; exact hu
    have samem : e i = false → ∀ j, j < l.length → e j = true → ((listed.setIfInBounds i true).getD j false = true ↔ j < m) := by
      intro hei j hj hej
      have hne : i ≠ j := fun h => by subst h; rw [hei] at hej; cases hej
      rw [getD_set_ne false hne]; exact h6 j hj hej
    unfold wpOp
    rw [hoi]
    simp only []
    rcases hspec with ⟨hg, ⟨hei, hop, hbb⟩ | ⟨hei, hme, hop⟩⟩ | ⟨hg, ht, hbb, hei⟩
    · rw [if_pos (wanted_of hg hgd)]
      left
      refine Oper.wp_mono_Q (Oper.wp_mono ?_ (hop _ (hf m h5) κ M ν a w (b m) (fun _ hx => hx) hon h7))
      rintro a' w' ⟨v, M', rfl, hle, hr, hsat⟩
      exact ih _ _ _ hcount (after M' v w' m hle hr h5 (samem hei) hsat)
    · rw [if_pos (wanted_of hg hgd)]
      left
      -- m and i: no effect between them
      have hmi : m ≤ i := by
        rcases Nat.lt_or_ge i m with h | h
        · have := (h6 i hil hei).2 h; rw [hxi] at this; cases this
        · exact h
      have prev : ∀ j, j < i → e j = true → listed.getD j false = true := by
        intro j hj hej
        have hself : (listed.setIfInBounds i true).getD i false = true := by simp [hisz]
        have := hord _ hclosed j i hj hil hej hei hself
        rwa [getD_set_ne false (by omega)] at this
      have hbm : b i = b m := const_b hbc m i hmi (by omega) (fun j hj1 hj2 => by
        cases hj : e j with
        | false => rfl
        | true => have := (h6 j (by omega) hj).1 (prev j hj2 hj); omega)
      refine Oper.wp_mono_Q (Oper.wp_mono ?_ (hop κ M ν a w hon (by rw [hbm]; exact h7)))
      rintro a' w' ⟨v, M', rfl, hle, hr, hsat⟩
      refine ih _ _ _ hcount (after M' v w' (i + 1) hle hr hil (fun j hj hej => ?_) hsat)
      by_cases hji : i = j
      · subst hji; simp [hisz]
      · rw [getD_set_ne false hji]
        constructor
        · intro hx
          rcases Nat.lt_or_ge i j with h | h
          · have := hord _ hm.closed i j h hj hei hej hx
            rw [hxi] at this; cases this
          · omega
        · intro hx
          exact prev j (by omega) hej
    · rw [unwanted_of hg hgd]
      simp only [Bool.false_eq_true, if_false]
      refine ih _ _ _ hcount (after M undef w m (Mem.ext.refl κ M) (by rw [ht]; simp [undefT, T.rep, Cell.rep, C.rep]) h5 (samem hei) h7)
theorem OpP.mono_B {o : Oper} {env : Env} {B B0 : Bx} {t : T} (h : OpP P o env B t) (hs : ∀ x ∈ B, x ∈ B0) : OpP P o env B0 t := fun κ M ν a w B' hB => h κ M ν a w B' fun x hx => hB x (hs x hx)
theorem OSpec.toF {all : List Oper} {fixB : Bx} {o : Oper} {env : Env} {b : Bx} {t : T} {b' : Bx} {e : Bool} (h : OSpec P n all fixB o env b t b' e) : OSpecF P n all (fun B0 => ∀ x ∈ fixB, x ∈ B0) o env b t b' e :=
  ⟨h.1, h.2.imp (fun h => ⟨h.1, h.2.imp (fun h => ⟨h.1, fun _ hs => h.2.1.mono_B hs, h.2.2⟩) id⟩) id⟩
theorem par_sound {κ : Kap} {M0 : Mem} {l : List Oper} {fixB : Bx} {t : Nat → T} {b : Nat → Bx} {e : Nat → Bool} {env0 : Env} {Q' : Exit → Act → World → Prop}
    (hback : Back l) (hpairs : Pairs l) (hord : EffOrd l e)
    (hs : ∀ i o, l[i]? = some o → OSpec P n l fixB o (envA l t (fun _ => true) env0 i) (b i) (t i) (b (i + 1)) (e i)) (hf : ∀ i, i ≤ l.length → ∀ x ∈ fixB, x ∈ b i)
    (hQ : ∀ a w, St κ M0 n ⟨envA l t (fun _ => true) env0 l.length, b l.length⟩ a w → Q' .normal a w) :
    ∀ (fuel : Nat) (listed : Array Bool) (a : Act) (w : World), ((List.range l.length).filter fun i => !listed.getD i false).length = fuel → Mid κ M0 n l t b e env0 listed a w →
      wpAny P .any l.toArray Q' fuel listed a w := par_soundF hback hpairs hord (fun i o ho => (hs i o ho).toF) hf hQ
/-- the indexes of the operations that may turn a box, and that each waits for the one before -/
def chainFrom (l : List Oper) : Option Nat → Nat → List Oper → Bool
  | _, _, [] => true
  | last, i, o :: os => bif mayEff o then (match last with | none => true | some j => o.after.any fun e => Region.binds .any e && e.on == j) && chainFrom l (some i) (i + 1) os else chainFrom l last (i + 1) os
theorem chain_spec (l : List Oper) (listed : Array Bool) (hc : Closed l listed) : ∀ (os : List Oper) (i : Nat) (last : Option Nat), (∀ j, os[j]? = l[i + j]?) → chainFrom l last i os = true →
    ∀ j o, os[j]? = some o → mayEff o = true → listed.getD (i + j) false = true → (∀ k, last = some k → listed.getD k false = true) ∧ ∀ j' o', j' < j → os[j']? = some o' → mayEff o' = true → listed.getD (i + j') false = true
  | [], i, last, hl, h, j, o, hj, _, _ => by simp at hj
  | p :: os, i, last, hl, h, j, o, hj, hm, hx => by
    have hl' : ∀ j, os[j]? = l[i + 1 + j]? := fun j => by have := hl (j + 1); simpa [Nat.add_assoc, Nat.add_comm 1 j] using this
    have h0 : l[i]? = some p := by simpa using (hl 0).symm
    cases j with
    | zero =>
      simp at hj; subst hj
      simp only [chainFrom, hm, cond_true, Bool.and_eq_true] at h
      refine ⟨fun k hk => ?_, fun j' o' hj' => by omega⟩
      subst hk
      obtain ⟨e, he, hb⟩ := Array.any_eq_true'.1 h.1
      simp only [Bool.and_eq_true, beq_iff_eq] at hb
      have := hc i p h0 (by simpa using hx) e he hb.1
      rw [hb.2] at this; exact this
    | succ j =>
      have hj' : os[j]? = some o := by simpa using hj
      have hx' : listed.getD (i + 1 + j) false = true := by simpa [Nat.add_assoc, Nat.add_comm 1 j] using hx
      cases hp : mayEff p with
      | false =>
        simp only [chainFrom, hp, cond_false] at h
        obtain ⟨r1, r2⟩ := chain_spec l listed hc os (i + 1) last hl' h j o hj' hm hx'
        refine ⟨r1, fun j' o' hlt ho' hm' => ?_⟩
        cases j' with
        | zero => simp at ho'; subst ho'; rw [hp] at hm'; cases hm'
        | succ j' =>
          have := r2 j' o' (by omega) (by simpa using ho') hm'
          simpa [Nat.add_assoc, Nat.add_comm 1 j'] using this
      | true =>
        simp only [chainFrom, hp, cond_true, Bool.and_eq_true] at h
        obtain ⟨r1, r2⟩ := chain_spec l listed hc os (i + 1) (some i) hl' h.2 j o hj' hm hx'
        have hi := r1 i rfl
        refine ⟨fun k hk => ?_, fun j' o' hlt ho' hm' => ?_⟩
        · subst hk
          obtain ⟨e, he, hb⟩ := Array.any_eq_true'.1 h.1
          simp only [Bool.and_eq_true, beq_iff_eq] at hb
          have := hc i p h0 hi e he hb.1
          rw [hb.2] at this; exact this
        · cases j' with
          | zero => simpa using hi
          | succ j' =>
            have := r2 j' o' (by omega) (by simpa using ho') hm'
            simpa [Nat.add_assoc, Nat.add_comm 1 j'] using this
theorem mid_start {κ : Kap} {M0 : Mem} {l : List Oper} {t : Nat → T} {b : Nat → Bx} {e : Nat → Bool} {a : Act} {w : World} (hb0 : b 0 = σ.B) (hs : St κ M0 n σ a w) :
    Mid κ M0 n l t b e σ.env (Array.replicate l.length false) a { w with drawn := w.drawn + 1 } := by
  obtain ⟨M, ν, h1, h2, h3, h4, h5, h6⟩ := hs
  have hx : ∀ j, xs (Array.replicate l.length false) j = false := fun j => rep_getD _ j
  have henv : ∀ m, envA l t (xs (Array.replicate l.length false)) σ.env m = σ.env := by
    intro m
    induction m with
    | zero => rfl
    | succ m ih => rw [envA, hx]; simpa using ih
  refine ⟨by simp, fun j oj hj hc => ?_, M, ν, 0, h1, h2, h3, ?_, Nat.zero_le _, fun i hi he => ?_, ?_⟩
  · have := hx j; unfold xs at this; rw [this] at hc; cases hc
  · rw [henv]; exact h4
  · have := hx i; unfold xs at this; rw [this]; simp
  · rw [hb0]
    exact ⟨⟨h5.os, h5.tape, h5.output, Nat.zero_le _, h5.size, h5.unch, h5.fro, fun k r hm => by
      have := h5.res k r hm
      cases r <;> exact this, h5.away, h5.inj, h5.nodup⟩, h6⟩
/-- THE RULE: a region that draws its order -/
theorem AWP.region_par {id : Nat} {l : List Oper} (fixB : Bx) (hm : P.follows .mixedOrders = true) (hlex : Region.lexB .any l.toArray = true) (hch : chainFrom l none 0 l = true) (hfix : ∀ x ∈ fixB, x ∈ σ.B)
    (h : ∀ K : AS → Prop, (∀ σ', Q .normal σ' → K σ') → parSem P n l fixB l σ.env σ.B (fun env B => K ⟨env, B⟩)) : AWP P n (.region id l.toArray true) σ Q := by
  intro κ M0 a w hs
  obtain ⟨hback, hpairs, _⟩ := lex_pairs hlex
  obtain ⟨t, b, e, hb0, hsp, hf, hK⟩ := par_trace l fixB _ l σ.env σ.B hfix (h (fun σ' => Q .normal σ') (fun _ k => k))
  have hord : EffOrd l e := by
    intro listed hc i j hij hj hei hej hx
    have mayOf : ∀ k, k < l.length → e k = true → ∃ o, l[k]? = some o ∧ mayEff o = true := by
      intro k hk hek
      refine ⟨l[k], by simp [hk], ?_⟩
      rcases (hsp k l[k] (by simp [hk])).2 with ⟨_, ⟨h, _⟩ | ⟨_, h, _⟩⟩ | ⟨_, _, _, h⟩
      · rw [hek] at h; cases h
      · exact h
      · rw [hek] at h; cases h
    obtain ⟨oi, hoi, hmi⟩ := mayOf i (by omega) hei
    obtain ⟨oj, hoj, hmj⟩ := mayOf j hj hej
    have := (chain_spec l listed hc l 0 none (fun j => by simp) hch j oj hoj hmj (by simpa using hx)).2 i oi hij hoi hmi
    simpa using this
  refine wp_region_any hm ?_
  have hsz : l.toArray.size = l.length := by simp
  rw [hsz]
  refine par_sound hback hpairs hord hsp hf (fun a w s => ⟨_, s, hK⟩) l.length _ a _ ?_ (mid_start hb0 hs)
  have : ∀ j, (Array.replicate l.length false).getD j false = false := fun j => rep_getD _ j
  have hfil : (List.range l.length).filter (fun i => !(Array.replicate l.length false).getD i false) = List.range l.length := by
    rw [List.filter_eq_self]
    intro x _
    simp only [this x, Bool.not_false]
  rw [hfil, List.length_range]
/-- the same, where no operation turns a box -/
inductive ParP (P : Program) (n : Nat) (o : Oper) (B : Bx) (env : Env) (K : T → Prop) : Prop
  | mk (t : T) (h : OpP P o env B t) (hd : dstOk n o = true) (k : K t)
def parPure (P : Program) (n : Nat) (all : List Oper) (B : Bx) : List Oper → Env → (Env → Prop) → Prop
  | [], env, K => K env
  | o :: os, env, K => guardT all env o (ParP P n o B env fun t => parPure P n all B os (putE env o.dst t) K)
      (dstOk n o = true ∧ parPure P n all B os (putE env o.dst undefT) K)
theorem par_trace_pure (all : List Oper) (B : Bx) (K : Env → Prop) : ∀ (l : List Oper) (env : Env), parPure P n all B l env K →
    ∃ (t : Nat → T), (∀ i o, l[i]? = some o → OSpec P n all B o (envA l t (fun _ => true) env i) B (t i) B false) ∧ K (envA l t (fun _ => true) env l.length)
  | [], env, h => ⟨fun _ => undefT, fun i o ho => by simp at ho, h⟩
  | o :: os, env, h => by
    have step : ∃ (t0 : T), OSpec P n all B o env B t0 B false ∧ parPure P n all B os (putE env o.dst t0) K := by
      rcases guardT_true h with ⟨hg, hx⟩ | ⟨hg, hd, hx⟩
      · cases hx with
        | mk t hop hd k => exact ⟨t, ⟨hd, .inl ⟨hg, .inl ⟨rfl, hop, rfl⟩⟩⟩, k⟩
      · exact ⟨undefT, ⟨hd, .inr ⟨hg, rfl, rfl, rfl⟩⟩, hx⟩
    obtain ⟨t0, hspec, hk⟩ := step
    obtain ⟨t, hs, hK⟩ := par_trace_pure all B K os _ hk
    refine ⟨fun i => match i with | 0 => t0 | i + 1 => t i, ?_, ?_⟩
    · intro i o' ho
      cases i with
      | zero => simp at ho; subst ho; exact hspec
      | succ i =>
        rw [envA_cons]
        exact hs i o' (by simpa using ho)
    · rw [List.length_cons, envA_cons]; exact hK
theorem AWP.region_pure {id : Nat} {l : List Oper} (hm : P.follows .mixedOrders = true) (hlex : Region.lexB .any l.toArray = true)
    (h : ∀ K : AS → Prop, (∀ σ', Q .normal σ' → K σ') → parPure P n l σ.B l σ.env (fun env => K ⟨env, σ.B⟩)) : AWP P n (.region id l.toArray true) σ Q := by
  intro κ M0 a w hs
  obtain ⟨hback, hpairs, _⟩ := lex_pairs hlex
  obtain ⟨t, hsp, hK⟩ := par_trace_pure l σ.B _ l σ.env (h (fun σ' => Q .normal σ') (fun _ k => k))
  refine wp_region_any hm ?_
  have hsz : l.toArray.size = l.length := by simp
  rw [hsz]
  refine par_sound (b := fun _ => σ.B) (e := fun _ => false) hback hpairs (fun _ _ i j _ _ hei => by cases hei) hsp (fun _ _ x hx => hx) (fun a w s => ⟨_, s, hK⟩) l.length _ a _ ?_ (mid_start rfl hs)
  have : ∀ j, (Array.replicate l.length false).getD j false = false := fun j => rep_getD _ j
  have hfil : (List.range l.length).filter (fun i => !(Array.replicate l.length false).getD i false) = List.range l.length := by
    rw [List.filter_eq_self]
    intro x _
    simp only [this x, Bool.not_false]
  rw [hfil, List.length_range]
end Go.Sx
set_option linter.unusedVariables false
set_option linter.unusedSimpArgs false
namespace Go.Sx
variable {P : Program}
abbrev I (k : IntKind) (n : Int) : T := .one (.dat (.int k n))
abbrev Bo (b : Bool) : T := .one (.dat (.bool b))
abbrev S (l : List UInt8) : T := .one (.dat (.str l))
def isAggD : TypeDesc → Bool
  | .struct _ | .array _ _ => true
  | _ => false
def szT (P : Program) (t : TypeId) : Option Nat := (P.info? t).map (·.size)
def aggT (P : Program) (t : TypeId) : Option Bool := (P.underlying t).map isAggD
/-- place, size and form of a field -/
def fldT (P : Program) (s f : Nat) : Option (Nat × Nat × Bool) :=
  match P.underlying s with
  | some (.struct fs) => match fs[f]? with
    | some fd => match szT P fd.type, aggT P fd.type with
      | some (n + 1), some b => some (fd.offset, n + 1, b)
      | _, _ => none
    | none => none
  | _ => none
/-- size and form of a slice's element -/
def elT (P : Program) (t : TypeId) : Option (Nat × Bool) :=
  match P.underlying t with
  | some (.slice e) => match szT P e, aggT P e with
    | some n, some b => some (n, b)
    | _, _ => none
  | _ => none
/-- length of an array, size and form of its element -/
def arT (P : Program) (t : TypeId) : Option (Nat × Nat × Bool) :=
  match P.underlying t with
  | some (.array len e) => match szT P e, aggT P e with
    | some n, some b => some (len, n, b)
    | _, _ => none
  | _ => none
inductive Kd where
  | int (k : IntKind) | bool | str | other
  deriving DecidableEq
def kdT (P : Program) (t : TypeId) : Option Kd :=
  match P.underlying t with
  | some (.int k) => some (.int k)
  | some .bool => some .bool
  | some .string => some .str
  | some _ => some .other
  | none => none
theorem run_sz {t s : Nat} (h : szT P t = some s) (w : World) : (sizeOf t).run P w = .ok s w := by
  unfold szT at h
  cases hi : P.info? t with
  | none => simp [hi] at h
  | some i =>
    simp only [hi, Option.map_some, Option.some.injEq] at h
    simp [sizeOf, typeInfo, hi, h]
theorem run_agg {t : Nat} {b : Bool} (h : aggT P t = some b) (w : World) : (isAgg t).run P w = .ok b w := by
  unfold aggT at h
  cases hi : P.underlying t with
  | none => simp [hi] at h
  | some d =>
    simp only [hi, Option.map_some, Option.some.injEq] at h
    subst h
    simp only [isAgg, Sem.run_bind, run_underlying hi, Result.andThen_ok]
    cases d <;> rfl
theorem fldT_spec {s f off n : Nat} {b : Bool} (h : fldT P s f = some (off, n, b)) : ∃ fs fd, P.underlying s = some (.struct fs) ∧ fs[f]? = some fd ∧ fd.offset = off ∧ szT P fd.type = some n ∧ aggT P fd.type = some b ∧ n ≠ 0 := by
  unfold fldT at h
  split at h
  · rename_i fs hu
    split at h
    · rename_i fd hf
      split at h
      · rename_i n' b' h1 h2
        simp only [Option.some.injEq, Prod.mk.injEq] at h
        exact ⟨fs, fd, hu, hf, h.1, by rw [h1]; exact congrArg some h.2.1, by rw [h2, h.2.2], by omega⟩
      · cases h
    · cases h
  · cases h
theorem elT_spec {t n : Nat} {b : Bool} (h : elT P t = some (n, b)) : ∃ e, P.underlying t = some (.slice e) ∧ szT P e = some n ∧ aggT P e = some b := by
  unfold elT at h
  split at h
  · rename_i e hu
    split at h
    · rename_i n' b' h1 h2
      simp only [Option.some.injEq, Prod.mk.injEq] at h
      exact ⟨e, hu, by rw [h1, h.1], by rw [h2, h.2]⟩
    · cases h
  · cases h
theorem arT_spec {t len n : Nat} {b : Bool} (h : arT P t = some (len, n, b)) : ∃ e, P.underlying t = some (.array len e) ∧ szT P e = some n ∧ aggT P e = some b := by
  unfold arT at h
  split at h
  · rename_i len' e hu
    split at h
    · rename_i n' b' h1 h2
      simp only [Option.some.injEq, Prod.mk.injEq] at h
      exact ⟨e, by rw [hu, h.1], by rw [h1, h.2.1], by rw [h2, h.2.2]⟩
    · cases h
  · cases h
def constT (P : Program) (ty : TypeId) : Value → Option T
  | .int k n => some (I k n)
  | .bool b => some (Bo b)
  | .string s => some (S s.data.toList)
  | .slice none 0 0 => match elT P ty with | some (n, _) => some (.one (.dat (.nil n))) | none => none
  | .nilIface => some (.one (.dat (.err false)))
  | _ => none
def ev (P : Program) (env : Env) (ty : TypeId) : Operand → Option T
  | .tmp d => env.lookup d
  | .const v => constT P ty v
  | .func f => some (.one (.dat (.fn f)))
  | .global g => match gl.lookup g with
    | some r => some (.one (.ref r))
    | none => none
theorem constT_rep {M : Mem0} {ν : Nu} {ty : TypeId} {v : Value} {t : T} (h : constT P ty v = some t) : t.rep M ν v := by
  unfold constT at h
  split at h <;> try (cases h; done)
  · cases h; simp only [T.rep, Cell.rep, C.rep]
  · cases h; simp only [T.rep, Cell.rep, C.rep]
  · rename_i s
    cases h; simp only [T.rep, Cell.rep, C.rep, Array.toArray_toList]
  · split at h
    · cases h
      simp only [T.rep, Cell.rep, C.rep]
    · cases h
  · cases h; simp only [T.rep, Cell.rep, C.rep, cond_false]
theorem ev_rep {M : Mem} {ν : Nu} {a : Act} {env : Env} {o : Oper} {ty : TypeId} {x : Operand} {t : T} (he : EnvOn M ν a env o) (hx : x ∈ o.op.operands) (h : ev P env ty x = some t) :
    t.rep M ν (a.eval x) := by
  cases x with
  | tmp d => exact he d t hx h
  | const v => exact constT_rep h
  | func f => simp only [ev, Option.some.injEq] at h; subst h; simp only [T.rep, Cell.rep, C.rep, Act.eval]
  | global g =>
    simp only [ev] at h
    split at h
    · rename_i r hr
      cases h
      obtain ⟨vs, h1, h2⟩ := M.glo.1 g r hr
      simp only [T.rep, Cell.rep]
      exact ⟨g, 0, vs, rfl, h1, h2⟩
    · cases h
theorem OpP.of_run {o : Oper} {env : Env} {B : Bx} {t : T}
    (h : ∀ κ M ν a w B', (∀ x ∈ B, x ∈ B') → EnvOn M ν a env o → Sat κ M ν B' w →
      ∃ v w' M', (execOp a.eval o).run P w = .ok (.value v) w' ∧ M.ext κ M' ∧ t.rep M' ν v ∧ Sat κ M' ν B' w') : OpP P o env B t := by
  intro κ M ν a w B' hB he hs
  obtain ⟨v, w', M', hr, hle, ht, hs'⟩ := h κ M ν a w B' hB he hs
  unfold Oper.wp
  rw [hr]
  exact ⟨v, M', rfl, hle, ht, hs'⟩
theorem OpP.of_val {o : Oper} {env : Env} {B : Bx} {t : T}
    (h : ∀ κ M ν a w B', (∀ x ∈ B, x ∈ B') → EnvOn M ν a env o → Sat κ M ν B' w → ∃ v, (execOp a.eval o).run P w = .ok (.value v) w ∧ t.rep M ν v) : OpP P o env B t :=
  OpP.of_run fun κ M ν a w B' hB he hs => let ⟨v, hr, ht⟩ := h κ M ν a w B' hB he hs; ⟨v, w, M, hr, Mem.ext.refl κ M, ht, hs⟩
theorem rep_int {M : Mem0} {ν : Nu} {k : IntKind} {n : Int} {v : Value} : (I k n).rep M ν v ↔ v = .int k n := by simp only [T.rep, Cell.rep, C.rep]
theorem rep_bool {M : Mem0} {ν : Nu} {b : Bool} {v : Value} : (Bo b).rep M ν v ↔ v = .bool b := by simp only [T.rep, Cell.rep, C.rep]
theorem rep_str {M : Mem0} {ν : Nu} {l : List UInt8} {v : Value} : (S l).rep M ν v ↔ v = .string ⟨l.toArray⟩ := by simp only [T.rep, Cell.rep, C.rep]
def vMove (t : Option T) (K : T → Prop) : Prop :=
  match t with
  | some t => K t
  | none => False
def vPick (c a b : Option T) (K : T → Prop) : Prop :=
  match c with
  | some (.one (.dat (.bool c))) => bif c then vMove a K else vMove b K
  | _ => False
theorem vMove_some {t : Option T} {K : T → Prop} (h : vMove t K) : ∃ u, t = some u ∧ K u := by
  unfold vMove at h
  split at h
  · exact ⟨_, rfl, h⟩
  · exact h.elim
def vInt (op : BinOp) (k k' : IntKind) (a b : Int) (K : T → Prop) : Prop :=
  match op with
  | .shl => 0 ≤ b ∧ K (I k (k.wrap (a * 2 ^ (min b.toNat k.bits))))
  | .shr => 0 ≤ b ∧ K (I k (a.fdiv (2 ^ (min b.toNat k.bits))))
  | .add => k = k' ∧ K (I k (k.wrap (a + b)))
  | .sub => k = k' ∧ K (I k (k.wrap (a - b)))
  | .mul => k = k' ∧ K (I k (k.wrap (a * b)))
  | .quo => k = k' ∧ b ≠ 0 ∧ K (I k (k.wrap (a.tdiv b)))
  | .rem => k = k' ∧ b ≠ 0 ∧ K (I k (a.tmod b))
  | .and => k = k' ∧ K (I k (k.wrap (BitVec.ofInt k.bits a &&& BitVec.ofInt k.bits b).toNat))
  | .or => k = k' ∧ K (I k (k.wrap (BitVec.ofInt k.bits a ||| BitVec.ofInt k.bits b).toNat))
  | .xor => k = k' ∧ K (I k (k.wrap (BitVec.ofInt k.bits a ^^^ BitVec.ofInt k.bits b).toNat))
  | .andNot => k = k' ∧ K (I k (k.wrap (BitVec.ofInt k.bits a &&& ~~~ BitVec.ofInt k.bits b).toNat))
  | .eql => k = k' ∧ K (Bo (decide (a = b)))
  | .neq => k = k' ∧ K (Bo (!decide (a = b)))
  | .lss => k = k' ∧ K (Bo (decide (a < b)))
  | .leq => k = k' ∧ K (Bo (decide (a ≤ b)))
  | .gtr => k = k' ∧ K (Bo (decide (b < a)))
  | .geq => k = k' ∧ K (Bo (decide (b ≤ a)))
def vStr (op : BinOp) (a b : List UInt8) (K : T → Prop) : Prop :=
  match op with
  | .add => a.length + b.length ≤ maxLen ∧ K (S (a ++ b))
  | .eql => K (Bo (decide (a = b)))
  | .neq => K (Bo (!decide (a = b)))
  | .lss => K (Bo (Op.bytesLess a b))
  | .leq => K (Bo (Op.bytesLess a b || decide (a = b)))
  | .gtr => K (Bo (!(Op.bytesLess a b || decide (a = b))))
  | .geq => K (Bo (!Op.bytesLess a b))
  | _ => False
theorem run_guard (op : BinOp) (t : TypeId) (x y : Operand) {a b : Value} (w : World) (ha : a ≠ .nilIface) (hb : ∀ c, a ≠ .agg c) : (eqGuard op t x y a b).run P w = .ok () w := by
  unfold eqGuard
  cases op <;> cases a <;> first | rfl | (exact absurd rfl ha) | (exact absurd rfl (hb _))
theorem beq_int (a b : Int) : (a == b) = decide (a = b) := rfl
theorem bne_int (a b : Int) : (a != b) = !decide (a = b) := rfl
theorem vInt_run {op : BinOp} {k k' : IntKind} {a b : Int} {K : T → Prop} (ty : TypeId) (h : vInt op k k' a b K) :
    ∃ (t : T) (v : Value), K t ∧ (∀ M ν, t.rep M ν v) ∧ ∀ w, (binOp op ty (.int k a) (.int k' b)).run P w = .ok v w := by
  cases op <;> simp only [vInt] at h
  case shl => exact ⟨_, _, h.2, fun M ν => rep_int.2 rfl, fun w => by simp [binOp, Op.shift, Int.not_lt.2 h.1]⟩
  case shr => exact ⟨_, _, h.2, fun M ν => rep_int.2 rfl, fun w => by simp [binOp, Op.shift, Int.not_lt.2 h.1]⟩
  case quo => obtain ⟨rfl, h0, h⟩ := h; exact ⟨_, _, h, fun M ν => rep_int.2 rfl, fun w => by simp [binOp, Op.intDiv, h0]⟩
  case rem => obtain ⟨rfl, h0, h⟩ := h; exact ⟨_, _, h, fun M ν => rep_int.2 rfl, fun w => by simp [binOp, Op.intDiv, h0]⟩
  case add => obtain ⟨rfl, h⟩ := h; exact ⟨_, _, h, fun M ν => rep_int.2 rfl, fun w => by simp [binOp, Op.intArith]⟩
  case sub => obtain ⟨rfl, h⟩ := h; exact ⟨_, _, h, fun M ν => rep_int.2 rfl, fun w => by simp [binOp, Op.intArith]⟩
  case mul => obtain ⟨rfl, h⟩ := h; exact ⟨_, _, h, fun M ν => rep_int.2 rfl, fun w => by simp [binOp, Op.intArith]⟩
  case and => obtain ⟨rfl, h⟩ := h; exact ⟨_, _, h, fun M ν => rep_int.2 rfl, fun w => by simp only [binOp, Op.intBits, ne_eq, not_true_eq_false, if_false, Sem.run_pure]⟩
  case or => obtain ⟨rfl, h⟩ := h; exact ⟨_, _, h, fun M ν => rep_int.2 rfl, fun w => by simp only [binOp, Op.intBits, ne_eq, not_true_eq_false, if_false, Sem.run_pure]⟩
  case xor => obtain ⟨rfl, h⟩ := h; exact ⟨_, _, h, fun M ν => rep_int.2 rfl, fun w => by simp only [binOp, Op.intBits, ne_eq, not_true_eq_false, if_false, Sem.run_pure]⟩
  case andNot => obtain ⟨rfl, h⟩ := h; exact ⟨_, _, h, fun M ν => rep_int.2 rfl, fun w => by simp only [binOp, Op.intBits, ne_eq, not_true_eq_false, if_false, Sem.run_pure]⟩
  case eql => obtain ⟨rfl, h⟩ := h; exact ⟨_, _, h, fun M ν => rep_bool.2 rfl, fun w => by simp only [binOp, Op.intCmp, ne_eq, not_true_eq_false, if_false, Sem.run_pure, beq_int]⟩
  case neq => obtain ⟨rfl, h⟩ := h; exact ⟨_, _, h, fun M ν => rep_bool.2 rfl, fun w => by simp only [binOp, Op.intCmp, ne_eq, not_true_eq_false, if_false, Sem.run_pure, bne_int]⟩
  case lss => obtain ⟨rfl, h⟩ := h; exact ⟨_, _, h, fun M ν => rep_bool.2 rfl, fun w => by simp only [binOp, Op.intCmp, ne_eq, not_true_eq_false, if_false, Sem.run_pure]⟩
  case leq => obtain ⟨rfl, h⟩ := h; exact ⟨_, _, h, fun M ν => rep_bool.2 rfl, fun w => by simp only [binOp, Op.intCmp, ne_eq, not_true_eq_false, if_false, Sem.run_pure]⟩
  case gtr => obtain ⟨rfl, h⟩ := h; exact ⟨_, _, h, fun M ν => rep_bool.2 rfl, fun w => by simp only [binOp, Op.intCmp, ne_eq, not_true_eq_false, if_false, Sem.run_pure]⟩
  case geq => obtain ⟨rfl, h⟩ := h; exact ⟨_, _, h, fun M ν => rep_bool.2 rfl, fun w => by simp only [binOp, Op.intCmp, ne_eq, not_true_eq_false, if_false, Sem.run_pure]⟩
theorem size_mk (l : List UInt8) : (ByteArray.mk l.toArray).size = l.length := by simp [ByteArray.size]
theorem append_mk (a b : List UInt8) : (ByteArray.mk a.toArray) ++ (ByteArray.mk b.toArray) = ByteArray.mk (a ++ b).toArray := by
  apply ByteArray.ext
  simp [ByteArray.data_append]
theorem list_beq (a b : List UInt8) : (a == b) = decide (a = b) := by
  by_cases h : a = b <;> simp [h]
theorem vStr_run {op : BinOp} {a b : List UInt8} {K : T → Prop} (ty : TypeId) (h : vStr op a b K) :
    ∃ (t : T) (v : Value), K t ∧ (∀ M ν, t.rep M ν v) ∧ ∀ w, (binOp op ty (.string ⟨a.toArray⟩) (.string ⟨b.toArray⟩)).run P w = .ok v w := by
  cases op <;> simp only [vStr] at h <;> try exact h.elim
  case add =>
    refine ⟨_, _, h.2, fun M ν => rep_str.2 rfl, fun w => ?_⟩
    have h1 := h.1
    unfold maxLen at h1
    have : ¬ (((ByteArray.mk a.toArray).size + (ByteArray.mk b.toArray).size : Nat) : Int) > IntKind.i64.max := by
      rw [size_mk, size_mk]
      show ¬ _ > (2 ^ 63 - 1 : Int)
      omega
    simp only [binOp, Op.stringOp, this, if_false, Sem.run_pure, append_mk]
  case eql => exact ⟨_, _, h, fun M ν => rep_bool.2 rfl, fun w => by simp [binOp, Op.stringOp, list_beq]⟩
  case neq => exact ⟨_, _, h, fun M ν => rep_bool.2 rfl, fun w => by simp [binOp, Op.stringOp, list_beq]⟩
  case lss => exact ⟨_, _, h, fun M ν => rep_bool.2 rfl, fun w => by simp [binOp, Op.stringOp]⟩
  case leq => exact ⟨_, _, h, fun M ν => rep_bool.2 rfl, fun w => by simp [binOp, Op.stringOp, list_beq]⟩
  case gtr => exact ⟨_, _, h, fun M ν => rep_bool.2 rfl, fun w => by simp only [binOp, Op.stringOp, list_beq, ByteArray.toList_mk, Sem.run_pure]⟩
  case geq => exact ⟨_, _, h, fun M ν => rep_bool.2 rfl, fun w => by simp [binOp, Op.stringOp]⟩
def vBin (P : Program) (op : BinOp) (ty : TypeId) (x y : Option T) (K : T → Prop) : Prop :=
  match x, y with
  | some (.one (.dat (.int k a))), some (.one (.dat (.int k' b))) => vInt op k k' a b K
  | some (.one (.dat (.str a))), some (.one (.dat (.str b))) => vStr op a b K
  | some (.one (.dat (.bool a))), some (.one (.dat (.bool b))) => match op with
    | .eql => kdT P ty = some .bool ∧ K (Bo (a == b))
    | .neq => kdT P ty = some .bool ∧ K (Bo (!(a == b)))
    | _ => False
  | _, _ => False
theorem kdT_bool {ty : TypeId} (h : kdT P ty = some .bool) : P.underlying ty = some .bool := by
  unfold kdT at h; split at h <;> first | assumption | cases h
theorem kdT_int {ty : TypeId} {k : IntKind} (h : kdT P ty = some (.int k)) : P.underlying ty = some (.int k) := by
  unfold kdT at h; split at h <;> first | (cases h; done) | (simp only [Option.some.injEq, Kd.int.injEq] at h; subst h; assumption)
theorem kdT_str {ty : TypeId} (h : kdT P ty = some .str) : P.underlying ty = some .string := by
  unfold kdT at h; split at h <;> first | assumption | cases h
theorem run_equalIn_bool (d : Nat) {ty : TypeId} (hu : P.underlying ty = some .bool) (a b : Bool) (w : World) : (Op.equalIn (d + 1) ty (.bool a) (.bool b)).run P w = .ok (a == b) w := by
  simp only [Op.equalIn, Sem.run_bind, run_underlying hu, Result.andThen_ok]
  rfl
theorem run_equalIn_str (d : Nat) {ty : TypeId} (hu : P.underlying ty = some .string) (a b : List UInt8) (w : World) : (Op.equalIn (d + 1) ty (.string ⟨a.toArray⟩) (.string ⟨b.toArray⟩)).run P w = .ok (decide (a = b)) w := by
  simp only [Op.equalIn, Sem.run_bind, run_underlying hu, Result.andThen_ok, Sem.run_pure, beq_toListBytes, ByteArray.toList_mk, list_beq]
theorem run_equal_bool {ty : TypeId} (hu : P.underlying ty = some .bool) (a b : Bool) (w : World) : (Op.equal ty (.bool a) (.bool b)).run P w = .ok (a == b) w := run_equalIn_bool 9999 hu a b w
theorem vBin_sound {op : BinOp} {ty : TypeId} {x y : Operand} {yt : TypeId} {env : Env} {B : Bx} {o : Oper} {K : T → Prop} (ho : o.op = .binOp op ty x y yt)
    (h : vBin P op ty (ev P env ty x) (ev P env yt y) K) : ∃ t, OpP P o env B t ∧ K t := by
  have hx : x ∈ o.op.operands := by rw [ho]; simp [Op.operands]
  have hy : y ∈ o.op.operands := by rw [ho]; simp [Op.operands]
  have hrun : ∀ (a : Act) (w : World), (execOp a.eval o).run P w = ((eqGuard op ty x y (a.eval x) (a.eval y)).run P w).andThen fun _ w => ((binOp op ty (a.eval x) (a.eval y)).run P w).andThen fun v w => .ok (.value v) w := by
    intro a w
    unfold execOp
    rw [ho]
    simp only [Sem.run_bind, Sem.run_pure]
    cases (eqGuard op ty x y (a.eval x) (a.eval y)).run P w <;> rfl
  unfold vBin at h
  split at h
  · rename_i k a k' b ex ey
    obtain ⟨t, v, hk, hrep, hr⟩ := vInt_run (P := P) ty h
    refine ⟨t, OpP.of_val fun κ M ν ac w B' hB he hs => ⟨v, ?_, hrep M ν⟩, hk⟩
    have e1 := rep_int.1 (ev_rep he hx ex)
    have e2 := rep_int.1 (ev_rep he hy ey)
    rw [hrun, run_guard op ty x y w (by rw [e1]; simp) (by intro c; rw [e1]; simp), e1, e2]
    simp only [Result.andThen_ok, hr]
  · rename_i a b ex ey
    obtain ⟨t, v, hk, hrep, hr⟩ := vStr_run (P := P) ty h
    refine ⟨t, OpP.of_val fun κ M ν ac w B' hB he hs => ⟨v, ?_, hrep M ν⟩, hk⟩
    have e1 := rep_str.1 (ev_rep he hx ex)
    have e2 := rep_str.1 (ev_rep he hy ey)
    rw [hrun, run_guard op ty x y w (by rw [e1]; simp) (by intro c; rw [e1]; simp), e1, e2]
    simp only [Result.andThen_ok, hr]
  · rename_i a b ex ey
    cases op <;> simp only [] at h <;> try exact h.elim
    all_goals
      refine ⟨_, OpP.of_val fun κ M ν ac w B' hB he hs => ⟨_, ?_, rep_bool.2 rfl⟩, h.2⟩
      have e1 := rep_bool.1 (ev_rep he hx ex)
      have e2 := rep_bool.1 (ev_rep he hy ey)
      rw [hrun, run_guard _ ty x y w (by rw [e1]; simp) (by intro c; rw [e1]; simp), e1, e2]
      have hu := kdT_bool h.1
      simp only [Result.andThen_ok, binOp, Sem.run_bind, run_equal_bool hu, Sem.run_pure]
  · exact h.elim
def vUn (op : UnOp) (x : Option T) (K : T → Prop) : Prop :=
  match op, x with
  | .neg, some (.one (.dat (.int k a))) => K (I k (k.wrap (0 - a)))
  | .not, some (.one (.dat (.bool a))) => K (Bo (!a))
  | _, _ => False
theorem vUn_sound {op : UnOp} {ty : TypeId} {x : Operand} {env : Env} {B : Bx} {o : Oper} {K : T → Prop} (ho : o.op = .unOp op ty x)
    (h : vUn op (ev P env ty x) K) : ∃ t, OpP P o env B t ∧ K t := by
  have hx : x ∈ o.op.operands := by rw [ho]; simp [Op.operands]
  unfold vUn at h
  split at h
  · rename_i k a ex
    refine ⟨_, OpP.of_val fun κ M ν ac w B' hB he hs => ⟨_, ?_, rep_int.2 rfl⟩, h⟩
    have e1 := rep_int.1 (ev_rep he hx ex)
    unfold execOp
    rw [ho]
    simp [e1, Op.unary, Op.intArith]
  · rename_i a ex
    refine ⟨_, OpP.of_val fun κ M ν ac w B' hB he hs => ⟨_, ?_, rep_bool.2 rfl⟩, h⟩
    have e1 := rep_bool.1 (ev_rep he hx ex)
    unfold execOp
    rw [ho]
    simp [e1, Op.unary]
  · exact h.elim
end Go.Sx
