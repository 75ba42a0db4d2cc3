/- A part of the proof: lemmas about the walk of the program and about plain integers and lists. No conditions beyond those that each lemma states. -/
import Derived.Test.YtmpfdejckbceiaaOp12
import Derived.RowKit3
/-! How the walk rewrites what the data come to in cells. Written by a program of the prover's (genenc.py). -/
namespace Go.Sx
theorem pureCs_map : ∀ r : List C, pureCs (r.map .dat) = some r
  | [] => rfl
  | c :: r => by simp only [List.map_cons, pureCs, pureCs_map r]
theorem mkAgg_map (r : List C) : mkAgg (r.map .dat) = .st r := by simp only [mkAgg, pureCs_map]
theorem soft_map (r : List C) : (r.map Cell.dat).map Cell.soft = (r.map C.soft).map Cell.dat := by induction r <;> simp_all [Cell.soft]
attribute [go_sem] pureCs_map mkAgg_map soft_map
@[go_sem] theorem freshs_enc (n : Nat) : ∀ r : List C, Cell.freshs n (r.map .dat) = true
  | [] => rfl
  | c :: r => by simp only [List.map_cons, Cell.freshs, freshs_enc n r, Cell.fresh, Bool.and_true]

theorem encKey_lit (x : KeyD) : encKey x = [.int .i64 x.kind, .str x.text] := rfl
@[go_sem] theorem encKey_cut (x : KeyD) : cutC 2 (encKey x) = some (encKey x, []) := by rfl
@[go_sem low] theorem encKey_cutk (x : KeyD) (k : Nat) : cutC k (encKey x) = cutC k [.int .i64 x.kind, .str x.text] := by rw [encKey_lit]
@[go_sem] theorem encKey_cutm (x : KeyD) : cutC 2 ((encKey x).map Cell.dat) = some ((encKey x).map Cell.dat, []) := by rfl
@[go_sem low] theorem encKey_cutmk (x : KeyD) (k : Nat) : cutC k ((encKey x).map Cell.dat) = cutC k (([.int .i64 x.kind, .str x.text] : List C).map Cell.dat) := by rw [encKey_lit]
@[go_sem] theorem encKey_soft (x : KeyD) : (encKey x).map C.soft = encKey x := by rfl
@[go_sem] theorem encKey_len (x : KeyD) : lenIs 2 (encKey x) = true := by rfl
@[go_sem high] theorem encKey_takeP (x : KeyD) (n : Nat) (K : T → Prop) : takeP false n (encKey x) K = K (.one (.dat (.int .i64 x.kind))) := by rw [encKey_lit]; rfl
@[go_sem high] theorem encKey_takeT (x : KeyD) (n : Nat) (K : T → Prop) : takeT false n ((encKey x).map Cell.dat) K = K (.one (.dat (.int .i64 x.kind))) := by rw [encKey_lit]; rfl
@[go_sem] theorem encKey_lenm (x : KeyD) : lenIs 2 ((encKey x).map Cell.dat) = true := by rfl
theorem encField_lit (x : FieldD) : encField x = [.int .i64 x.key.kind, .str x.key.text, .int .i64 x.node, .bool x.opt] := rfl
@[go_sem] theorem encField_cut (x : FieldD) : cutC 4 (encField x) = some (encField x, []) := by rfl
@[go_sem low] theorem encField_cutk (x : FieldD) (k : Nat) : cutC k (encField x) = cutC k [.int .i64 x.key.kind, .str x.key.text, .int .i64 x.node, .bool x.opt] := by rw [encField_lit]
@[go_sem] theorem encField_cutm (x : FieldD) : cutC 4 ((encField x).map Cell.dat) = some ((encField x).map Cell.dat, []) := by rfl
@[go_sem low] theorem encField_cutmk (x : FieldD) (k : Nat) : cutC k ((encField x).map Cell.dat) = cutC k (([.int .i64 x.key.kind, .str x.key.text, .int .i64 x.node, .bool x.opt] : List C).map Cell.dat) := by rw [encField_lit]
@[go_sem] theorem encField_soft (x : FieldD) : (encField x).map C.soft = encField x := by rfl
@[go_sem] theorem encField_len (x : FieldD) : lenIs 4 (encField x) = true := by rfl
@[go_sem high] theorem encField_takeP (x : FieldD) (n : Nat) (K : T → Prop) : takeP false n (encField x) K = K (.one (.dat (.int .i64 x.key.kind))) := by rw [encField_lit]; rfl
@[go_sem high] theorem encField_takeT (x : FieldD) (n : Nat) (K : T → Prop) : takeT false n ((encField x).map Cell.dat) K = K (.one (.dat (.int .i64 x.key.kind))) := by rw [encField_lit]; rfl
@[go_sem] theorem encField_lenm (x : FieldD) : lenIs 4 ((encField x).map Cell.dat) = true := by rfl
theorem encInt_lit (x : Int) : encInt x = [.int .i64 x] := rfl
@[go_sem] theorem encInt_cut (x : Int) : cutC 1 (encInt x) = some (encInt x, []) := by rfl
@[go_sem low] theorem encInt_cutk (x : Int) (k : Nat) : cutC k (encInt x) = cutC k [.int .i64 x] := by rw [encInt_lit]
@[go_sem] theorem encInt_cutm (x : Int) : cutC 1 ((encInt x).map Cell.dat) = some ((encInt x).map Cell.dat, []) := by rfl
@[go_sem low] theorem encInt_cutmk (x : Int) (k : Nat) : cutC k ((encInt x).map Cell.dat) = cutC k (([.int .i64 x] : List C).map Cell.dat) := by rw [encInt_lit]
@[go_sem] theorem encInt_soft (x : Int) : (encInt x).map C.soft = encInt x := by rfl
@[go_sem] theorem encInt_len (x : Int) : lenIs 1 (encInt x) = true := by rfl
@[go_sem high] theorem encInt_takeP (x : Int) (n : Nat) (K : T → Prop) : takeP false n (encInt x) K = K (.one (.dat (.int .i64 x))) := by rw [encInt_lit]; rfl
@[go_sem high] theorem encInt_takeT (x : Int) (n : Nat) (K : T → Prop) : takeT false n ((encInt x).map Cell.dat) K = K (.one (.dat (.int .i64 x))) := by rw [encInt_lit]; rfl
@[go_sem] theorem encInt_lenm (x : Int) : lenIs 1 ((encInt x).map Cell.dat) = true := by rfl
theorem encStr_lit (x : List UInt8) : encStr x = [.str x] := rfl
@[go_sem] theorem encStr_cut (x : List UInt8) : cutC 1 (encStr x) = some (encStr x, []) := by rfl
@[go_sem low] theorem encStr_cutk (x : List UInt8) (k : Nat) : cutC k (encStr x) = cutC k [.str x] := by rw [encStr_lit]
@[go_sem] theorem encStr_cutm (x : List UInt8) : cutC 1 ((encStr x).map Cell.dat) = some ((encStr x).map Cell.dat, []) := by rfl
@[go_sem low] theorem encStr_cutmk (x : List UInt8) (k : Nat) : cutC k ((encStr x).map Cell.dat) = cutC k (([.str x] : List C).map Cell.dat) := by rw [encStr_lit]
@[go_sem] theorem encStr_soft (x : List UInt8) : (encStr x).map C.soft = encStr x := by rfl
@[go_sem] theorem encStr_len (x : List UInt8) : lenIs 1 (encStr x) = true := by rfl
@[go_sem high] theorem encStr_takeP (x : List UInt8) (n : Nat) (K : T → Prop) : takeP false n (encStr x) K = K (.one (.dat (.str x))) := by rw [encStr_lit]; rfl
@[go_sem high] theorem encStr_takeT (x : List UInt8) (n : Nat) (K : T → Prop) : takeT false n ((encStr x).map Cell.dat) K = K (.one (.dat (.str x))) := by rw [encStr_lit]; rfl
@[go_sem] theorem encStr_lenm (x : List UInt8) : lenIs 1 ((encStr x).map Cell.dat) = true := by rfl
theorem encNode_lit (x : NodeD) : encNode x = [.int .i64 x.kind, .int .i64 x.lo, .int .i64 x.hi, .str x.text, .sl 1 (x.kids.map encInt), .sl 4 (x.fields.map encField), .int .i64 x.r0, .int .i64 x.r1] := rfl
@[go_sem] theorem encNode_cut (x : NodeD) : cutC 8 (encNode x) = some (encNode x, []) := by rfl
@[go_sem low] theorem encNode_cutk (x : NodeD) (k : Nat) : cutC k (encNode x) = cutC k [.int .i64 x.kind, .int .i64 x.lo, .int .i64 x.hi, .str x.text, .sl 1 (x.kids.map encInt), .sl 4 (x.fields.map encField), .int .i64 x.r0, .int .i64 x.r1] := by rw [encNode_lit]
@[go_sem] theorem encNode_cutm (x : NodeD) : cutC 8 ((encNode x).map Cell.dat) = some ((encNode x).map Cell.dat, []) := by rfl
@[go_sem low] theorem encNode_cutmk (x : NodeD) (k : Nat) : cutC k ((encNode x).map Cell.dat) = cutC k (([.int .i64 x.kind, .int .i64 x.lo, .int .i64 x.hi, .str x.text, .sl 1 (x.kids.map encInt), .sl 4 (x.fields.map encField), .int .i64 x.r0, .int .i64 x.r1] : List C).map Cell.dat) := by rw [encNode_lit]
@[go_sem] theorem encNode_soft (x : NodeD) : (encNode x).map C.soft = encNode x := by rfl
@[go_sem] theorem encNode_len (x : NodeD) : lenIs 8 (encNode x) = true := by rfl
@[go_sem high] theorem encNode_takeP (x : NodeD) (n : Nat) (K : T → Prop) : takeP false n (encNode x) K = K (.one (.dat (.int .i64 x.kind))) := by rw [encNode_lit]; rfl
@[go_sem high] theorem encNode_takeT (x : NodeD) (n : Nat) (K : T → Prop) : takeT false n ((encNode x).map Cell.dat) K = K (.one (.dat (.int .i64 x.kind))) := by rw [encNode_lit]; rfl
@[go_sem] theorem encNode_lenm (x : NodeD) : lenIs 8 ((encNode x).map Cell.dat) = true := by rfl
theorem encDat_lit (x : Dat) : encDat x = [.int .i64 x.kind, .int .i64 x.num, .str x.text, .sl 13 (x.kids.map encDat), .sl 2 (x.keys.map encKey), .str x.mod, .int .i64 x.version, .int .i64 x.routine, .bool x.wrapped, .sl 8 (x.nodes.map encNode), .int .i64 x.root, .str x.inner, .str x.outer] := encDat_eq x
@[go_sem] theorem encDat_cut (x : Dat) : cutC 13 (encDat x) = some (encDat x, []) := by rw [encDat_eq]; rfl
@[go_sem low] theorem encDat_cutk (x : Dat) (k : Nat) : cutC k (encDat x) = cutC k [.int .i64 x.kind, .int .i64 x.num, .str x.text, .sl 13 (x.kids.map encDat), .sl 2 (x.keys.map encKey), .str x.mod, .int .i64 x.version, .int .i64 x.routine, .bool x.wrapped, .sl 8 (x.nodes.map encNode), .int .i64 x.root, .str x.inner, .str x.outer] := by rw [encDat_lit]
@[go_sem] theorem encDat_cutm (x : Dat) : cutC 13 ((encDat x).map Cell.dat) = some ((encDat x).map Cell.dat, []) := by rw [encDat_eq]; rfl
@[go_sem low] theorem encDat_cutmk (x : Dat) (k : Nat) : cutC k ((encDat x).map Cell.dat) = cutC k (([.int .i64 x.kind, .int .i64 x.num, .str x.text, .sl 13 (x.kids.map encDat), .sl 2 (x.keys.map encKey), .str x.mod, .int .i64 x.version, .int .i64 x.routine, .bool x.wrapped, .sl 8 (x.nodes.map encNode), .int .i64 x.root, .str x.inner, .str x.outer] : List C).map Cell.dat) := by rw [encDat_lit]
@[go_sem] theorem encDat_soft (x : Dat) : (encDat x).map C.soft = encDat x := by rw [encDat_eq]; rfl
@[go_sem] theorem encDat_len (x : Dat) : lenIs 13 (encDat x) = true := by rw [encDat_eq]; rfl
@[go_sem high] theorem encDat_takeP (x : Dat) (n : Nat) (K : T → Prop) : takeP false n (encDat x) K = K (.one (.dat (.int .i64 x.kind))) := by rw [encDat_lit]; rfl
@[go_sem high] theorem encDat_takeT (x : Dat) (n : Nat) (K : T → Prop) : takeT false n ((encDat x).map Cell.dat) K = K (.one (.dat (.int .i64 x.kind))) := by rw [encDat_lit]; rfl
@[go_sem] theorem encDat_lenm (x : Dat) : lenIs 13 ((encDat x).map Cell.dat) = true := by rw [encDat_eq]; rfl
theorem encVal_lit (x : Val) : encVal x = [.int .i64 x.kind, .int .i64 x.num, .str x.text, .sl 7 (x.kids.map encVal), .sl 2 (x.keys.map encKey), .sl 9 (x.ents.map encEnt), .sl 1 (x.labels.map encStr)] := encVal_eq x
@[go_sem] theorem encVal_cut (x : Val) : cutC 7 (encVal x) = some (encVal x, []) := by rw [encVal_eq]; rfl
@[go_sem low] theorem encVal_cutk (x : Val) (k : Nat) : cutC k (encVal x) = cutC k [.int .i64 x.kind, .int .i64 x.num, .str x.text, .sl 7 (x.kids.map encVal), .sl 2 (x.keys.map encKey), .sl 9 (x.ents.map encEnt), .sl 1 (x.labels.map encStr)] := by rw [encVal_lit]
@[go_sem] theorem encVal_cutm (x : Val) : cutC 7 ((encVal x).map Cell.dat) = some ((encVal x).map Cell.dat, []) := by rw [encVal_eq]; rfl
@[go_sem low] theorem encVal_cutmk (x : Val) (k : Nat) : cutC k ((encVal x).map Cell.dat) = cutC k (([.int .i64 x.kind, .int .i64 x.num, .str x.text, .sl 7 (x.kids.map encVal), .sl 2 (x.keys.map encKey), .sl 9 (x.ents.map encEnt), .sl 1 (x.labels.map encStr)] : List C).map Cell.dat) := by rw [encVal_lit]
@[go_sem] theorem encVal_soft (x : Val) : (encVal x).map C.soft = encVal x := by rw [encVal_eq]; rfl
@[go_sem] theorem encVal_len (x : Val) : lenIs 7 (encVal x) = true := by rw [encVal_eq]; rfl
@[go_sem high] theorem encVal_takeP (x : Val) (n : Nat) (K : T → Prop) : takeP false n (encVal x) K = K (.one (.dat (.int .i64 x.kind))) := by rw [encVal_lit]; rfl
@[go_sem high] theorem encVal_takeT (x : Val) (n : Nat) (K : T → Prop) : takeT false n ((encVal x).map Cell.dat) K = K (.one (.dat (.int .i64 x.kind))) := by rw [encVal_lit]; rfl
@[go_sem] theorem encVal_lenm (x : Val) : lenIs 7 ((encVal x).map Cell.dat) = true := by rw [encVal_eq]; rfl
theorem encEnt_lit (x : List Val × Bool × Val) : encEnt x = [.sl 7 (x.1.map encVal), .bool x.2.1, .int .i64 x.2.2.kind, .int .i64 x.2.2.num, .str x.2.2.text, .sl 7 (x.2.2.kids.map encVal), .sl 2 (x.2.2.keys.map encKey), .sl 9 (x.2.2.ents.map encEnt), .sl 1 (x.2.2.labels.map encStr)] := encEnt_eq x
@[go_sem] theorem encEnt_cut (x : List Val × Bool × Val) : cutC 9 (encEnt x) = some (encEnt x, []) := by rw [encEnt_eq]; rfl
@[go_sem low] theorem encEnt_cutk (x : List Val × Bool × Val) (k : Nat) : cutC k (encEnt x) = cutC k [.sl 7 (x.1.map encVal), .bool x.2.1, .int .i64 x.2.2.kind, .int .i64 x.2.2.num, .str x.2.2.text, .sl 7 (x.2.2.kids.map encVal), .sl 2 (x.2.2.keys.map encKey), .sl 9 (x.2.2.ents.map encEnt), .sl 1 (x.2.2.labels.map encStr)] := by rw [encEnt_lit]
@[go_sem] theorem encEnt_cutm (x : List Val × Bool × Val) : cutC 9 ((encEnt x).map Cell.dat) = some ((encEnt x).map Cell.dat, []) := by rw [encEnt_eq]; rfl
@[go_sem low] theorem encEnt_cutmk (x : List Val × Bool × Val) (k : Nat) : cutC k ((encEnt x).map Cell.dat) = cutC k (([.sl 7 (x.1.map encVal), .bool x.2.1, .int .i64 x.2.2.kind, .int .i64 x.2.2.num, .str x.2.2.text, .sl 7 (x.2.2.kids.map encVal), .sl 2 (x.2.2.keys.map encKey), .sl 9 (x.2.2.ents.map encEnt), .sl 1 (x.2.2.labels.map encStr)] : List C).map Cell.dat) := by rw [encEnt_lit]
@[go_sem] theorem encEnt_soft (x : List Val × Bool × Val) : (encEnt x).map C.soft = encEnt x := by rw [encEnt_eq]; rfl
@[go_sem] theorem encEnt_len (x : List Val × Bool × Val) : lenIs 9 (encEnt x) = true := by rw [encEnt_eq]; rfl
@[go_sem high] theorem encEnt_takeP (x : List Val × Bool × Val) (n : Nat) (K : T → Prop) : takeP false n (encEnt x) K = K (.one (.dat (.sl 7 (x.1.map encVal)))) := by rw [encEnt_lit]; rfl
@[go_sem high] theorem encEnt_takeT (x : List Val × Bool × Val) (n : Nat) (K : T → Prop) : takeT false n ((encEnt x).map Cell.dat) K = K (.one (.dat (.sl 7 (x.1.map encVal)))) := by rw [encEnt_lit]; rfl
@[go_sem] theorem encEnt_lenm (x : List Val × Bool × Val) : lenIs 9 ((encEnt x).map Cell.dat) = true := by rw [encEnt_eq]; rfl
end Go.Sx
/-! Loops and forgetting. -/
set_option linter.unusedVariables false
namespace Go.Sx
variable {P : Program} {n : Nat} {Q : Exit → AS → Prop}

/-- every entry of the second environment stands in the first -/
def envSub (env : Env) : Env → Prop
  | [] => True
  | p :: τ => env.lookup p.1 = some p.2 ∧ envSub env τ

mutual
theorem Cell.ren_id : ∀ c : Cell, c.ren id = c
  | .dat c => rfl
  | .ptr k o => rfl
  | .own k m => rfl
  | .rp k sz i f => rfl
  | .arr k n => rfl
  | .ref r => rfl
  | .clo f caps => by simp only [Cell.ren, Cell.rens_id caps]
theorem Cell.rens_id : ∀ cs : List Cell, Cell.rens id cs = cs
  | [] => rfl
  | c :: cs => by simp only [Cell.rens, Cell.ren_id c, Cell.rens_id cs]
end
mutual
theorem T.ren_id : ∀ t : T, t.ren id = t
  | .one c => by simp only [T.ren, Cell.ren_id c]
  | .st r => rfl
  | .agg cs => by simp only [T.ren, Cell.rens_id cs]
  | .tup ts => by simp only [T.ren, T.rens_id ts]
  | .un => rfl
theorem T.rens_id : ∀ ts : List T, T.rens id ts = ts
  | [] => rfl
  | t :: ts => by simp only [T.rens, T.ren_id t, T.rens_id ts]
end
theorem Res.ren_id (r : Res) : r.ren id = r := by cases r <;> simp only [Res.ren, Cell.rens_id]

theorem envSub_spec {env : Env} : ∀ {τ : Env}, envSub env τ → ∀ p ∈ τ, env.lookup p.1 = some p.2
  | q :: τ, h, p, hm => by
    rcases List.mem_cons.1 hm with rfl | hm
    · exact h.1
    · exact envSub_spec h.2 p hm

theorem St.forget {κ : Kap} {M0 : Mem} {a : Act} {w : World} {env τ : Env} {B : Bx} (h : St κ M0 n ⟨env, B⟩ a w) (hs : envSub env τ) : St κ M0 n ⟨τ, B⟩ a w := by
  obtain ⟨M, ν, h1, h2, h3, h4, h5, h6⟩ := h
  exact ⟨M, ν, h1, h2, h3, fun d t e => h4 d t (envSub_spec hs (d, t) (lookup_mem e)), h5, h6⟩

theorem AWP.forget {c : Code} {env : Env} {B : Bx} (τ : Env) (hs : envSub env τ) (h : AWP P n c ⟨τ, B⟩ Q) : AWP P n c ⟨env, B⟩ Q :=
  fun κ M0 a w s => h κ M0 a w (s.forget hs)

/-- a loop whose boxes stay: the relation speaks of a number that every round lowers, and of an environment -/
theorem AWP.loopE {c : Code} {env : Env} {B : Bx} (I : Nat → Env → Bx → Prop) (k₀ : Nat) (τ : Env) (hs : envSub env τ) (h₀ : I k₀ τ B)
    (round : ∀ (k : Nat) (e : Env) (b : Bx), I k e b → AWP P n c ⟨e, b⟩ (Then (fun σ' => ∃ k' τ', k' < k ∧ envSub σ'.env τ' ∧ I k' τ' σ'.B) Q)) : AWP P n (.loop c) ⟨env, B⟩ Q := by
  refine AWP.forget τ hs ?_
  refine AWP.loop (fun k σ => I k σ.env σ.B) k₀ h₀ ?_
  intro k σ hI
  intro κ M0 a w s
  refine wp_mono (round k σ.env σ.B hI κ M0 a w s) ?_
  rintro e a' w' ⟨σ', s', q⟩
  cases e with
  | normal => obtain ⟨k', τ', h1, h2, h3⟩ := q; exact ⟨⟨τ', σ'.B⟩, s'.forget h2, k', h1, h3⟩
  | exit id => exact ⟨σ', s', q⟩
  | goto l => exact ⟨σ', s', q⟩
  | ret => exact ⟨σ', s', q⟩
  | panic ch => exact ⟨σ', s', q⟩
  | outgrown => exact ⟨σ', s', q⟩

theorem w64 {n : Int} (h : -9223372036854775808 ≤ n ∧ n ≤ 9223372036854775807) : IntKind.i64.wrap n = n := IntWalk.i64_in n h

/-- the state says that a slice is no longer than an int can tell -/
theorem AWP.len {c : Code} {env : Env} {B : Bx} (d : Nat) {sz : Nat} {rows : List (List C)} (hd : env.lookup d = some (.one (.dat (.sl sz rows)))) (h : rows.length ≤ 9223372036854775807 → AWP P n c ⟨env, B⟩ Q) : AWP P n c ⟨env, B⟩ Q := by
  intro κ M0 a w s
  refine h ?_ κ M0 a w s
  obtain ⟨M, ν, _, _, _, h4, _⟩ := s
  have := h4 d _ hd
  simp only [T.rep, Cell.rep, C.rep] at this
  obtain ⟨_, cap, _, _, h1, h2, _⟩ := this
  unfold maxLen at h2
  omega
attribute [go_sem] envSub

/-- of the environment only these are kept -/
def keepL (env : Env) : List Nat → Env
  | [] => []
  | d :: ds => match env.lookup d with
    | some t => (d, t) :: keepL env ds
    | none => keepL env ds
theorem keepL_lookup (env : Env) (d : Nat) (t : T) : ∀ ds, (keepL env ds).lookup d = some t → env.lookup d = some t
  | [], h => by simp [keepL] at h
  | e :: ds, h => by
    unfold keepL at h
    split at h
    · rename_i u hu
      rw [List.lookup_cons] at h
      split at h
      · rename_i hb
        have : d = e := by simpa using hb
        subst this
        cases h; exact hu
      · exact keepL_lookup env d t ds h
    · exact keepL_lookup env d t ds h
theorem AWP.keep {c : Code} {env : Env} {B : Bx} (ds : List Nat) (h : AWP P n c ⟨keepL env ds, B⟩ Q) : AWP P n c ⟨env, B⟩ Q := by
  intro κ M0 a w s
  refine h κ M0 a w ?_
  obtain ⟨M, ν, h1, h2, h3, h4, h5, h6⟩ := s
  exact ⟨M, ν, h1, h2, h3, fun d t e => h4 d t (keepL_lookup env d t ds e), h5, h6⟩
attribute [go_sem] keepL
end Go.Sx
/-! From a contract to what a row asks of a walk. -/
set_option linter.unusedVariables false
namespace Go.Sx
open Go.RowKit
variable {P : Program}

theorem keptBut_same {w w' : World} (may : MemPlace → Prop) (h1 : w'.os = w.os) (h2 : w'.output = w.output) (h : ∀ i, i < w.heap.size → w'.heap[i]? = w.heap[i]?) : w.keptBut w' may := by
  refine ⟨h1, h2, fun i hi => ?_⟩
  rw [h i hi]
  cases w.heap[i]? with
  | none => rfl
  | some o => cases o <;> first | exact ⟨rfl, rfl, rfl, fun _ _ => rfl⟩ | exact .inr ⟨rfl, rfl⟩ | rfl

theorem Sat.whole (w : World) (ν : Nu) : Sat ⟨w, boxBlocks [] ν, ν⟩ (fun b => w.heap[b]?) ν [] w :=
  ⟨rfl, rfl, rfl, Nat.le_refl _, Nat.le_refl _, fun _ _ _ => rfl, fun _ _ e => e, fun _ _ h => (by cases h), fun _ _ _ h => (by cases h), fun _ _ _ _ _ h => (by cases h), by simp⟩

end Go.Sx
